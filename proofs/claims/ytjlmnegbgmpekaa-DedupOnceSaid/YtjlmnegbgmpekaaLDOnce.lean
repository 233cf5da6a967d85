/- Of every input trystlaw13.DedupOnce returns true and leaves its arguments as they were. No condition beyond the given statement's own. -/
import Derived.Test.YtjlmnegbgmpekaaWo
import Derived.Test.YtjlmnegbgmpekaaRows
namespace Go.Proofs.Ytjlmnegbgmpekaa
open Go.Vc
set_option maxRecDepth 100000
theorem dedupOnce_lifted (os : Os) (started : os.Started) (H : Type) (enc : TypeId × Value → H) :
    ReturnsInHanded {} Try.checked os 8 .any (Rows.dedupOnceSpec.pre6 enc Try.prog Try.f8 Rows.dedupOnceRow.domain false) (Rows.dedupOnceSpec.post enc Try.prog Try.f8 false true false false) := by
  refine law_lifted (C := Try.checked) (tb := 4) (shs := [(false, [.lst false [.int .u8]]), (false, [.lst false [.int .u8]])]) ownTry started (by kernel_rfl) Try.func8
    (ChangeSpec.witness6 (enc := enc) (C := Try.checked) false ⟨#[], #[.slice none 0 0, .slice none 0 0], []⟩ 8 (by kernel_rfl) (by kernel_rfl) (by kernel_rfl) (by kernel_rfl))
    rfl (by kernel_rfl) Try.underlying4 laidOutTry (by kernel_rfl) (by kernel_rfl) ?_ ?_
  · intro ds hl
    rw [show Try.f8.params.toList.length = 2 from rfl] at hl
    match ds, hl with
    | [_, _], _ => rfl
  · intro qs h
    obtain ⟨p, q, rfl, h1, h2⟩ := args2 h
    obtain ⟨l, rfl, hl, hx⟩ := u8s_of h1
    obtain ⟨m, rfl, hm, hy⟩ := u8s_of h2
    exact law8 l m hl hm hx hy
theorem dedupOnce_over : Rows.dedupOnceRow.holds Try.pinned (OpenSpec.ofChange Rows.dedupOnceSpec) :=
  OpenClaim.holds_of_wide 8 Try.f8 rfl rfl rfl rfl rfl rfl rfl ⟨rfl, rfl, rfl, rfl, rfl⟩ rfl rfl rfl rfl rfl (by kernel_rfl) Try.func8 (by kernel_rfl)
    (of_decide_eq_true (by kernel_rfl)) (by unfold Func.isWrapper; first | (rw [if_pos (by decide +kernel)]; kernel_rfl) | (rw [if_neg (by decide +kernel)]; exact ⟨rfl, rfl⟩))
    (fun os started H enc _ => dedupOnce_lifted os started H enc)
/-- Of every input trystlaw13.DedupOnce returns true and leaves its arguments as they were. -/
theorem dedupOnce_proved : Rows.DedupOnceSaid := dedupOnce_over
#print axioms dedupOnce_proved
end Go.Proofs.Ytjlmnegbgmpekaa
