/- Of every input trystlaw13.DedupNexts returns true and leaves its arguments as they were. No condition beyond the given statement's own. -/
import Derived.Test.YtjlmnegbgmpekaaWn
import Derived.Test.YtjlmnegbgmpekaaRows
namespace Go.Proofs.Ytjlmnegbgmpekaa
open Go.Vc
set_option maxRecDepth 100000
theorem dedupNexts_lifted (os : Os) (started : os.Started) (H : Type) (enc : TypeId × Value → H) :
    ReturnsInHanded {} Try.checked os 10 .any (Rows.dedupNextsSpec.pre6 enc Try.prog Try.f10 Rows.dedupNextsRow.domain false) (Rows.dedupNextsSpec.post enc Try.prog Try.f10 false true false false) := by
  refine law_lifted (C := Try.checked) (tb := 4) (shs := [(false, [.lst true [.str, .int .u64, .int .i64]]), (false, [.str]), (false, [.int .u64])]) ownTry started (by kernel_rfl) Try.func10
    (ChangeSpec.witness6 (enc := enc) (C := Try.checked) false ⟨#[], #[.slice none 0 0, .string ⟨#[]⟩, .int .u64 0], []⟩ 8 (by kernel_rfl) (by kernel_rfl) (by kernel_rfl) (by kernel_rfl))
    rfl (by kernel_rfl) Try.underlying4 laidOutTry (by kernel_rfl) (by kernel_rfl) ?_ ?_
  · intro ds hl
    rw [show Try.f10.params.toList.length = 3 from rfl] at hl
    match ds, hl with
    | [_, _, _], _ => rfl
  · intro qs h
    obtain ⟨p, q, r, rfl, h1, h2, h3⟩ := args3 h
    obtain ⟨l, rfl, hl, hk⟩ := ls_of h1
    obtain ⟨s, rfl, _⟩ := str_of h2
    obtain ⟨n, rfl, hn⟩ := u64_of h3
    exact law10 l s n hl hk hn
theorem dedupNexts_over : Rows.dedupNextsRow.holds Try.pinned (OpenSpec.ofChange Rows.dedupNextsSpec) :=
  OpenClaim.holds_of_wide 10 Try.f10 rfl rfl rfl rfl rfl rfl rfl ⟨rfl, rfl, rfl, rfl, rfl⟩ rfl rfl rfl rfl rfl (by kernel_rfl) Try.func10 (by kernel_rfl)
    (of_decide_eq_true (by kernel_rfl)) (by unfold Func.isWrapper; first | (rw [if_pos (by decide +kernel)]; kernel_rfl) | (rw [if_neg (by decide +kernel)]; exact ⟨rfl, rfl⟩))
    (fun os started H enc _ => dedupNexts_lifted os started H enc)
/-- Of every input trystlaw13.DedupNexts returns true and leaves its arguments as they were. -/
theorem dedupNexts_proved : Rows.DedupNextsSaid := dedupNexts_over
#print axioms dedupNexts_proved
end Go.Proofs.Ytjlmnegbgmpekaa
