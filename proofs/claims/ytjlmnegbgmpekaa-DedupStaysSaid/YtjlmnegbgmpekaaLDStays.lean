/- Of every input trystlaw13.DedupStays returns true and leaves its arguments as they were. No condition beyond the given statement's own. -/
import Derived.Test.YtjlmnegbgmpekaaWn
import Derived.Test.YtjlmnegbgmpekaaRows
namespace Go.Proofs.Ytjlmnegbgmpekaa
open Go.Vc
set_option maxRecDepth 100000
theorem dedupStays_lifted (os : Os) (started : os.Started) (H : Type) (enc : TypeId × Value → H) :
    ReturnsInHanded {} Try.checked os 11 .any (Rows.dedupStaysSpec.pre6 enc Try.prog Try.f11 Rows.dedupStaysRow.domain false) (Rows.dedupStaysSpec.post enc Try.prog Try.f11 false true false false) := by
  refine law_lifted (C := Try.checked) (tb := 4) (shs := [(false, [.lst true [.str, .int .u64, .int .i64]]), (true, [.str, .int .u64, .int .i64])]) ownTry started (by kernel_rfl) Try.func11
    (ChangeSpec.witness6 (enc := enc) (C := Try.checked) false ⟨#[], #[.slice none 0 0, .agg #[.string ⟨#[]⟩, .int .u64 0, .int .i64 0]], []⟩ 8 (by kernel_rfl) (by kernel_rfl) (by kernel_rfl) (by kernel_rfl))
    rfl (by kernel_rfl) Try.underlying4 laidOutTry (by kernel_rfl) (by kernel_rfl) ?_ ?_
  · intro ds hl
    rw [show Try.f11.params.toList.length = 2 from rfl] at hl
    match ds, hl with
    | [_, _], _ => rfl
  · intro qs h
    obtain ⟨p, q, rfl, h1, h2⟩ := args2 h
    obtain ⟨l, rfl, hl, hk⟩ := ls_of h1
    obtain ⟨x, rfl, hx⟩ := la1_of h2
    exact law11 l x hl hx
theorem dedupStays_over : Rows.dedupStaysRow.holds Try.pinned (OpenSpec.ofChange Rows.dedupStaysSpec) :=
  OpenClaim.holds_of_wide 11 Try.f11 rfl rfl rfl rfl rfl rfl rfl ⟨rfl, rfl, rfl, rfl, rfl⟩ rfl rfl rfl rfl rfl (by kernel_rfl) Try.func11 (by kernel_rfl)
    (of_decide_eq_true (by kernel_rfl)) (by unfold Func.isWrapper; first | (rw [if_pos (by decide +kernel)]; kernel_rfl) | (rw [if_neg (by decide +kernel)]; exact ⟨rfl, rfl⟩))
    (fun os started H enc _ => dedupStays_lifted os started H enc)
/-- Of every input trystlaw13.DedupStays returns true and leaves its arguments as they were. -/
theorem dedupStays_proved : Rows.DedupStaysSaid := dedupStays_over
#print axioms dedupStays_proved
end Go.Proofs.Ytjlmnegbgmpekaa
