/- Of every input trystlaw11.WheelAll returns true and leaves its arguments as they were. No condition beyond the given statement's own. -/
import Derived.Test.YtjlmnegbgmpekaaWy
import Derived.Test.YtjlmnegbgmpekaaWw
import Derived.Test.YtjlmnegbgmpekaaRows
namespace Go.Proofs.Ytjlmnegbgmpekaa
open Go.Vc
set_option maxRecDepth 100000
theorem wheelAll_lifted (os : Os) (started : os.Started) (H : Type) (enc : TypeId × Value → H) :
    ReturnsInHanded {} Try.checked os 17 .any (Rows.wheelAllSpec.pre6 enc Try.prog Try.f17 Rows.wheelAllRow.domain false) (Rows.wheelAllSpec.post enc Try.prog Try.f17 false true false false) := by
  refine law_lifted (C := Try.checked) (tb := 4) (shs := [(false, [.lst true [.int .i64, .int .u64]])]) ownTry started (by kernel_rfl) Try.func17
    (ChangeSpec.witness6 (enc := enc) (C := Try.checked) false ⟨#[], #[.slice none 0 0], []⟩ 8 (by kernel_rfl) (by kernel_rfl) (by kernel_rfl) (by kernel_rfl))
    rfl (by kernel_rfl) Try.underlying4 laidOutTry (by kernel_rfl) (by kernel_rfl) ?_ ?_
  · intro ds hl
    rw [show Try.f17.params.toList.length = 1 from rfl] at hl
    match ds, hl with
    | [_], _ => rfl
  · intro qs h
    obtain ⟨p, rfl, h1⟩ := args1 h
    obtain ⟨l, rfl, hl⟩ := tms_of h1
    exact law17 l hl
theorem wheelAll_over : Rows.wheelAllRow.holds Try.pinned (OpenSpec.ofChange Rows.wheelAllSpec) :=
  OpenClaim.holds_of_wide 17 Try.f17 rfl rfl rfl rfl rfl rfl rfl ⟨rfl, rfl, rfl, rfl, rfl⟩ rfl rfl rfl rfl rfl (by kernel_rfl) Try.func17 (by kernel_rfl)
    (of_decide_eq_true (by kernel_rfl)) (by unfold Func.isWrapper; first | (rw [if_pos (by decide +kernel)]; kernel_rfl) | (rw [if_neg (by decide +kernel)]; exact ⟨rfl, rfl⟩))
    (fun os started H enc _ => wheelAll_lifted os started H enc)
/-- Of every input trystlaw11.WheelAll returns true and leaves its arguments as they were. -/
theorem wheelAll_proved : Rows.WheelAllSaid := wheelAll_over
#print axioms wheelAll_proved
end Go.Proofs.Ytjlmnegbgmpekaa
