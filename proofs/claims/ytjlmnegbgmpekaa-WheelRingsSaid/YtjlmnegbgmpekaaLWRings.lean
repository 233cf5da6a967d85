/- Of every input trystlaw11.WheelRings returns true and leaves its arguments as they were. No condition beyond the given statement's own. -/
import Derived.Test.YtjlmnegbgmpekaaWy
import Derived.Test.YtjlmnegbgmpekaaWz
import Derived.Test.YtjlmnegbgmpekaaRows
namespace Go.Proofs.Ytjlmnegbgmpekaa
open Go.Vc
set_option maxRecDepth 100000
theorem wheelRings_lifted (os : Os) (started : os.Started) (H : Type) (enc : TypeId × Value → H) :
    ReturnsInHanded {} Try.checked os 14 .any (Rows.wheelRingsSpec.pre6 enc Try.prog Try.f14 Rows.wheelRingsRow.domain false) (Rows.wheelRingsSpec.post enc Try.prog Try.f14 false true false false) := by
  refine law_lifted (C := Try.checked) (tb := 4) (shs := [(false, [.lst true [.int .i64, .int .u64]]), (false, [.int .i64])]) ownTry started (by kernel_rfl) Try.func14
    (ChangeSpec.witness6 (enc := enc) (C := Try.checked) false ⟨#[], #[.slice none 0 0, .int .i64 0], []⟩ 8 (by kernel_rfl) (by kernel_rfl) (by kernel_rfl) (by kernel_rfl))
    rfl (by kernel_rfl) Try.underlying4 laidOutTry (by kernel_rfl) (by kernel_rfl) ?_ ?_
  · intro ds hl
    rw [show Try.f14.params.toList.length = 2 from rfl] at hl
    match ds, hl with
    | [_, _], _ => rfl
  · intro qs h
    obtain ⟨p, q, rfl, h1, h2⟩ := args2 h
    obtain ⟨l, rfl, hl⟩ := tms_of h1
    obtain ⟨n, rfl, _⟩ := int_of h2
    exact law14 l n hl
theorem wheelRings_over : Rows.wheelRingsRow.holds Try.pinned (OpenSpec.ofChange Rows.wheelRingsSpec) :=
  OpenClaim.holds_of_wide 14 Try.f14 rfl rfl rfl rfl rfl rfl rfl ⟨rfl, rfl, rfl, rfl, rfl⟩ rfl rfl rfl rfl rfl (by kernel_rfl) Try.func14 (by kernel_rfl)
    (of_decide_eq_true (by kernel_rfl)) (by unfold Func.isWrapper; first | (rw [if_pos (by decide +kernel)]; kernel_rfl) | (rw [if_neg (by decide +kernel)]; exact ⟨rfl, rfl⟩))
    (fun os started H enc _ => wheelRings_lifted os started H enc)
/-- Of every input trystlaw11.WheelRings returns true and leaves its arguments as they were. -/
theorem wheelRings_proved : Rows.WheelRingsSaid := wheelRings_over
#print axioms wheelRings_proved
end Go.Proofs.Ytjlmnegbgmpekaa
