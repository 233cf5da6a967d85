/- Of every input trystlaw11.WheelSets returns true and leaves its arguments as they were. No condition beyond the given statement's own. -/
import Derived.Test.YtjlmnegbgmpekaaWy
import Derived.Test.YtjlmnegbgmpekaaXb
import Derived.Test.YtjlmnegbgmpekaaRows
namespace Go.Proofs.Ytjlmnegbgmpekaa
open Go.Vc
set_option maxRecDepth 100000
theorem wheelSets_lifted (os : Os) (started : os.Started) (H : Type) (enc : TypeId × Value → H) :
    ReturnsInHanded {} Try.checked os 19 .any (Rows.wheelSetsSpec.pre6 enc Try.prog Try.f19 Rows.wheelSetsRow.domain false) (Rows.wheelSetsSpec.post enc Try.prog Try.f19 false true false false) := by
  refine law_lifted (C := Try.checked) (tb := 4) (shs := [(false, [.lst true [.int .i64, .int .u64]]), (false, [.int .u64]), (false, [.int .i64])]) ownTry started (by kernel_rfl) Try.func19
    (ChangeSpec.witness6 (enc := enc) (C := Try.checked) false ⟨#[], #[.slice none 0 0, .int .u64 0, .int .i64 0], []⟩ 8 (by kernel_rfl) (by kernel_rfl) (by kernel_rfl) (by kernel_rfl))
    rfl (by kernel_rfl) Try.underlying4 laidOutTry (by kernel_rfl) (by kernel_rfl) ?_ ?_
  · intro ds hl
    rw [show Try.f19.params.toList.length = 3 from rfl] at hl
    match ds, hl with
    | [_, _, _], _ => rfl
  · intro qs h
    obtain ⟨p, q, r, rfl, h1, h2, h3⟩ := args3 h
    obtain ⟨l, rfl, hl⟩ := tms_of h1
    obtain ⟨a, rfl, _⟩ := int_of h2
    obtain ⟨b, rfl, _⟩ := int_of h3
    exact law19 l a b hl
theorem wheelSets_over : Rows.wheelSetsRow.holds Try.pinned (OpenSpec.ofChange Rows.wheelSetsSpec) :=
  OpenClaim.holds_of_wide 19 Try.f19 rfl rfl rfl rfl rfl rfl rfl ⟨rfl, rfl, rfl, rfl, rfl⟩ rfl rfl rfl rfl rfl (by kernel_rfl) Try.func19 (by kernel_rfl)
    (of_decide_eq_true (by kernel_rfl)) (by unfold Func.isWrapper; first | (rw [if_pos (by decide +kernel)]; kernel_rfl) | (rw [if_neg (by decide +kernel)]; exact ⟨rfl, rfl⟩))
    (fun os started H enc _ => wheelSets_lifted os started H enc)
/-- Of every input trystlaw11.WheelSets returns true and leaves its arguments as they were. -/
theorem wheelSets_proved : Rows.WheelSetsSaid := wheelSets_over
#print axioms wheelSets_proved
end Go.Proofs.Ytjlmnegbgmpekaa
