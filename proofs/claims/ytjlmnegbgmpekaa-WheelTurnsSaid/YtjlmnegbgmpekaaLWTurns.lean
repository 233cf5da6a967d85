/- Of every input trystlaw11.WheelTurns returns true and leaves its arguments as they were. No condition beyond the given statement's own. -/
import Derived.Test.YtjlmnegbgmpekaaWy
import Derived.Test.YtjlmnegbgmpekaaWx
import Derived.Test.YtjlmnegbgmpekaaRows
namespace Go.Proofs.Ytjlmnegbgmpekaa
open Go.Vc
set_option maxRecDepth 100000
theorem wheelTurns_lifted (os : Os) (started : os.Started) (H : Type) (enc : TypeId × Value → H) :
    ReturnsInHanded {} Try.checked os 18 .any (Rows.wheelTurnsSpec.pre6 enc Try.prog Try.f18 Rows.wheelTurnsRow.domain false) (Rows.wheelTurnsSpec.post enc Try.prog Try.f18 false true false false) := by
  refine law_lifted (C := Try.checked) (tb := 4) (shs := [(false, [.lst true [.int .i64, .int .u64]]), (true, [.int .i64, .int .u64]), (true, [.int .i64, .int .u64])]) ownTry started (by kernel_rfl) Try.func18
    (ChangeSpec.witness6 (enc := enc) (C := Try.checked) false ⟨#[], #[.slice none 0 0, .agg #[.int .i64 0, .int .u64 0], .agg #[.int .i64 0, .int .u64 0]], []⟩ 8 (by kernel_rfl) (by kernel_rfl) (by kernel_rfl) (by kernel_rfl))
    rfl (by kernel_rfl) Try.underlying4 laidOutTry (by kernel_rfl) (by kernel_rfl) ?_ ?_
  · intro ds hl
    rw [show Try.f18.params.toList.length = 3 from rfl] at hl
    match ds, hl with
    | [_, _, _], _ => rfl
  · intro qs h
    obtain ⟨p, q, r, rfl, h1, h2, h3⟩ := args3 h
    obtain ⟨l, rfl, hl⟩ := tms_of h1
    obtain ⟨x, rfl⟩ := tm1_of h2
    obtain ⟨y, rfl⟩ := tm1_of h3
    exact law18 l x y hl
theorem wheelTurns_over : Rows.wheelTurnsRow.holds Try.pinned (OpenSpec.ofChange Rows.wheelTurnsSpec) :=
  OpenClaim.holds_of_wide 18 Try.f18 rfl rfl rfl rfl rfl rfl rfl ⟨rfl, rfl, rfl, rfl, rfl⟩ rfl rfl rfl rfl rfl (by kernel_rfl) Try.func18 (by kernel_rfl)
    (of_decide_eq_true (by kernel_rfl)) (by unfold Func.isWrapper; first | (rw [if_pos (by decide +kernel)]; kernel_rfl) | (rw [if_neg (by decide +kernel)]; exact ⟨rfl, rfl⟩))
    (fun os started H enc _ => wheelTurns_lifted os started H enc)
/-- Of every input trystlaw11.WheelTurns returns true and leaves its arguments as they were. -/
theorem wheelTurns_proved : Rows.WheelTurnsSaid := wheelTurns_over
#print axioms wheelTurns_proved
end Go.Proofs.Ytjlmnegbgmpekaa
