/- Of every input trystlaw09.JoinBound returns true and leaves its arguments as they were. No condition beyond the given statement's own. -/
import Derived.Test.YtcjhccdbgphboaaJf
import Derived.Test.YtcjhccdbgphboaaJg
import Derived.Test.YtcjhccdbgphboaaRows
namespace Go.Proofs.Ytcjhccdbgphboaa
open Go.Vc
set_option maxRecDepth 100000
theorem joinBound_lifted (os : Os) (started : os.Started) (H : Type) (enc : TypeId × Value → H) :
    ReturnsInHanded {} Try.checked os 9 .any (Rows.joinBoundSpec.pre6 enc Try.prog Try.f9 Rows.joinBoundRow.domain false) (Rows.joinBoundSpec.post enc Try.prog Try.f9 false true false false) := by
  refine law_lifted (C := Try.checked) (tb := 4) (shs := [(false, [.int .u16]), (false, [.int .u32])]) ownTry started (by kernel_rfl) Try.func9
    (ChangeSpec.witness6 (enc := enc) (C := Try.checked) false ⟨#[], #[.int .u16 0, .int .u32 0], []⟩ 8 (by kernel_rfl) (by kernel_rfl) (by kernel_rfl) (by kernel_rfl))
    rfl (by kernel_rfl) Try.underlying4 laidOutTry (by kernel_rfl) (by kernel_rfl) ?_ ?_
  · intro ds hl
    rw [show Try.f9.params.toList.length = 2 from rfl] at hl
    match ds, hl with
    | [_, _], _ => rfl
  · intro qs h
    obtain ⟨p, q, rfl, h1, h2⟩ := args2 h
    obtain ⟨w, rfl, hw⟩ := int_of h1
    obtain ⟨a, rfl, ha⟩ := int_of h2
    exact law9 w a (Go.bounds_u16 hw) (Go.bounds_u32 ha)
theorem joinBound_over : Rows.joinBoundRow.holds Try.pinned (OpenSpec.ofChange Rows.joinBoundSpec) :=
  OpenClaim.holds_of_wide 9 Try.f9 rfl rfl rfl rfl rfl rfl rfl ⟨rfl, rfl, rfl, rfl, rfl⟩ rfl rfl rfl rfl rfl (by kernel_rfl) Try.func9 (by kernel_rfl)
    (of_decide_eq_true (by kernel_rfl)) (by unfold Func.isWrapper; first | (rw [if_pos (by decide +kernel)]; kernel_rfl) | (rw [if_neg (by decide +kernel)]; exact ⟨rfl, rfl⟩))
    (fun os started H enc _ => joinBound_lifted os started H enc)
/-- Of every input trystlaw09.JoinBound returns true and leaves its arguments as they were. -/
theorem joinBound_proved : Rows.JoinBoundSaid := joinBound_over
#print axioms joinBound_proved
end Go.Proofs.Ytcjhccdbgphboaa
