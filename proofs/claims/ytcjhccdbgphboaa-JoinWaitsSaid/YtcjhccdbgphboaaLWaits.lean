/- Of every input trystlaw09.JoinWaits returns true and leaves its arguments as they were. No condition beyond the given statement's own. -/
import Derived.Test.YtcjhccdbgphboaaJf
import Derived.Test.YtcjhccdbgphboaaJk
import Derived.Test.YtcjhccdbgphboaaRows
namespace Go.Proofs.Ytcjhccdbgphboaa
open Go.Vc
set_option maxRecDepth 100000
theorem joinWaits_lifted (os : Os) (started : os.Started) (H : Type) (enc : TypeId × Value → H) :
    ReturnsInHanded {} Try.checked os 6 .any (Rows.joinWaitsSpec.pre6 enc Try.prog Try.f6 Rows.joinWaitsRow.domain false) (Rows.joinWaitsSpec.post enc Try.prog Try.f6 false true false false) := by
  refine law_lifted (C := Try.checked) (tb := 4) (shs := [(false, [.int .u8]), (false, [.int .u8]), (false, [.lst false [.int .u8]])]) ownTry started (by kernel_rfl) Try.func6
    (ChangeSpec.witness6 (enc := enc) (C := Try.checked) false ⟨#[], #[.int .u8 0, .int .u8 0, .slice none 0 0], []⟩ 8 (by kernel_rfl) (by kernel_rfl) (by kernel_rfl) (by kernel_rfl))
    rfl (by kernel_rfl) Try.underlying4 laidOutTry (by kernel_rfl) (by kernel_rfl) ?_ ?_
  · intro ds hl
    rw [show Try.f6.params.toList.length = 3 from rfl] at hl
    match ds, hl with
    | [_, _, _], _ => rfl
  · intro qs h
    obtain ⟨p, q, r, rfl, h1, h2, h3⟩ := args3 h
    obtain ⟨a, rfl, ha⟩ := u8_of h1
    obtain ⟨b, rfl, hb⟩ := u8_of h2
    obtain ⟨l, rfl, hl⟩ := bs_of h3
    exact law6 a b l ha hb hl
theorem joinWaits_over : Rows.joinWaitsRow.holds Try.pinned (OpenSpec.ofChange Rows.joinWaitsSpec) :=
  OpenClaim.holds_of_wide 6 Try.f6 rfl rfl rfl rfl rfl rfl rfl ⟨rfl, rfl, rfl, rfl, rfl⟩ rfl rfl rfl rfl rfl (by kernel_rfl) Try.func6 (by kernel_rfl)
    (of_decide_eq_true (by kernel_rfl)) (by unfold Func.isWrapper; first | (rw [if_pos (by decide +kernel)]; kernel_rfl) | (rw [if_neg (by decide +kernel)]; exact ⟨rfl, rfl⟩))
    (fun os started H enc _ => joinWaits_lifted os started H enc)
/-- Of every input trystlaw09.JoinWaits returns true and leaves its arguments as they were. -/
theorem joinWaits_proved : Rows.JoinWaitsSaid := joinWaits_over
#print axioms joinWaits_proved
end Go.Proofs.Ytcjhccdbgphboaa
