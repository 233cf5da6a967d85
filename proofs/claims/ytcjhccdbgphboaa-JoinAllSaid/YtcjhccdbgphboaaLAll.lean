/- Of every input trystlaw09.JoinAll returns true and leaves its arguments as they were. No condition beyond the given statement's own. -/
import Derived.Test.YtcjhccdbgphboaaJf
import Derived.Test.YtcjhccdbgphboaaJh
import Derived.Test.YtcjhccdbgphboaaRows
namespace Go.Proofs.Ytcjhccdbgphboaa
open Go.Vc
set_option maxRecDepth 100000
theorem joinAll_lifted (os : Os) (started : os.Started) (H : Type) (enc : TypeId × Value → H) :
    ReturnsInHanded {} Try.checked os 8 .any (Rows.joinAllSpec.pre6 enc Try.prog Try.f8 Rows.joinAllRow.domain false) (Rows.joinAllSpec.post enc Try.prog Try.f8 false true false false) := by
  refine law_lifted (C := Try.checked) (tb := 4) (shs := [(false, [.int .u8]), (false, [.int .u8]), (false, [.bool])]) ownTry started (by kernel_rfl) Try.func8
    (ChangeSpec.witness6 (enc := enc) (C := Try.checked) false ⟨#[], #[.int .u8 0, .int .u8 0, .bool false], []⟩ 8 (by kernel_rfl) (by kernel_rfl) (by kernel_rfl) (by kernel_rfl))
    rfl (by kernel_rfl) Try.underlying4 laidOutTry (by kernel_rfl) (by kernel_rfl) ?_ ?_
  · intro ds hl
    rw [show Try.f8.params.toList.length = 3 from rfl] at hl
    match ds, hl with
    | [_, _, _], _ => rfl
  · intro qs h
    obtain ⟨p, q, r, rfl, h1, h2, h3⟩ := args3 h
    obtain ⟨a, rfl, ha⟩ := u8_of h1
    obtain ⟨b, rfl, hb⟩ := u8_of h2
    obtain ⟨c, rfl⟩ := bool_of h3
    exact law8 a b c ha hb
theorem joinAll_over : Rows.joinAllRow.holds Try.pinned (OpenSpec.ofChange Rows.joinAllSpec) :=
  OpenClaim.holds_of_wide 8 Try.f8 rfl rfl rfl rfl rfl rfl rfl ⟨rfl, rfl, rfl, rfl, rfl⟩ rfl rfl rfl rfl rfl (by kernel_rfl) Try.func8 (by kernel_rfl)
    (of_decide_eq_true (by kernel_rfl)) (by unfold Func.isWrapper; first | (rw [if_pos (by decide +kernel)]; kernel_rfl) | (rw [if_neg (by decide +kernel)]; exact ⟨rfl, rfl⟩))
    (fun os started H enc _ => joinAll_lifted os started H enc)
/-- Of every input trystlaw09.JoinAll returns true and leaves its arguments as they were. -/
theorem joinAll_proved : Rows.JoinAllSaid := joinAll_over
#print axioms joinAll_proved
end Go.Proofs.Ytcjhccdbgphboaa
