/- Of every input trystlaw09.JoinAny returns true and leaves its arguments as they were. No condition beyond the given statement's own. -/
import Derived.Test.YtcjhccdbgphboaaJf
import Derived.Test.YtcjhccdbgphboaaJg
import Derived.Test.YtcjhccdbgphboaaRows
namespace Go.Proofs.Ytcjhccdbgphboaa
open Go.Vc
set_option maxRecDepth 100000
theorem joinAny_lifted (os : Os) (started : os.Started) (H : Type) (enc : TypeId × Value → H) :
    ReturnsInHanded {} Try.checked os 10 .any (Rows.joinAnySpec.pre6 enc Try.prog Try.f10 Rows.joinAnyRow.domain false) (Rows.joinAnySpec.post enc Try.prog Try.f10 false true false false) := by
  refine law_lifted (C := Try.checked) (tb := 4) (shs := [(false, [.lst true [.int .i64, .int .u64, .int .i64]]), (false, [.bool])]) ownTry started (by kernel_rfl) Try.func10
    (ChangeSpec.witness6 (enc := enc) (C := Try.checked) false ⟨#[], #[.slice none 0 0, .bool false], []⟩ 8 (by kernel_rfl) (by kernel_rfl) (by kernel_rfl) (by kernel_rfl))
    rfl (by kernel_rfl) Try.underlying4 laidOutTry (by kernel_rfl) (by kernel_rfl) ?_ ?_
  · intro ds hl
    rw [show Try.f10.params.toList.length = 2 from rfl] at hl
    match ds, hl with
    | [_, _], _ => rfl
  · intro qs h
    obtain ⟨p, q, rfl, h1, h2⟩ := args2 h
    obtain ⟨l, rfl, hl⟩ := ks_of h1
    obtain ⟨b, rfl⟩ := bool_of h2
    exact law10 l b hl
theorem joinAny_over : Rows.joinAnyRow.holds Try.pinned (OpenSpec.ofChange Rows.joinAnySpec) :=
  OpenClaim.holds_of_wide 10 Try.f10 rfl rfl rfl rfl rfl rfl rfl ⟨rfl, rfl, rfl, rfl, rfl⟩ rfl rfl rfl rfl rfl (by kernel_rfl) Try.func10 (by kernel_rfl)
    (of_decide_eq_true (by kernel_rfl)) (by unfold Func.isWrapper; first | (rw [if_pos (by decide +kernel)]; kernel_rfl) | (rw [if_neg (by decide +kernel)]; exact ⟨rfl, rfl⟩))
    (fun os started H enc _ => joinAny_lifted os started H enc)
/-- Of every input trystlaw09.JoinAny returns true and leaves its arguments as they were. -/
theorem joinAny_proved : Rows.JoinAnySaid := joinAny_over
#print axioms joinAny_proved
end Go.Proofs.Ytcjhccdbgphboaa
