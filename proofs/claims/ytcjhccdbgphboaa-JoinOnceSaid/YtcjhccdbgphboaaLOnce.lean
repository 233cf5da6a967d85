/- Of every input trystlaw09.JoinOnce returns true and leaves its arguments as they were. No condition beyond the given statement's own. -/
import Derived.Test.YtcjhccdbgphboaaJf
import Derived.Test.YtcjhccdbgphboaaJm
import Derived.Test.YtcjhccdbgphboaaRows
namespace Go.Proofs.Ytcjhccdbgphboaa
open Go.Vc
set_option maxRecDepth 100000
theorem joinOnce_lifted (os : Os) (started : os.Started) (H : Type) (enc : TypeId × Value → H) :
    ReturnsInHanded {} Try.checked os 5 .any (Rows.joinOnceSpec.pre6 enc Try.prog Try.f5 Rows.joinOnceRow.domain false) (Rows.joinOnceSpec.post enc Try.prog Try.f5 false true false false) := by
  refine law_lifted (C := Try.checked) (tb := 4) (shs := [(true, [.str, .int .i64, .int .i64, .int .i64]), (false, [.lst true [.int .i64, .int .u64, .int .i64]])]) ownTry started (by kernel_rfl) Try.func5
    (ChangeSpec.witness6 (enc := enc) (C := Try.checked) false ⟨#[], #[.agg #[.string ⟨#[]⟩, .int .i64 0, .int .i64 0, .int .i64 0], .slice none 0 0], []⟩ 8 (by kernel_rfl) (by kernel_rfl) (by kernel_rfl) (by kernel_rfl))
    rfl (by kernel_rfl) Try.underlying4 laidOutTry (by kernel_rfl) (by kernel_rfl) ?_ ?_
  · intro ds hl
    rw [show Try.f5.params.toList.length = 2 from rfl] at hl
    match ds, hl with
    | [_, _], _ => rfl
  · intro qs h
    obtain ⟨p, q, rfl, h1, h2⟩ := args2 h
    obtain ⟨j, rfl⟩ := jn_of h1
    obtain ⟨l, rfl, hl⟩ := ks_of h2
    exact law5 j l hl
theorem joinOnce_over : Rows.joinOnceRow.holds Try.pinned (OpenSpec.ofChange Rows.joinOnceSpec) :=
  OpenClaim.holds_of_wide 5 Try.f5 rfl rfl rfl rfl rfl rfl rfl ⟨rfl, rfl, rfl, rfl, rfl⟩ rfl rfl rfl rfl rfl (by kernel_rfl) Try.func5 (by kernel_rfl)
    (of_decide_eq_true (by kernel_rfl)) (by unfold Func.isWrapper; first | (rw [if_pos (by decide +kernel)]; kernel_rfl) | (rw [if_neg (by decide +kernel)]; exact ⟨rfl, rfl⟩))
    (fun os started H enc _ => joinOnce_lifted os started H enc)
/-- Of every input trystlaw09.JoinOnce returns true and leaves its arguments as they were. -/
theorem joinOnce_proved : Rows.JoinOnceSaid := joinOnce_over
#print axioms joinOnce_proved
end Go.Proofs.Ytcjhccdbgphboaa
