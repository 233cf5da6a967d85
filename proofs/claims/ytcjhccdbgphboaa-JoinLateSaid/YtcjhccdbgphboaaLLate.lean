/- Of every input trystlaw09.JoinLate returns true and leaves its arguments as they were. No condition beyond the given statement's own. -/
import Derived.Test.YtcjhccdbgphboaaJf
import Derived.Test.YtcjhccdbgphboaaJg
import Derived.Test.YtcjhccdbgphboaaRows
namespace Go.Proofs.Ytcjhccdbgphboaa
open Go.Vc
set_option maxRecDepth 100000
theorem joinLate_lifted (os : Os) (started : os.Started) (H : Type) (enc : TypeId × Value → H) :
    ReturnsInHanded {} Try.checked os 7 .any (Rows.joinLateSpec.pre6 enc Try.prog Try.f7 Rows.joinLateRow.domain false) (Rows.joinLateSpec.post enc Try.prog Try.f7 false true false false) := by
  refine law_lifted (C := Try.checked) (tb := 4) (shs := [(true, [.str, .int .i64, .int .i64, .int .i64]), (false, [.lst true [.int .i64, .int .u64, .int .i64]]), (true, [.int .i64, .int .u64, .int .i64])]) ownTry started (by kernel_rfl) Try.func7
    (ChangeSpec.witness6 (enc := enc) (C := Try.checked) false ⟨#[], #[.agg #[.string ⟨#[]⟩, .int .i64 0, .int .i64 0, .int .i64 0], .slice none 0 0, .agg #[.int .i64 0, .int .u64 0, .int .i64 0]], []⟩ 8 (by kernel_rfl) (by kernel_rfl) (by kernel_rfl) (by kernel_rfl))
    rfl (by kernel_rfl) Try.underlying4 laidOutTry (by kernel_rfl) (by kernel_rfl) ?_ ?_
  · intro ds hl
    rw [show Try.f7.params.toList.length = 3 from rfl] at hl
    match ds, hl with
    | [_, _, _], _ => rfl
  · intro qs h
    obtain ⟨p, q, r, rfl, h1, h2, h3⟩ := args3 h
    obtain ⟨j, rfl⟩ := jn_of h1
    obtain ⟨l, rfl, hl⟩ := ks_of h2
    obtain ⟨x, rfl⟩ := kp_of h3
    exact law7 j l x hl
theorem joinLate_over : Rows.joinLateRow.holds Try.pinned (OpenSpec.ofChange Rows.joinLateSpec) :=
  OpenClaim.holds_of_wide 7 Try.f7 rfl rfl rfl rfl rfl rfl rfl ⟨rfl, rfl, rfl, rfl, rfl⟩ rfl rfl rfl rfl rfl (by kernel_rfl) Try.func7 (by kernel_rfl)
    (of_decide_eq_true (by kernel_rfl)) (by unfold Func.isWrapper; first | (rw [if_pos (by decide +kernel)]; kernel_rfl) | (rw [if_neg (by decide +kernel)]; exact ⟨rfl, rfl⟩))
    (fun os started H enc _ => joinLate_lifted os started H enc)
/-- Of every input trystlaw09.JoinLate returns true and leaves its arguments as they were. -/
theorem joinLate_proved : Rows.JoinLateSaid := joinLate_over
#print axioms joinLate_proved
end Go.Proofs.Ytcjhccdbgphboaa
