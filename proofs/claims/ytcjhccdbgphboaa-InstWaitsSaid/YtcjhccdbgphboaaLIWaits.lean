/- Of every input trystlaw10.InstWaits returns true and leaves its arguments as they were. No condition beyond the given statement's own. -/
import Derived.Test.YtcjhccdbgphboaaJf
import Derived.Test.YtcjhccdbgphboaaIg
import Derived.Test.YtcjhccdbgphboaaRows
namespace Go.Proofs.Ytcjhccdbgphboaa
open Go.Vc
set_option maxRecDepth 100000
theorem instWaits_lifted (os : Os) (started : os.Started) (H : Type) (enc : TypeId × Value → H) :
    ReturnsInHanded {} Try.checked os 16 .any (Rows.instWaitsSpec.pre6 enc Try.prog Try.f16 Rows.instWaitsRow.domain false) (Rows.instWaitsSpec.post enc Try.prog Try.f16 false true false false) := by
  refine law_lifted (C := Try.checked) (tb := 4) (shs := [(true, [.str, .int .i64, .int .i64, .int .i64, .lst true [.bool, .int .i64, .str, .lst true [.int .i64, .int .u64, .int .i64]], .bool, .int .i64, .str, .int .i64, .int .u64, .int .i64, .int .i64])]) ownTry started (by kernel_rfl) Try.func16
    (ChangeSpec.witness6 (enc := enc) (C := Try.checked) false ⟨#[], #[.agg #[.string ⟨#[]⟩, .int .i64 0, .int .i64 0, .int .i64 0, .slice none 0 0, .bool false, .int .i64 0, .string ⟨#[]⟩, .int .i64 0, .int .u64 0, .int .i64 0, .int .i64 0]], []⟩ 8 (by kernel_rfl) (by kernel_rfl) (by kernel_rfl) (by kernel_rfl))
    rfl (by kernel_rfl) Try.underlying4 laidOutTry (by kernel_rfl) (by kernel_rfl) ?_ ?_
  · intro ds hl
    rw [show Try.f16.params.toList.length = 1 from rfl] at hl
    match ds, hl with
    | [_], _ => rfl
  · intro qs h
    obtain ⟨p, rfl, h1⟩ := args1 h
    obtain ⟨f, rfl, hl, hk⟩ := fd_of h1
    exact law16 f hl hk
theorem instWaits_over : Rows.instWaitsRow.holds Try.pinned (OpenSpec.ofChange Rows.instWaitsSpec) :=
  OpenClaim.holds_of_wide 16 Try.f16 rfl rfl rfl rfl rfl rfl rfl ⟨rfl, rfl, rfl, rfl, rfl⟩ rfl rfl rfl rfl rfl (by kernel_rfl) Try.func16 (by kernel_rfl)
    (of_decide_eq_true (by kernel_rfl)) (by unfold Func.isWrapper; first | (rw [if_pos (by decide +kernel)]; kernel_rfl) | (rw [if_neg (by decide +kernel)]; exact ⟨rfl, rfl⟩))
    (fun os started H enc _ => instWaits_lifted os started H enc)
/-- Of every input trystlaw10.InstWaits returns true and leaves its arguments as they were. -/
theorem instWaits_proved : Rows.InstWaitsSaid := instWaits_over
#print axioms instWaits_proved
end Go.Proofs.Ytcjhccdbgphboaa
