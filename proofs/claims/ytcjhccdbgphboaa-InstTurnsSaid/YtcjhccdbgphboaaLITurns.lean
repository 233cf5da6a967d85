/- Of every input trystlaw10.InstTurns returns true and leaves its arguments as they were. No condition beyond the given statement's own. -/
import Derived.Test.YtcjhccdbgphboaaJf
import Derived.Test.YtcjhccdbgphboaaIg
import Derived.Test.YtcjhccdbgphboaaRows
namespace Go.Proofs.Ytcjhccdbgphboaa
open Go.Vc
set_option maxRecDepth 100000
theorem instTurns_lifted (os : Os) (started : os.Started) (H : Type) (enc : TypeId × Value → H) :
    ReturnsInHanded {} Try.checked os 12 .any (Rows.instTurnsSpec.pre6 enc Try.prog Try.f12 Rows.instTurnsRow.domain false) (Rows.instTurnsSpec.post enc Try.prog Try.f12 false true false false) := by
  refine law_lifted (C := Try.checked) (tb := 4) (shs := [(true, [.str, .int .i64, .int .i64, .int .i64, .lst true [.bool, .int .i64, .str, .lst true [.int .i64, .int .u64, .int .i64]], .bool, .int .i64, .str, .int .i64, .int .u64, .int .i64, .int .i64]), (true, [.bool, .int .i64, .str]), (true, [.int .i64, .int .u64, .int .i64])]) ownTry started (by kernel_rfl) Try.func12
    (ChangeSpec.witness6 (enc := enc) (C := Try.checked) false ⟨#[], #[.agg #[.string ⟨#[]⟩, .int .i64 0, .int .i64 0, .int .i64 0, .slice none 0 0, .bool false, .int .i64 0, .string ⟨#[]⟩, .int .i64 0, .int .u64 0, .int .i64 0, .int .i64 0], .agg #[.bool false, .int .i64 0, .string ⟨#[]⟩], .agg #[.int .i64 0, .int .u64 0, .int .i64 0]], []⟩ 8 (by kernel_rfl) (by kernel_rfl) (by kernel_rfl) (by kernel_rfl))
    rfl (by kernel_rfl) Try.underlying4 laidOutTry (by kernel_rfl) (by kernel_rfl) ?_ ?_
  · intro ds hl
    rw [show Try.f12.params.toList.length = 3 from rfl] at hl
    match ds, hl with
    | [_, _, _], _ => rfl
  · intro qs h
    obtain ⟨p, q, r, rfl, h1, h2, h3⟩ := args3 h
    obtain ⟨f, rfl, hl, hk⟩ := fd_of h1
    obtain ⟨v, rfl⟩ := vl_of h2
    obtain ⟨x, rfl⟩ := kp_of h3
    exact law12 f v x hl hk
theorem instTurns_over : Rows.instTurnsRow.holds Try.pinned (OpenSpec.ofChange Rows.instTurnsSpec) :=
  OpenClaim.holds_of_wide 12 Try.f12 rfl rfl rfl rfl rfl rfl rfl ⟨rfl, rfl, rfl, rfl, rfl⟩ rfl rfl rfl rfl rfl (by kernel_rfl) Try.func12 (by kernel_rfl)
    (of_decide_eq_true (by kernel_rfl)) (by unfold Func.isWrapper; first | (rw [if_pos (by decide +kernel)]; kernel_rfl) | (rw [if_neg (by decide +kernel)]; exact ⟨rfl, rfl⟩))
    (fun os started H enc _ => instTurns_lifted os started H enc)
/-- Of every input trystlaw10.InstTurns returns true and leaves its arguments as they were. -/
theorem instTurns_proved : Rows.InstTurnsSaid := instTurns_over
#print axioms instTurns_proved
end Go.Proofs.Ytcjhccdbgphboaa
