/- Of every input trystlaw15.OutboxAdds returns true and leaves its arguments as they were. No condition beyond the given statement's own. -/
import Derived.Test.YtjlmnegbgmpekaaWp
import Derived.Test.YtjlmnegbgmpekaaRows
namespace Go.Proofs.Ytjlmnegbgmpekaa
open Go.Vc
set_option maxRecDepth 100000
theorem outboxAdds_lifted (os : Os) (started : os.Started) (H : Type) (enc : TypeId × Value → H) :
    ReturnsInHanded {} Try.checked os 13 .any (Rows.outboxAddsSpec.pre6 enc Try.prog Try.f13 Rows.outboxAddsRow.domain false) (Rows.outboxAddsSpec.post enc Try.prog Try.f13 false true false false) := by
  refine law_lifted (C := Try.checked) (tb := 4) (shs := [(false, [.lst true [.int .u64, .str, .lst false [.int .u64], .int .i64, .int .i64]]), (true, [.int .u64, .str, .lst false [.int .u64], .int .i64, .int .i64]), (false, [.int .i64])]) ownTry started (by kernel_rfl) Try.func13
    (ChangeSpec.witness6 (enc := enc) (C := Try.checked) false ⟨#[], #[.slice none 0 0, .agg #[.int .u64 0, .string ⟨#[]⟩, .slice none 0 0, .int .i64 0, .int .i64 0], .int .i64 0], []⟩ 8 (by kernel_rfl) (by kernel_rfl) (by kernel_rfl) (by kernel_rfl))
    rfl (by kernel_rfl) Try.underlying4 laidOutTry (by kernel_rfl) (by kernel_rfl) ?_ ?_
  · intro ds hl
    rw [show Try.f13.params.toList.length = 3 from rfl] at hl
    match ds, hl with
    | [_, _, _], _ => rfl
  · intro qs h
    obtain ⟨p, q, r, rfl, h1, h2, h3⟩ := args3 h
    obtain ⟨l, rfl, hl, hk⟩ := os_of h1
    obtain ⟨x, rfl, hx⟩ := ot1_of h2
    obtain ⟨b, rfl, _⟩ := int_of h3
    exact law13 l x b hl hk hx
theorem outboxAdds_over : Rows.outboxAddsRow.holds Try.pinned (OpenSpec.ofChange Rows.outboxAddsSpec) :=
  OpenClaim.holds_of_wide 13 Try.f13 rfl rfl rfl rfl rfl rfl rfl ⟨rfl, rfl, rfl, rfl, rfl⟩ rfl rfl rfl rfl rfl (by kernel_rfl) Try.func13 (by kernel_rfl)
    (of_decide_eq_true (by kernel_rfl)) (by unfold Func.isWrapper; first | (rw [if_pos (by decide +kernel)]; kernel_rfl) | (rw [if_neg (by decide +kernel)]; exact ⟨rfl, rfl⟩))
    (fun os started H enc _ => outboxAdds_lifted os started H enc)
/-- Of every input trystlaw15.OutboxAdds returns true and leaves its arguments as they were. -/
theorem outboxAdds_proved : Rows.OutboxAddsSaid := outboxAdds_over
#print axioms outboxAdds_proved
end Go.Proofs.Ytjlmnegbgmpekaa
