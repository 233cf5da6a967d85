/- Of every input trystlaw15.OutboxTakes returns true and leaves its arguments as they were. No condition beyond the given statement's own. -/
import Derived.Test.YtjlmnegbgmpekaaWe
import Derived.Test.YtjlmnegbgmpekaaWf
import Derived.Test.YtjlmnegbgmpekaaRows
namespace Go.Proofs.Ytjlmnegbgmpekaa
open Go.Vc
set_option maxRecDepth 100000
theorem outboxTakes_lifted (os : Os) (started : os.Started) (H : Type) (enc : TypeId × Value → H) :
    ReturnsInHanded {} Try.checked os 5 .any (Rows.outboxTakesSpec.pre6 enc Try.prog Try.f5 Rows.outboxTakesRow.domain false) (Rows.outboxTakesSpec.post enc Try.prog Try.f5 false true false false) := by
  refine law_lifted (C := Try.checked) (tb := 4) (shs := [(false, [.lst true [.int .u64, .str, .lst false [.int .u64], .int .i64, .int .i64]]), (false, [.int .u64]), (false, [.int .i64])]) ownTry started (by kernel_rfl) Try.func5
    (ChangeSpec.witness6 (enc := enc) (C := Try.checked) false ⟨#[], #[.slice none 0 0, .int .u64 0, .int .i64 0], []⟩ 8 (by kernel_rfl) (by kernel_rfl) (by kernel_rfl) (by kernel_rfl))
    rfl (by kernel_rfl) Try.underlying4 laidOutTry (by kernel_rfl) (by kernel_rfl) ?_ ?_
  · intro ds hl
    rw [show Try.f5.params.toList.length = 3 from rfl] at hl
    match ds, hl with
    | [_, _, _], _ => rfl
  · intro qs h
    obtain ⟨p, q, r, rfl, h1, h2, h3⟩ := args3 h
    obtain ⟨l, rfl, hl, hk⟩ := os_of h1
    obtain ⟨a, rfl, _⟩ := int_of h2
    obtain ⟨b, rfl, _⟩ := int_of h3
    exact law5 l a b hl hk
theorem outboxTakes_over : Rows.outboxTakesRow.holds Try.pinned (OpenSpec.ofChange Rows.outboxTakesSpec) :=
  OpenClaim.holds_of_wide 5 Try.f5 rfl rfl rfl rfl rfl rfl rfl ⟨rfl, rfl, rfl, rfl, rfl⟩ rfl rfl rfl rfl rfl (by kernel_rfl) Try.func5 (by kernel_rfl)
    (of_decide_eq_true (by kernel_rfl)) (by unfold Func.isWrapper; first | (rw [if_pos (by decide +kernel)]; kernel_rfl) | (rw [if_neg (by decide +kernel)]; exact ⟨rfl, rfl⟩))
    (fun os started H enc _ => outboxTakes_lifted os started H enc)
/-- Of every input trystlaw15.OutboxTakes returns true and leaves its arguments as they were. -/
theorem outboxTakes_proved : Rows.OutboxTakesSaid := outboxTakes_over
#print axioms outboxTakes_proved
end Go.Proofs.Ytjlmnegbgmpekaa
