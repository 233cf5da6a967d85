/- Of every input trystlaw15.OutboxWaits returns true and leaves its arguments as they were. No condition beyond the given statement's own. -/
import Derived.Test.YtjlmnegbgmpekaaWe
import Derived.Test.YtjlmnegbgmpekaaRows
namespace Go.Proofs.Ytjlmnegbgmpekaa
open Go.Vc
set_option maxRecDepth 100000
theorem outboxWaits_lifted (os : Os) (started : os.Started) (H : Type) (enc : TypeId × Value → H) :
    ReturnsInHanded {} Try.checked os 4 .any (Rows.outboxWaitsSpec.pre6 enc Try.prog Try.f4 Rows.outboxWaitsRow.domain false) (Rows.outboxWaitsSpec.post enc Try.prog Try.f4 false true false false) := by
  refine law_lifted (C := Try.checked) (tb := 4) (shs := [(false, [.str]), (false, [.lst false [.int .u64]]), (false, [.int .u32])]) ownTry started (by kernel_rfl) Try.func4
    (ChangeSpec.witness6 (enc := enc) (C := Try.checked) false ⟨#[], #[.string ⟨#[]⟩, .slice none 0 0, .int .u32 0], []⟩ 8 (by kernel_rfl) (by kernel_rfl) (by kernel_rfl) (by kernel_rfl))
    rfl (by kernel_rfl) Try.underlying4 laidOutTry (by kernel_rfl) (by kernel_rfl) ?_ ?_
  · intro ds hl
    rw [show Try.f4.params.toList.length = 3 from rfl] at hl
    match ds, hl with
    | [_, _, _], _ => rfl
  · intro qs h
    obtain ⟨p, q, r, rfl, h1, h2, h3⟩ := args3 h
    obtain ⟨s, rfl, _⟩ := str_of h1
    obtain ⟨l, rfl, hl⟩ := us_of h2
    obtain ⟨t, rfl, h0, ht⟩ := u32_of h3
    exact law4 s l t hl h0 ht
theorem outboxWaits_over : Rows.outboxWaitsRow.holds Try.pinned (OpenSpec.ofChange Rows.outboxWaitsSpec) :=
  OpenClaim.holds_of_wide 4 Try.f4 rfl rfl rfl rfl rfl rfl rfl ⟨rfl, rfl, rfl, rfl, rfl⟩ rfl rfl rfl rfl rfl (by kernel_rfl) Try.func4 (by kernel_rfl)
    (of_decide_eq_true (by kernel_rfl)) (by unfold Func.isWrapper; first | (rw [if_pos (by decide +kernel)]; kernel_rfl) | (rw [if_neg (by decide +kernel)]; exact ⟨rfl, rfl⟩))
    (fun os started H enc _ => outboxWaits_lifted os started H enc)
/-- Of every input trystlaw15.OutboxWaits returns true and leaves its arguments as they were. -/
theorem outboxWaits_proved : Rows.OutboxWaitsSaid := outboxWaits_over
#print axioms outboxWaits_proved
end Go.Proofs.Ytjlmnegbgmpekaa
