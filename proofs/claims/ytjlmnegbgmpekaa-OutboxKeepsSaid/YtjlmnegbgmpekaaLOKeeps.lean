/- Of every input trystlaw15.OutboxKeeps returns true and leaves its arguments as they were. No condition beyond the given statement's own. -/
import Derived.Test.YtjlmnegbgmpekaaWg
import Derived.Test.YtjlmnegbgmpekaaRows
namespace Go.Proofs.Ytjlmnegbgmpekaa
open Go.Vc
set_option maxRecDepth 100000
theorem outboxKeeps_lifted (os : Os) (started : os.Started) (H : Type) (enc : TypeId × Value → H) :
    ReturnsInHanded {} Try.checked os 6 .any (Rows.outboxKeepsSpec.pre6 enc Try.prog Try.f6 Rows.outboxKeepsRow.domain false) (Rows.outboxKeepsSpec.post enc Try.prog Try.f6 false true false false) := by
  refine law_lifted (C := Try.checked) (tb := 4) (shs := [(false, [.int .u8]), (false, [.lst false [.int .u8]])]) ownTry started (by kernel_rfl) Try.func6
    (ChangeSpec.witness6 (enc := enc) (C := Try.checked) false ⟨#[], #[.int .u8 0, .slice none 0 0], []⟩ 8 (by kernel_rfl) (by kernel_rfl) (by kernel_rfl) (by kernel_rfl))
    rfl (by kernel_rfl) Try.underlying4 laidOutTry (by kernel_rfl) (by kernel_rfl) ?_ ?_
  · intro ds hl
    rw [show Try.f6.params.toList.length = 2 from rfl] at hl
    match ds, hl with
    | [_, _], _ => rfl
  · intro qs h
    obtain ⟨p, q, rfl, h1, h2⟩ := args2 h
    obtain ⟨n, rfl, hn⟩ := u8_of h1
    obtain ⟨l, rfl, hl, hx⟩ := u8s_of h2
    exact law6 n l hn hl hx
theorem outboxKeeps_over : Rows.outboxKeepsRow.holds Try.pinned (OpenSpec.ofChange Rows.outboxKeepsSpec) :=
  OpenClaim.holds_of_wide 6 Try.f6 rfl rfl rfl rfl rfl rfl rfl ⟨rfl, rfl, rfl, rfl, rfl⟩ rfl rfl rfl rfl rfl (by kernel_rfl) Try.func6 (by kernel_rfl)
    (of_decide_eq_true (by kernel_rfl)) (by unfold Func.isWrapper; first | (rw [if_pos (by decide +kernel)]; kernel_rfl) | (rw [if_neg (by decide +kernel)]; exact ⟨rfl, rfl⟩))
    (fun os started H enc _ => outboxKeeps_lifted os started H enc)
/-- Of every input trystlaw15.OutboxKeeps returns true and leaves its arguments as they were. -/
theorem outboxKeeps_proved : Rows.OutboxKeepsSaid := outboxKeeps_over
#print axioms outboxKeeps_proved
end Go.Proofs.Ytjlmnegbgmpekaa
