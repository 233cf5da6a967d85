/- Of every input trystlaw10.InstStays returns true and leaves its arguments as they were. No condition beyond the given statement's own. -/
import Derived.Test.YtcjhccdbgphboaaJf
import Derived.Test.YtcjhccdbgphboaaIg
import Derived.Test.YtcjhccdbgphboaaRows
namespace Go.Proofs.Ytcjhccdbgphboaa
open Go.Vc
set_option maxRecDepth 100000
theorem instStays_lifted (os : Os) (started : os.Started) (H : Type) (enc : TypeId × Value → H) :
    ReturnsInHanded {} Try.checked os 14 .any (Rows.instStaysSpec.pre6 enc Try.prog Try.f14 Rows.instStaysRow.domain false) (Rows.instStaysSpec.post enc Try.prog Try.f14 false true false false) := by
  refine law_lifted (C := Try.checked) (tb := 4) (shs := [(true, [.str, .int .i64, .int .i64, .int .i64]), (false, [.lst true [.int .i64, .int .u64, .int .i64]]), (false, [.lst false [.int .u8]])]) ownTry started (by kernel_rfl) Try.func14
    (ChangeSpec.witness6 (enc := enc) (C := Try.checked) false ⟨#[], #[.agg #[.string ⟨#[]⟩, .int .i64 0, .int .i64 0, .int .i64 0], .slice none 0 0, .slice none 0 0], []⟩ 8 (by kernel_rfl) (by kernel_rfl) (by kernel_rfl) (by kernel_rfl))
    rfl (by kernel_rfl) Try.underlying4 laidOutTry (by kernel_rfl) (by kernel_rfl) ?_ ?_
  · intro ds hl
    rw [show Try.f14.params.toList.length = 3 from rfl] at hl
    match ds, hl with
    | [_, _, _], _ => rfl
  · intro qs h
    obtain ⟨p, q, r, rfl, h1, h2, h3⟩ := args3 h
    obtain ⟨j, rfl⟩ := jn_of h1
    obtain ⟨l, rfl, hl⟩ := ks_of h2
    obtain ⟨ys, rfl, hy⟩ := bs_of h3
    exact law14 j l ys hl hy
theorem instStays_over : Rows.instStaysRow.holds Try.pinned (OpenSpec.ofChange Rows.instStaysSpec) :=
  OpenClaim.holds_of_wide 14 Try.f14 rfl rfl rfl rfl rfl rfl rfl ⟨rfl, rfl, rfl, rfl, rfl⟩ rfl rfl rfl rfl rfl (by kernel_rfl) Try.func14 (by kernel_rfl)
    (of_decide_eq_true (by kernel_rfl)) (by unfold Func.isWrapper; first | (rw [if_pos (by decide +kernel)]; kernel_rfl) | (rw [if_neg (by decide +kernel)]; exact ⟨rfl, rfl⟩))
    (fun os started H enc _ => instStays_lifted os started H enc)
/-- Of every input trystlaw10.InstStays returns true and leaves its arguments as they were. -/
theorem instStays_proved : Rows.InstStaysSaid := instStays_over
#print axioms instStays_proved
end Go.Proofs.Ytcjhccdbgphboaa
