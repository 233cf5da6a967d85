/- Of every input trystlaw13.DedupApart returns true and leaves its arguments as they were. No condition beyond the given statement's own. -/
import Derived.Test.YtjlmnegbgmpekaaWn
import Derived.Test.YtjlmnegbgmpekaaRows
namespace Go.Proofs.Ytjlmnegbgmpekaa
open Go.Vc
set_option maxRecDepth 100000
theorem dedupApart_lifted (os : Os) (started : os.Started) (H : Type) (enc : TypeId × Value → H) :
    ReturnsInHanded {} Try.checked os 9 .any (Rows.dedupApartSpec.pre6 enc Try.prog Try.f9 Rows.dedupApartRow.domain false) (Rows.dedupApartSpec.post enc Try.prog Try.f9 false true false false) := by
  refine law_lifted (C := Try.checked) (tb := 4) (shs := [(false, [.lst true [.str, .int .u64, .int .i64]]), (true, [.str, .int .u64, .int .i64]), (true, [.str, .int .u64, .int .i64])]) ownTry started (by kernel_rfl) Try.func9
    (ChangeSpec.witness6 (enc := enc) (C := Try.checked) false ⟨#[], #[.slice none 0 0, .agg #[.string ⟨#[]⟩, .int .u64 0, .int .i64 0], .agg #[.string ⟨#[]⟩, .int .u64 0, .int .i64 0]], []⟩ 8 (by kernel_rfl) (by kernel_rfl) (by kernel_rfl) (by kernel_rfl))
    rfl (by kernel_rfl) Try.underlying4 laidOutTry (by kernel_rfl) (by kernel_rfl) ?_ ?_
  · intro ds hl
    rw [show Try.f9.params.toList.length = 3 from rfl] at hl
    match ds, hl with
    | [_, _, _], _ => rfl
  · intro qs h
    obtain ⟨p, q, r, rfl, h1, h2, h3⟩ := args3 h
    obtain ⟨l, rfl, hl, hk⟩ := ls_of h1
    obtain ⟨x, rfl, hx⟩ := la1_of h2
    obtain ⟨y, rfl, hy⟩ := la1_of h3
    exact law9 l x y hl hx hy
theorem dedupApart_over : Rows.dedupApartRow.holds Try.pinned (OpenSpec.ofChange Rows.dedupApartSpec) :=
  OpenClaim.holds_of_wide 9 Try.f9 rfl rfl rfl rfl rfl rfl rfl ⟨rfl, rfl, rfl, rfl, rfl⟩ rfl rfl rfl rfl rfl (by kernel_rfl) Try.func9 (by kernel_rfl)
    (of_decide_eq_true (by kernel_rfl)) (by unfold Func.isWrapper; first | (rw [if_pos (by decide +kernel)]; kernel_rfl) | (rw [if_neg (by decide +kernel)]; exact ⟨rfl, rfl⟩))
    (fun os started H enc _ => dedupApart_lifted os started H enc)
/-- Of every input trystlaw13.DedupApart returns true and leaves its arguments as they were. -/
theorem dedupApart_proved : Rows.DedupApartSaid := dedupApart_over
#print axioms dedupApart_proved
end Go.Proofs.Ytjlmnegbgmpekaa
