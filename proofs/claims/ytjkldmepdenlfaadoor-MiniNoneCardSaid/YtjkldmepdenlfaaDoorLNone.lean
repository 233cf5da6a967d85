/- Of every input trystlaw08.MiniNone returns true and leaves its arguments as they were. The card ties the listed package-level variables to the program's text. No condition beyond the given statement's own. -/
import Derived.Test.YtjkldmepdenlfaaDoorMtw
import Derived.Test.YtjkldmepdenlfaaDoorMtx
import Derived.Test.YtjkldmepdenlfaaDoorCards
import Derived.Test.YtjkldmepdenlfaaDoorTie
import Derived.SevenTiedAt
namespace Go.Proofs.YtjkldmepdenlfaaDoor
open Go.Vc
set_option maxRecDepth 100000
theorem miniNone_lifted (os : Os) (started : os.Started) (H : Type) (enc : TypeId × Value → H) :
    ReturnsInHanded {} Tryd.checked os 3 .any (fun w args => (Rows.miniNoneSpec.pre enc Tryd.prog Tryd.f3 Rows.miniNoneRow.domain false w args ∧ laidMetH Tryd.prog Rows.miniNoneRow.laid w) ∧ sizedMet enc Tryd.prog Tryd.f3 (OpenSpec.ofChange Rows.miniNoneSpec) false w args) (Rows.miniNoneSpec.post enc Tryd.prog Tryd.f3 false true false false) := by
  refine law_laid (C := Tryd.checked) (tb := 4) (shs := [(true, [.lst false [.str], .lst false [.lst false [.int .i64]], .lst false [.lst false [.int .i64]]])]) (X := laidMetH Tryd.prog Rows.miniNoneRow.laid) (fun _ _ hh h => h.of_heap hh) (fun w h => tabsTryd w h) ownTryd started (by kernel_rfl) Tryd.func3
    (ChangeSpec.witness_at (enc := enc) (C := Tryd.checked) (os := os) (X := fun w _ => laidMetH Tryd.prog Rows.miniNoneRow.laid w) false (laidWorld os) #[.agg #[.slice none 0 0, .slice none 0 0, .slice none 0 0]] 8 rfl (by kernel_rfl) (by kernel_rfl) (by kernel_rfl) (by kernel_rfl) (by kernel_rfl) (laid_met os _))
    rfl (by kernel_rfl) Tryd.underlying4 laidOutTryd (by kernel_rfl) (by kernel_rfl) ?_ ?_
  · intro ds hl
    rw [show Tryd.f3.params.toList.length = 1 from rfl] at hl
    match ds, hl with
    | [_], _ => rfl
  · intro qs h
    obtain ⟨p, rfl, h1⟩ := args1 h
    obtain ⟨a, rfl, ha⟩ := di_of h1
    exact law3 a ha
theorem miniNone_over : Rows.miniNoneRow.holds Tryd.pinned (OpenSpec.ofChange Rows.miniNoneSpec) :=
  OpenClaim.holds_of_wide 3 Tryd.f3 rfl rfl rfl rfl rfl rfl rfl ⟨rfl, rfl, rfl, rfl, rfl⟩ rfl rfl rfl rfl rfl (by kernel_rfl) Tryd.func3 (by kernel_rfl)
    (of_decide_eq_true (by kernel_rfl)) (by unfold Func.isWrapper; first | (rw [if_pos (by decide +kernel)]; kernel_rfl) | (rw [if_neg (by decide +kernel)]; exact ⟨rfl, rfl⟩))
    (fun os started H enc _ => miniNone_lifted os started H enc)
/-- Of every input trystlaw08.MiniNone returns true and leaves its arguments as they were. The card. -/
theorem miniNone_proved : Rows.MiniNoneCardSaid :=
  Claim7.holds_tied_plain_at .later [] [.data, .data, .data] true (true, "2617c3a0e29a762fabc032dd64bac06877100fac560056c14fd993e5890b676f") false
    miniNone_over (fun _ h => by cases h) (by kernel_rfl) (fun _ h => by cases h) miniNone_row_tie rfl ⟨rfl, rfl⟩ (by kernel_rfl) rfl
    (fun f fn hf hfn => by
      obtain rfl : f = 3 := Option.some.inj ((show Tryd.prog.funcNamed Rows.miniNoneRow.func = some 3 by kernel_rfl).symm.trans hf) |>.symm
      obtain rfl : fn = Tryd.f3 := (Option.some.inj (Tryd.func3.symm.trans hfn)).symm
      refine ⟨by kernel_rfl, fun j t ht => ?_⟩
      have hall : Tryd.f3.params.toList.all (fun t => !Tryd.prog.wantsStandIn t) = true := by kernel_rfl
      have := List.all_eq_true.1 hall t (by
        have := Array.mem_of_getElem? ht
        simpa using this)
      have h2 : Tryd.prog.wantsStandIn t = false := by simpa using this
      exact h2)
    (by kernel_rfl)
#print axioms miniNone_proved
end Go.Proofs.YtjkldmepdenlfaaDoor
