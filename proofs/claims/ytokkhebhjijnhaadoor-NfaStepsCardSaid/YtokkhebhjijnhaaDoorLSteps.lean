/- Of every input trystlaw06.NfaSteps returns true and leaves its arguments as they were. The card ties the listed package-level variables to the program's text. No condition beyond the given statement's own. -/
import Derived.Test.YtokkhebhjijnhaaDoorNi
import Derived.Test.YtokkhebhjijnhaaDoorNj
import Derived.Test.YtokkhebhjijnhaaDoorCards
import Derived.Test.YtokkhebhjijnhaaDoorTie
import Derived.SevenTiedAt
namespace Go.Proofs.YtokkhebhjijnhaaDoor
open Go.Vc
set_option maxRecDepth 100000
theorem nfaSteps_lifted (os : Os) (started : os.Started) (H : Type) (enc : TypeId × Value → H) :
    ReturnsInHanded {} Tryd.checked os 4 .any (fun w args => (Rows.nfaStepsSpec.pre enc Tryd.prog Tryd.f4 Rows.nfaStepsRow.domain false w args ∧ laidMetH Tryd.prog Rows.nfaStepsRow.laid w) ∧ sizedMet enc Tryd.prog Tryd.f4 (OpenSpec.ofChange Rows.nfaStepsSpec) false w args) (Rows.nfaStepsSpec.post enc Tryd.prog Tryd.f4 false true false false) := by
  refine law_laid (C := Tryd.checked) (tb := 4) (shs := [(false, [.lst false [.str]]), (false, [.lst false [.int .i64]]), (false, [.int .i64])]) (X := laidMetH Tryd.prog Rows.nfaStepsRow.laid) (fun _ _ hh h => h.of_heap hh) (fun w h => tabsTryd w h) ownTryd started (by kernel_rfl) Tryd.func4
    (ChangeSpec.witness_at (enc := enc) (C := Tryd.checked) (os := os) (X := fun w _ => laidMetH Tryd.prog Rows.nfaStepsRow.laid w) false (laidWorld os) #[.slice none 0 0, .slice none 0 0, .int .i64 0] 8 rfl (by kernel_rfl) (by kernel_rfl) (by kernel_rfl) (by kernel_rfl) (by kernel_rfl) (laid_met os _))
    rfl (by kernel_rfl) Tryd.underlying4 laidOutTryd (by kernel_rfl) (by kernel_rfl) ?_ ?_
  · intro ds hl
    rw [show Tryd.f4.params.toList.length = 3 from rfl] at hl
    match ds, hl with
    | [_, _, _], _ => rfl
  · intro qs h
    obtain ⟨p, q, r, rfl, h1, h2, h3⟩ := args3 h
    obtain ⟨a, rfl, h4⟩ := strs_of h1
    obtain ⟨b, rfl, h5⟩ := i64s_of h2
    obtain ⟨c, rfl⟩ := i64_of h3
    exact law4 a b c h4 h5
theorem nfaSteps_over : Rows.nfaStepsRow.holds Tryd.pinned (OpenSpec.ofChange Rows.nfaStepsSpec) :=
  OpenClaim.holds_of_wide 4 Tryd.f4 rfl rfl rfl rfl rfl rfl rfl ⟨rfl, rfl, rfl, rfl, rfl⟩ rfl rfl rfl rfl rfl (by kernel_rfl) Tryd.func4 (by kernel_rfl)
    (of_decide_eq_true (by kernel_rfl)) (by unfold Func.isWrapper; first | (rw [if_pos (by decide +kernel)]; kernel_rfl) | (rw [if_neg (by decide +kernel)]; exact ⟨rfl, rfl⟩))
    (fun os started H enc _ => nfaSteps_lifted os started H enc)
/-- Of every input trystlaw06.NfaSteps returns true and leaves its arguments as they were. The card. -/
theorem nfaSteps_proved : Rows.NfaStepsCardSaid :=
  Claim7.holds_tied_plain_at .later [] [.data, .pinned] true (true, "b5f5c29c5820ceaa4123045cc2809236717e09623e5c4524db935bfee17755cd") false
    nfaSteps_over (fun _ h => by cases h) (by kernel_rfl) (fun _ h => by cases h) nfaSteps_row_tie rfl ⟨rfl, rfl⟩ (by kernel_rfl) rfl
    (fun f fn hf hfn => by
      obtain rfl : f = 4 := Option.some.inj ((show Tryd.prog.funcNamed Rows.nfaStepsRow.func = some 4 by kernel_rfl).symm.trans hf) |>.symm
      obtain rfl : fn = Tryd.f4 := (Option.some.inj (Tryd.func4.symm.trans hfn)).symm
      refine ⟨by kernel_rfl, fun j t ht => ?_⟩
      have hall : Tryd.f4.params.toList.all (fun t => !Tryd.prog.wantsStandIn t) = true := by kernel_rfl
      have := List.all_eq_true.1 hall t (by
        have := Array.mem_of_getElem? ht
        simpa using this)
      have h2 : Tryd.prog.wantsStandIn t = false := by simpa using this
      exact h2)
    (by kernel_rfl)
#print axioms nfaSteps_proved
end Go.Proofs.YtokkhebhjijnhaaDoor
