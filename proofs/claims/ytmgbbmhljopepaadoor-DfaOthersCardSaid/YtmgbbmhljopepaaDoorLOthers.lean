/- Of every input trystlaw07.DfaOthers returns true and leaves its arguments as they were. The card ties the listed package-level variables to the program's text. No condition beyond the given statement's own. -/
import Derived.Test.YtmgbbmhljopepaaDoorDk
import Derived.Test.YtmgbbmhljopepaaDoorDp
import Derived.Test.YtmgbbmhljopepaaDoorCards
import Derived.Test.YtmgbbmhljopepaaDoorTie
import Derived.SevenTiedAt
namespace Go.Proofs.YtmgbbmhljopepaaDoor
open Go.Vc
set_option maxRecDepth 100000
theorem dfaOthers_lifted (os : Os) (started : os.Started) (H : Type) (enc : TypeId × Value → H) :
    ReturnsInHanded {} Tryd.checked os 9 .any (fun w args => (Rows.dfaOthersSpec.pre enc Tryd.prog Tryd.f9 Rows.dfaOthersRow.domain false w args ∧ laidMetH Tryd.prog Rows.dfaOthersRow.laid w) ∧ sizedMet enc Tryd.prog Tryd.f9 (OpenSpec.ofChange Rows.dfaOthersSpec) false w args) (Rows.dfaOthersSpec.post enc Tryd.prog Tryd.f9 false true false false) := by
  refine law_laid (C := Tryd.checked) (tb := 4) (shs := [(false, [.lst false [.str]]), (false, [.str])]) (X := laidMetH Tryd.prog Rows.dfaOthersRow.laid) (fun _ _ hh h => h.of_heap hh) (fun w h => tabsTryd w h) ownTryd started (by kernel_rfl) Tryd.func9
    (ChangeSpec.witness_at (enc := enc) (C := Tryd.checked) (os := os) (X := fun w _ => laidMetH Tryd.prog Rows.dfaOthersRow.laid w) false (laidWorld os) #[.slice none 0 0, .string ⟨#[]⟩] 8 rfl (by kernel_rfl) (by kernel_rfl) (by kernel_rfl) (by kernel_rfl) (by kernel_rfl) (laid_met os _))
    rfl (by kernel_rfl) Tryd.underlying4 laidOutTryd (by kernel_rfl) (by kernel_rfl) ?_ ?_
  · intro ds hl
    rw [show Tryd.f9.params.toList.length = 2 from rfl] at hl
    match ds, hl with
    | [_, _], _ => rfl
  · intro qs h
    obtain ⟨p, q, rfl, h1, h2⟩ := args2 h
    obtain ⟨a, rfl, h3⟩ := strs_of h1
    obtain ⟨b, rfl, _⟩ := str_of h2
    exact law9 a b h3
theorem dfaOthers_over : Rows.dfaOthersRow.holds Tryd.pinned (OpenSpec.ofChange Rows.dfaOthersSpec) :=
  OpenClaim.holds_of_wide 9 Tryd.f9 rfl rfl rfl rfl rfl rfl rfl ⟨rfl, rfl, rfl, rfl, rfl⟩ rfl rfl rfl rfl rfl (by kernel_rfl) Tryd.func9 (by kernel_rfl)
    (of_decide_eq_true (by kernel_rfl)) (by unfold Func.isWrapper; first | (rw [if_pos (by decide +kernel)]; kernel_rfl) | (rw [if_neg (by decide +kernel)]; exact ⟨rfl, rfl⟩))
    (fun os started H enc _ => dfaOthers_lifted os started H enc)
/-- Of every input trystlaw07.DfaOthers returns true and leaves its arguments as they were. The card. -/
theorem dfaOthers_proved : Rows.DfaOthersCardSaid :=
  Claim7.holds_tied_plain_at .later [] [.data, .data, .pinned] true (true, "2617c3a0e29a762fabc032dd64bac06877100fac560056c14fd993e5890b676f") false
    dfaOthers_over (fun _ h => by cases h) (by kernel_rfl) (fun _ h => by cases h) dfaOthers_row_tie rfl ⟨rfl, rfl⟩ (by kernel_rfl) rfl
    (fun f fn hf hfn => by
      obtain rfl : f = 9 := Option.some.inj ((show Tryd.prog.funcNamed Rows.dfaOthersRow.func = some 9 by kernel_rfl).symm.trans hf) |>.symm
      obtain rfl : fn = Tryd.f9 := (Option.some.inj (Tryd.func9.symm.trans hfn)).symm
      refine ⟨by kernel_rfl, fun j t ht => ?_⟩
      have hall : Tryd.f9.params.toList.all (fun t => !Tryd.prog.wantsStandIn t) = true := by kernel_rfl
      have := List.all_eq_true.1 hall t (by
        have := Array.mem_of_getElem? ht
        simpa using this)
      have h2 : Tryd.prog.wantsStandIn t = false := by simpa using this
      exact h2)
    (by kernel_rfl)
#print axioms dfaOthers_proved
end Go.Proofs.YtmgbbmhljopepaaDoor
