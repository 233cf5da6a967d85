/- Of every input trystlaw06.NfaCloses returns true and leaves its arguments as they were. The card ties the listed package-level variables to the program's text. No condition beyond the given statement's own. -/
import Derived.Test.YtokkhebhjijnhaaDoorNi
import Derived.Test.YtokkhebhjijnhaaDoorNz
import Derived.Test.YtokkhebhjijnhaaDoorCards
import Derived.Test.YtokkhebhjijnhaaDoorTie
import Derived.SevenTiedAt
namespace Go.Proofs.YtokkhebhjijnhaaDoor
open Go.Vc
set_option maxRecDepth 100000
theorem nfaCloses_lifted (os : Os) (started : os.Started) (H : Type) (enc : TypeId × Value → H) :
    ReturnsInHanded {} Tryd.checked os 6 .any (fun w args => (Rows.nfaClosesSpec.pre enc Tryd.prog Tryd.f6 Rows.nfaClosesRow.domain false w args ∧ laidMetH Tryd.prog Rows.nfaClosesRow.laid w) ∧ sizedMet enc Tryd.prog Tryd.f6 (OpenSpec.ofChange Rows.nfaClosesSpec) false w args) (Rows.nfaClosesSpec.post enc Tryd.prog Tryd.f6 false true false false) := by
  refine law_laid (C := Tryd.checked) (tb := 4) (shs := [(false, [.lst false [.str]]), (false, [.lst false [.int .i64]]), (false, [.lst false [.int .i64]])]) (X := laidMetH Tryd.prog Rows.nfaClosesRow.laid) (fun _ _ hh h => h.of_heap hh) (fun w h => tabsTryd w h) ownTryd started (by kernel_rfl) Tryd.func6
    (ChangeSpec.witness_at (enc := enc) (C := Tryd.checked) (os := os) (X := fun w _ => laidMetH Tryd.prog Rows.nfaClosesRow.laid w) false (laidWorld os) #[.slice none 0 0, .slice none 0 0, .slice none 0 0] 8 rfl (by kernel_rfl) (by kernel_rfl) (by kernel_rfl) (by kernel_rfl) (by kernel_rfl) (laid_met os _))
    rfl (by kernel_rfl) Tryd.underlying4 laidOutTryd (by kernel_rfl) (by kernel_rfl) ?_ ?_
  · intro ds hl
    rw [show Tryd.f6.params.toList.length = 3 from rfl] at hl
    match ds, hl with
    | [_, _, _], _ => rfl
  · intro qs h
    obtain ⟨p, q, r, rfl, h1, h2, h3⟩ := args3 h
    obtain ⟨a, rfl, ha⟩ := strs_of h1
    obtain ⟨b, rfl, hb⟩ := i64s_of h2
    obtain ⟨c, rfl, hc⟩ := i64s_of h3
    exact law6 a b c ha hb hc
theorem nfaCloses_over : Rows.nfaClosesRow.holds Tryd.pinned (OpenSpec.ofChange Rows.nfaClosesSpec) :=
  OpenClaim.holds_of_wide 6 Tryd.f6 rfl rfl rfl rfl rfl rfl rfl ⟨rfl, rfl, rfl, rfl, rfl⟩ rfl rfl rfl rfl rfl (by kernel_rfl) Tryd.func6 (by kernel_rfl)
    (of_decide_eq_true (by kernel_rfl)) (by unfold Func.isWrapper; first | (rw [if_pos (by decide +kernel)]; kernel_rfl) | (rw [if_neg (by decide +kernel)]; exact ⟨rfl, rfl⟩))
    (fun os started H enc _ => nfaCloses_lifted os started H enc)
/-- Of every input trystlaw06.NfaCloses returns true and leaves its arguments as they were. The card. -/
theorem nfaCloses_proved : Rows.NfaClosesCardSaid :=
  Claim7.holds_tied_plain_at .later [] [.data, .pinned] true (true, "b5f5c29c5820ceaa4123045cc2809236717e09623e5c4524db935bfee17755cd") false
    nfaCloses_over (fun _ h => by cases h) (by kernel_rfl) (fun _ h => by cases h) nfaCloses_row_tie rfl ⟨rfl, rfl⟩ (by kernel_rfl) rfl
    (fun f fn hf hfn => by
      obtain rfl : f = 6 := Option.some.inj ((show Tryd.prog.funcNamed Rows.nfaClosesRow.func = some 6 by kernel_rfl).symm.trans hf) |>.symm
      obtain rfl : fn = Tryd.f6 := (Option.some.inj (Tryd.func6.symm.trans hfn)).symm
      refine ⟨by kernel_rfl, fun j t ht => ?_⟩
      have hall : Tryd.f6.params.toList.all (fun t => !Tryd.prog.wantsStandIn t) = true := by kernel_rfl
      have := List.all_eq_true.1 hall t (by
        have := Array.mem_of_getElem? ht
        simpa using this)
      have h2 : Tryd.prog.wantsStandIn t = false := by simpa using this
      exact h2)
    (by kernel_rfl)
#print axioms nfaCloses_proved
end Go.Proofs.YtokkhebhjijnhaaDoor
