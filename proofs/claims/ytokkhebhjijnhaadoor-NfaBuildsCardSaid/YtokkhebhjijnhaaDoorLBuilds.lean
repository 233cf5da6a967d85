/- Of every input trystlaw06.NfaBuilds returns true and leaves its arguments as they were. The card ties the listed package-level variables to the program's text. No condition beyond the given statement's own. -/
import Derived.Test.YtokkhebhjijnhaaDoorNi
import Derived.Test.YtokkhebhjijnhaaDoorNj
import Derived.Test.YtokkhebhjijnhaaDoorCards
import Derived.Test.YtokkhebhjijnhaaDoorTie
import Derived.SevenTiedAt
namespace Go.Proofs.YtokkhebhjijnhaaDoor
open Go.Vc
set_option maxRecDepth 100000
theorem nfaBuilds_lifted (os : Os) (started : os.Started) (H : Type) (enc : TypeId × Value → H) :
    ReturnsInHanded {} Tryd.checked os 3 .any (fun w args => (Rows.nfaBuildsSpec.pre enc Tryd.prog Tryd.f3 Rows.nfaBuildsRow.domain false w args ∧ laidMetH Tryd.prog Rows.nfaBuildsRow.laid w) ∧ sizedMet enc Tryd.prog Tryd.f3 (OpenSpec.ofChange Rows.nfaBuildsSpec) false w args) (Rows.nfaBuildsSpec.post enc Tryd.prog Tryd.f3 false true false false) := by
  refine law_laid (C := Tryd.checked) (tb := 4) (shs := [(false, [.lst false [.str]]), (false, [.str])]) (X := laidMetH Tryd.prog Rows.nfaBuildsRow.laid) (fun _ _ hh h => h.of_heap hh) (fun w h => tabsTryd w h) ownTryd started (by kernel_rfl) Tryd.func3
    (ChangeSpec.witness_at (enc := enc) (C := Tryd.checked) (os := os) (X := fun w _ => laidMetH Tryd.prog Rows.nfaBuildsRow.laid w) false (laidWorld os) #[.slice none 0 0, .string ⟨#[]⟩] 8 rfl (by kernel_rfl) (by kernel_rfl) (by kernel_rfl) (by kernel_rfl) (by kernel_rfl) (laid_met os _))
    rfl (by kernel_rfl) Tryd.underlying4 laidOutTryd (by kernel_rfl) (by kernel_rfl) ?_ ?_
  · intro ds hl
    rw [show Tryd.f3.params.toList.length = 2 from rfl] at hl
    match ds, hl with
    | [_, _], _ => rfl
  · intro qs h
    obtain ⟨p, q, rfl, h1, h2⟩ := args2 h
    obtain ⟨a, rfl, h3⟩ := strs_of h1
    obtain ⟨b, rfl, _⟩ := str_of h2
    exact law3 a b h3
theorem nfaBuilds_over : Rows.nfaBuildsRow.holds Tryd.pinned (OpenSpec.ofChange Rows.nfaBuildsSpec) :=
  OpenClaim.holds_of_wide 3 Tryd.f3 rfl rfl rfl rfl rfl rfl rfl ⟨rfl, rfl, rfl, rfl, rfl⟩ rfl rfl rfl rfl rfl (by kernel_rfl) Tryd.func3 (by kernel_rfl)
    (of_decide_eq_true (by kernel_rfl)) (by unfold Func.isWrapper; first | (rw [if_pos (by decide +kernel)]; kernel_rfl) | (rw [if_neg (by decide +kernel)]; exact ⟨rfl, rfl⟩))
    (fun os started H enc _ => nfaBuilds_lifted os started H enc)
/-- Of every input trystlaw06.NfaBuilds returns true and leaves its arguments as they were. The card. -/
theorem nfaBuilds_proved : Rows.NfaBuildsCardSaid :=
  Claim7.holds_tied_plain_at .later [] [.data, .pinned] true (true, "b5f5c29c5820ceaa4123045cc2809236717e09623e5c4524db935bfee17755cd") false
    nfaBuilds_over (fun _ h => by cases h) (by kernel_rfl) (fun _ h => by cases h) nfaBuilds_row_tie rfl ⟨rfl, rfl⟩ (by kernel_rfl) rfl
    (fun f fn hf hfn => by
      obtain rfl : f = 3 := Option.some.inj ((show Tryd.prog.funcNamed Rows.nfaBuildsRow.func = some 3 by kernel_rfl).symm.trans hf) |>.symm
      obtain rfl : fn = Tryd.f3 := (Option.some.inj (Tryd.func3.symm.trans hfn)).symm
      refine ⟨by kernel_rfl, fun j t ht => ?_⟩
      have hall : Tryd.f3.params.toList.all (fun t => !Tryd.prog.wantsStandIn t) = true := by kernel_rfl
      have := List.all_eq_true.1 hall t (by
        have := Array.mem_of_getElem? ht
        simpa using this)
      have h2 : Tryd.prog.wantsStandIn t = false := by simpa using this
      exact h2)
    (by kernel_rfl)
#print axioms nfaBuilds_proved
end Go.Proofs.YtokkhebhjijnhaaDoor
