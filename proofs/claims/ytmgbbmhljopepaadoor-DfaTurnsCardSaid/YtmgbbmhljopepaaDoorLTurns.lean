/- Of every input trystlaw07.DfaTurns returns true and leaves its arguments as they were. The card ties the listed package-level variables to the program's text. No condition beyond the given statement's own. -/
import Derived.Test.YtmgbbmhljopepaaDoorDk
import Derived.Test.YtmgbbmhljopepaaDoorDo
import Derived.Test.YtmgbbmhljopepaaDoorCards
import Derived.Test.YtmgbbmhljopepaaDoorTie
import Derived.SevenTiedAt
namespace Go.Proofs.YtmgbbmhljopepaaDoor
open Go.Vc
set_option maxRecDepth 100000
theorem dfaTurns_lifted (os : Os) (started : os.Started) (H : Type) (enc : TypeId × Value → H) :
    ReturnsInHanded {} Tryd.checked os 7 .any (fun w args => (Rows.dfaTurnsSpec.pre enc Tryd.prog Tryd.f7 Rows.dfaTurnsRow.domain false w args ∧ laidMetH Tryd.prog Rows.dfaTurnsRow.laid w) ∧ sizedMet enc Tryd.prog Tryd.f7 (OpenSpec.ofChange Rows.dfaTurnsSpec) false w args) (Rows.dfaTurnsSpec.post enc Tryd.prog Tryd.f7 false true false false) := by
  refine law_laid (C := Tryd.checked) (tb := 4) (shs := [(false, [.lst false [.str]]), (false, [.str]), (false, [.int .u8])]) (X := laidMetH Tryd.prog Rows.dfaTurnsRow.laid) (fun _ _ hh h => h.of_heap hh) (fun w h => tabsTryd w h) ownTryd started (by kernel_rfl) Tryd.func7
    (ChangeSpec.witness_at (enc := enc) (C := Tryd.checked) (os := os) (X := fun w _ => laidMetH Tryd.prog Rows.dfaTurnsRow.laid w) false (laidWorld os) #[.slice none 0 0, .string ⟨#[]⟩, .int .u8 0] 8 rfl (by kernel_rfl) (by kernel_rfl) (by kernel_rfl) (by kernel_rfl) (by kernel_rfl) (laid_met os _))
    rfl (by kernel_rfl) Tryd.underlying4 laidOutTryd (by kernel_rfl) (by kernel_rfl) ?_ ?_
  · intro ds hl
    rw [show Tryd.f7.params.toList.length = 3 from rfl] at hl
    match ds, hl with
    | [_, _, _], _ => rfl
  · intro qs h
    obtain ⟨p, q, r, rfl, h1, h2, h3⟩ := args3 h
    obtain ⟨a, rfl, h4⟩ := strs_of h1
    obtain ⟨b, rfl, _⟩ := str_of h2
    obtain ⟨c, rfl, h5⟩ := u8_of h3
    exact law7 a b c h4 h5
theorem dfaTurns_over : Rows.dfaTurnsRow.holds Tryd.pinned (OpenSpec.ofChange Rows.dfaTurnsSpec) :=
  OpenClaim.holds_of_wide 7 Tryd.f7 rfl rfl rfl rfl rfl rfl rfl ⟨rfl, rfl, rfl, rfl, rfl⟩ rfl rfl rfl rfl rfl (by kernel_rfl) Tryd.func7 (by kernel_rfl)
    (of_decide_eq_true (by kernel_rfl)) (by unfold Func.isWrapper; first | (rw [if_pos (by decide +kernel)]; kernel_rfl) | (rw [if_neg (by decide +kernel)]; exact ⟨rfl, rfl⟩))
    (fun os started H enc _ => dfaTurns_lifted os started H enc)
/-- Of every input trystlaw07.DfaTurns returns true and leaves its arguments as they were. The card. -/
theorem dfaTurns_proved : Rows.DfaTurnsCardSaid :=
  Claim7.holds_tied_plain_at .later [] [.data, .data, .pinned] true (true, "2617c3a0e29a762fabc032dd64bac06877100fac560056c14fd993e5890b676f") false
    dfaTurns_over (fun _ h => by cases h) (by kernel_rfl) (fun _ h => by cases h) dfaTurns_row_tie rfl ⟨rfl, rfl⟩ (by kernel_rfl) rfl
    (fun f fn hf hfn => by
      obtain rfl : f = 7 := Option.some.inj ((show Tryd.prog.funcNamed Rows.dfaTurnsRow.func = some 7 by kernel_rfl).symm.trans hf) |>.symm
      obtain rfl : fn = Tryd.f7 := (Option.some.inj (Tryd.func7.symm.trans hfn)).symm
      refine ⟨by kernel_rfl, fun j t ht => ?_⟩
      have hall : Tryd.f7.params.toList.all (fun t => !Tryd.prog.wantsStandIn t) = true := by kernel_rfl
      have := List.all_eq_true.1 hall t (by
        have := Array.mem_of_getElem? ht
        simpa using this)
      have h2 : Tryd.prog.wantsStandIn t = false := by simpa using this
      exact h2)
    (by kernel_rfl)
#print axioms dfaTurns_proved
end Go.Proofs.YtmgbbmhljopepaaDoor
