/- Of every input trystlaw07.DfaBounds returns true and leaves its arguments as they were. The card ties the listed package-level variables to the program's text. No condition beyond the given statement's own. -/
import Derived.Test.YtmgbbmhljopepaaDoorDk
import Derived.Test.YtmgbbmhljopepaaDoorDn
import Derived.Test.YtmgbbmhljopepaaDoorCards
import Derived.Test.YtmgbbmhljopepaaDoorTie
import Derived.SevenTiedAt
namespace Go.Proofs.YtmgbbmhljopepaaDoor
open Go.Vc
set_option maxRecDepth 100000
theorem dfaBounds_lifted (os : Os) (started : os.Started) (H : Type) (enc : TypeId × Value → H) :
    ReturnsInHanded {} Tryd.checked os 6 .any (fun w args => (Rows.dfaBoundsSpec.pre enc Tryd.prog Tryd.f6 Rows.dfaBoundsRow.domain false w args ∧ laidMetH Tryd.prog Rows.dfaBoundsRow.laid w) ∧ sizedMet enc Tryd.prog Tryd.f6 (OpenSpec.ofChange Rows.dfaBoundsSpec) false w args) (Rows.dfaBoundsSpec.post enc Tryd.prog Tryd.f6 false true false false) := by
  refine law_laid (C := Tryd.checked) (tb := 4) (shs := [(false, [.lst false [.str]])]) (X := laidMetH Tryd.prog Rows.dfaBoundsRow.laid) (fun _ _ hh h => h.of_heap hh) (fun w h => tabsTryd w h) ownTryd started (by kernel_rfl) Tryd.func6
    (ChangeSpec.witness_at (enc := enc) (C := Tryd.checked) (os := os) (X := fun w _ => laidMetH Tryd.prog Rows.dfaBoundsRow.laid w) false (laidWorld os) #[.slice none 0 0] 8 rfl (by kernel_rfl) (by kernel_rfl) (by kernel_rfl) (by kernel_rfl) (by kernel_rfl) (laid_met os _))
    rfl (by kernel_rfl) Tryd.underlying4 laidOutTryd (by kernel_rfl) (by kernel_rfl) ?_ ?_
  · intro ds hl
    rw [show Tryd.f6.params.toList.length = 1 from rfl] at hl
    match ds, hl with
    | [_], _ => rfl
  · intro qs h
    obtain ⟨p, rfl, h1⟩ := args1 h
    obtain ⟨a, rfl, h3⟩ := strs_of h1
    exact law6 a h3
theorem dfaBounds_over : Rows.dfaBoundsRow.holds Tryd.pinned (OpenSpec.ofChange Rows.dfaBoundsSpec) :=
  OpenClaim.holds_of_wide 6 Tryd.f6 rfl rfl rfl rfl rfl rfl rfl ⟨rfl, rfl, rfl, rfl, rfl⟩ rfl rfl rfl rfl rfl (by kernel_rfl) Tryd.func6 (by kernel_rfl)
    (of_decide_eq_true (by kernel_rfl)) (by unfold Func.isWrapper; first | (rw [if_pos (by decide +kernel)]; kernel_rfl) | (rw [if_neg (by decide +kernel)]; exact ⟨rfl, rfl⟩))
    (fun os started H enc _ => dfaBounds_lifted os started H enc)
/-- Of every input trystlaw07.DfaBounds returns true and leaves its arguments as they were. The card. -/
theorem dfaBounds_proved : Rows.DfaBoundsCardSaid :=
  Claim7.holds_tied_plain_at .later [] [.data, .data, .pinned] true (true, "2617c3a0e29a762fabc032dd64bac06877100fac560056c14fd993e5890b676f") false
    dfaBounds_over (fun _ h => by cases h) (by kernel_rfl) (fun _ h => by cases h) dfaBounds_row_tie rfl ⟨rfl, rfl⟩ (by kernel_rfl) rfl
    (fun f fn hf hfn => by
      obtain rfl : f = 6 := Option.some.inj ((show Tryd.prog.funcNamed Rows.dfaBoundsRow.func = some 6 by kernel_rfl).symm.trans hf) |>.symm
      obtain rfl : fn = Tryd.f6 := (Option.some.inj (Tryd.func6.symm.trans hfn)).symm
      refine ⟨by kernel_rfl, fun j t ht => ?_⟩
      have hall : Tryd.f6.params.toList.all (fun t => !Tryd.prog.wantsStandIn t) = true := by kernel_rfl
      have := List.all_eq_true.1 hall t (by
        have := Array.mem_of_getElem? ht
        simpa using this)
      have h2 : Tryd.prog.wantsStandIn t = false := by simpa using this
      exact h2)
    (by kernel_rfl)
#print axioms dfaBounds_proved
end Go.Proofs.YtmgbbmhljopepaaDoor
