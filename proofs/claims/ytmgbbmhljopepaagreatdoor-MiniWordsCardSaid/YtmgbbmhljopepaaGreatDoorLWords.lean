/- Of every input trystlaw08.MiniWords returns true and leaves its arguments as they were. The card ties the listed package-level variables to the program's text. No condition beyond the given statement's own. -/
import Derived.Test.YtmgbbmhljopepaaGreatDoorMne
import Derived.Test.YtmgbbmhljopepaaGreatDoorMnf
import Derived.Test.YtmgbbmhljopepaaGreatDoorCards
import Derived.Test.YtmgbbmhljopepaaGreatDoorTie
import Derived.SevenTiedAt
namespace Go.Proofs.YtmgbbmhljopepaaGreatDoor
open Go.Vc
set_option maxRecDepth 100000
theorem miniWords_lifted (os : Os) (started : os.Started) (H : Type) (enc : TypeId × Value → H) :
    ReturnsInHanded {} Tryz.checked os 4 .any (fun w args => (Rows.miniWordsSpec.pre enc Tryz.prog Tryz.f4 Rows.miniWordsRow.domain false w args ∧ laidMetH Tryz.prog Rows.miniWordsRow.laid w) ∧ sizedMet enc Tryz.prog Tryz.f4 (OpenSpec.ofChange Rows.miniWordsSpec) false w args) (Rows.miniWordsSpec.post enc Tryz.prog Tryz.f4 false true false false) := by
  refine law_laid (C := Tryz.checked) (tb := 4) (shs := [(false, [.str]), (false, [.str])]) (X := laidMetH Tryz.prog Rows.miniWordsRow.laid) (fun _ _ hh h => h.of_heap hh) (fun w h => tabsTryz w h) ownTryz started (by kernel_rfl) Tryz.func4
    (ChangeSpec.witness_at (enc := enc) (C := Tryz.checked) (os := os) (X := fun w _ => laidMetH Tryz.prog Rows.miniWordsRow.laid w) false (laidWorld os) #[.string ⟨#[]⟩, .string ⟨#[]⟩] 8 rfl (by kernel_rfl) (by kernel_rfl) (by kernel_rfl) (by kernel_rfl) (by kernel_rfl) (laid_met os _))
    rfl (by kernel_rfl) Tryz.underlying4 laidOutTryz (by kernel_rfl) (by kernel_rfl) ?_ ?_
  · intro ds hl
    rw [show Tryz.f4.params.toList.length = 2 from rfl] at hl
    match ds, hl with
    | [_, _], _ => rfl
  · intro qs h
    obtain ⟨p, q, rfl, h1, h2⟩ := args2 h
    obtain ⟨a, rfl, _⟩ := str_of h1
    obtain ⟨b, rfl, _⟩ := str_of h2
    exact law4 a b
theorem miniWords_over : Rows.miniWordsRow.holds Tryz.pinned (OpenSpec.ofChange Rows.miniWordsSpec) :=
  OpenClaim.holds_of_wide 4 Tryz.f4 rfl rfl rfl rfl rfl rfl rfl ⟨rfl, rfl, rfl, rfl, rfl⟩ rfl rfl rfl rfl rfl (by kernel_rfl) Tryz.func4 (by kernel_rfl)
    (of_decide_eq_true (by kernel_rfl)) (by unfold Func.isWrapper; first | (rw [if_pos (by decide +kernel)]; kernel_rfl) | (rw [if_neg (by decide +kernel)]; exact ⟨rfl, rfl⟩))
    (fun os started H enc _ => miniWords_lifted os started H enc)
/-- Of every input trystlaw08.MiniWords returns true and leaves its arguments as they were. The card. -/
theorem miniWords_proved : Rows.MiniWordsCardSaid :=
  Claim7.holds_tied_plain_at .later [] [.data, .data, .data, .data, .pinned] true (true, "2e7623fbae04e830dad4da9a6d693a3ed4df9c5749e8e8a121930a9ef1f6de54") false
    miniWords_over (fun _ h => by cases h) (by kernel_rfl) (fun _ h => by cases h) miniWords_row_tie rfl ⟨rfl, rfl⟩ (by kernel_rfl) rfl
    (fun f fn hf hfn => by
      obtain rfl : f = 4 := Option.some.inj ((show Tryz.prog.funcNamed Rows.miniWordsRow.func = some 4 by kernel_rfl).symm.trans hf) |>.symm
      obtain rfl : fn = Tryz.f4 := (Option.some.inj (Tryz.func4.symm.trans hfn)).symm
      refine ⟨by kernel_rfl, fun j t ht => ?_⟩
      have hall : Tryz.f4.params.toList.all (fun t => !Tryz.prog.wantsStandIn t) = true := by kernel_rfl
      have := List.all_eq_true.1 hall t (by
        have := Array.mem_of_getElem? ht
        simpa using this)
      have h2 : Tryz.prog.wantsStandIn t = false := by simpa using this
      exact h2)
    (by kernel_rfl)
#print axioms miniWords_proved
end Go.Proofs.YtmgbbmhljopepaaGreatDoor
