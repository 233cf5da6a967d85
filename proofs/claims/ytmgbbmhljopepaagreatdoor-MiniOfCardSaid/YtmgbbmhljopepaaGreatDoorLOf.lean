/- Of every input trystlaw08.MiniOf returns true and leaves its arguments as they were. The card ties the listed package-level variables to the program's text. No condition beyond the given statement's own. -/
import Derived.Test.YtmgbbmhljopepaaGreatDoorMne
import Derived.Test.YtmgbbmhljopepaaGreatDoorCards
import Derived.Test.YtmgbbmhljopepaaGreatDoorTie
import Derived.SevenTiedAt
namespace Go.Proofs.YtmgbbmhljopepaaGreatDoor
open Go.Vc
set_option maxRecDepth 100000
theorem miniOf_lifted (os : Os) (started : os.Started) (H : Type) (enc : TypeId × Value → H) :
    ReturnsInHanded {} Tryz.checked os 5 .any (fun w args => (Rows.miniOfSpec.pre enc Tryz.prog Tryz.f5 Rows.miniOfRow.domain false w args ∧ laidMetH Tryz.prog Rows.miniOfRow.laid w) ∧ sizedMet enc Tryz.prog Tryz.f5 (OpenSpec.ofChange Rows.miniOfSpec) false w args) (Rows.miniOfSpec.post enc Tryz.prog Tryz.f5 false true false false) := by
  refine law_laid (C := Tryz.checked) (tb := 4) (shs := [(false, [.lst false [.str]]), (false, [.int .i64])]) (X := laidMetH Tryz.prog Rows.miniOfRow.laid) (fun _ _ hh h => h.of_heap hh) (fun w h => tabsTryz w h) ownTryz started (by kernel_rfl) Tryz.func5
    (ChangeSpec.witness_at (enc := enc) (C := Tryz.checked) (os := os) (X := fun w _ => laidMetH Tryz.prog Rows.miniOfRow.laid w) false (laidWorld os) #[.slice none 0 0, .int .i64 0] 8 rfl (by kernel_rfl) (by kernel_rfl) (by kernel_rfl) (by kernel_rfl) (by kernel_rfl) (laid_met os _))
    rfl (by kernel_rfl) Tryz.underlying4 laidOutTryz (by kernel_rfl) (by kernel_rfl) ?_ ?_
  · intro ds hl
    rw [show Tryz.f5.params.toList.length = 2 from rfl] at hl
    match ds, hl with
    | [_, _], _ => rfl
  · intro qs h
    obtain ⟨p, q, rfl, h1, h2⟩ := args2 h
    obtain ⟨a, rfl, h3⟩ := strs_of h1
    obtain ⟨b, rfl⟩ := i64_of h2
    exact law5 a b h3
theorem miniOf_over : Rows.miniOfRow.holds Tryz.pinned (OpenSpec.ofChange Rows.miniOfSpec) :=
  OpenClaim.holds_of_wide 5 Tryz.f5 rfl rfl rfl rfl rfl rfl rfl ⟨rfl, rfl, rfl, rfl, rfl⟩ rfl rfl rfl rfl rfl (by kernel_rfl) Tryz.func5 (by kernel_rfl)
    (of_decide_eq_true (by kernel_rfl)) (by unfold Func.isWrapper; first | (rw [if_pos (by decide +kernel)]; kernel_rfl) | (rw [if_neg (by decide +kernel)]; exact ⟨rfl, rfl⟩))
    (fun os started H enc _ => miniOf_lifted os started H enc)
/-- Of every input trystlaw08.MiniOf returns true and leaves its arguments as they were. The card. -/
theorem miniOf_proved : Rows.MiniOfCardSaid :=
  Claim7.holds_tied_plain_at .later [] [.data, .data, .data, .data, .pinned] true (true, "2e7623fbae04e830dad4da9a6d693a3ed4df9c5749e8e8a121930a9ef1f6de54") false
    miniOf_over (fun _ h => by cases h) (by kernel_rfl) (fun _ h => by cases h) miniOf_row_tie rfl ⟨rfl, rfl⟩ (by kernel_rfl) rfl
    (fun f fn hf hfn => by
      obtain rfl : f = 5 := Option.some.inj ((show Tryz.prog.funcNamed Rows.miniOfRow.func = some 5 by kernel_rfl).symm.trans hf) |>.symm
      obtain rfl : fn = Tryz.f5 := (Option.some.inj (Tryz.func5.symm.trans hfn)).symm
      refine ⟨by kernel_rfl, fun j t ht => ?_⟩
      have hall : Tryz.f5.params.toList.all (fun t => !Tryz.prog.wantsStandIn t) = true := by kernel_rfl
      have := List.all_eq_true.1 hall t (by
        have := Array.mem_of_getElem? ht
        simpa using this)
      have h2 : Tryz.prog.wantsStandIn t = false := by simpa using this
      exact h2)
    (by kernel_rfl)
#print axioms miniOf_proved
end Go.Proofs.YtmgbbmhljopepaaGreatDoor
