/- A part of the proofs of the seat YtmgbbmhljopepaaGreatDoor: the contracts of functions, each proved out of its code. -/
import Derived.Test.YtmgbbmhljopepaaGreatDoorMng
import Derived.Test.YtmgbbmhljopepaaGreatDoorCards
import Derived.Test.YtmgbbmhljopepaaGreatDoorTie
import Derived.SevenTiedAt
namespace Go.Proofs.YtmgbbmhljopepaaGreatDoor
open Go.Vc
set_option maxRecDepth 100000
theorem miniRuns_lifted (os : Os) (started : os.Started) (H : Type) (enc : TypeId × Value → H) :
  ReturnsInHanded {} Tryz.checked os 6 .any (fun w args => (Rows.miniRunsSpec.pre enc Tryz.prog Tryz.f6 Rows.miniRunsRow.domain false w args ∧ laidMetH Tryz.prog Rows.miniRunsRow.laid w) ∧ sizedMet enc Tryz.prog Tryz.f6 (OpenSpec.ofChange Rows.miniRunsSpec) false w args) (Rows.miniRunsSpec.post enc Tryz.prog Tryz.f6 false true false false) := by
 refine law_laid (C := Tryz.checked) (tb := 4) (shs := [(true, [.lst false [.str], .lst false [.lst false [.int .i64]], .lst false [.lst false [.int .i64]]]), (false, [.lst false [.str]]), (false, [.str])]) (X := laidMetH Tryz.prog Rows.miniRunsRow.laid) (fun _ _ hh h => h.of_heap hh) (fun w h => tabsTryz w h) ownTryz started (by kernel_rfl) Tryz.func6
  (ChangeSpec.witness_at (enc := enc) (C := Tryz.checked) (os := os) (X := fun w _ => laidMetH Tryz.prog Rows.miniRunsRow.laid w) false (laidWorld os) #[.agg #[.slice none 0 0, .slice none 0 0, .slice none 0 0], .slice none 0 0, .string ⟨#[]⟩] 8 rfl (by kernel_rfl) (by kernel_rfl) (by kernel_rfl) (by kernel_rfl) (by kernel_rfl) (laid_met os _))
  rfl (by kernel_rfl) Tryz.underlying4 laidOutTryz (by kernel_rfl) (by kernel_rfl) ?_ ?_
 ·intro ds hl
  rw [show Tryz.f6.params.toList.length = 3 from rfl] at hl
  match ds, hl with
  | [_, _, _], _ => rfl
 ·intro qs h
  obtain ⟨p, q, r, rfl, h1, h2, h3⟩ := args3 h
  obtain ⟨a, rfl, ha⟩ := di_of h1
  obtain ⟨b, rfl, hb⟩ := strs_of h2
  obtain ⟨c, rfl, _⟩ := str_of h3
  exact law6 a b c ha hb
theorem miniRuns_over : Rows.miniRunsRow.holds Tryz.pinned (OpenSpec.ofChange Rows.miniRunsSpec) :=
 OpenClaim.holds_of_wide 6 Tryz.f6 rfl rfl rfl rfl rfl rfl rfl ⟨rfl, rfl, rfl, rfl, rfl⟩ rfl rfl rfl rfl rfl (by kernel_rfl) Tryz.func6 (by kernel_rfl)
  (of_decide_eq_true (by kernel_rfl)) (by unfold Func.isWrapper; first | (rw [if_pos (by decide +kernel)]; kernel_rfl) | (rw [if_neg (by decide +kernel)]; exact ⟨rfl, rfl⟩))
  (fun os started H enc _ => miniRuns_lifted os started H enc)
theorem miniRuns_proved : Rows.MiniRunsCardSaid :=
 Claim7.holds_tied_plain_at .later [] [.data, .data, .data, .data, .pinned] true (true, "2e7623fbae04e830dad4da9a6d693a3ed4df9c5749e8e8a121930a9ef1f6de54") false
  miniRuns_over (fun _ h => by cases h) (by kernel_rfl) (fun _ h => by cases h) miniRuns_row_tie rfl ⟨rfl, rfl⟩ (by kernel_rfl) rfl
  (fun f fn hf hfn => by
   obtain rfl : f = 6 := Option.some.inj ((show Tryz.prog.funcNamed Rows.miniRunsRow.func = some 6 by kernel_rfl).symm.trans hf) |>.symm
   obtain rfl : fn = Tryz.f6 := (Option.some.inj (Tryz.func6.symm.trans hfn)).symm
   refine ⟨by kernel_rfl, fun j t ht => ?_⟩
   have hall : Tryz.f6.params.toList.all (fun t => !Tryz.prog.wantsStandIn t) = true := by kernel_rfl
   have := List.all_eq_true.1 hall t (by
    have := Array.mem_of_getElem? ht
    simpa using this)
   have h2 : Tryz.prog.wantsStandIn t = false := by simpa using this
   exact h2)
  (by kernel_rfl)
#print axioms miniRuns_proved
end Go.Proofs.YtmgbbmhljopepaaGreatDoor
