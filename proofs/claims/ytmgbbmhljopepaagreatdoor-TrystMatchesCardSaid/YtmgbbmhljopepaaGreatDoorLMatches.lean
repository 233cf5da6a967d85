/- A part of the proofs of the seat YtmgbbmhljopepaaGreatDoor: the contracts of functions, each proved out of its code. -/
import Derived.Test.YtmgbbmhljopepaaGreatDoorWm
import Derived.Test.YtmgbbmhljopepaaGreatDoorCards
import Derived.Test.YtmgbbmhljopepaaGreatDoorTie
import Derived.SevenTiedAt
namespace Go.Proofs.YtmgbbmhljopepaaGreatDoor
open Go.Vc
set_option maxRecDepth 100000
theorem trystMatches_lifted (os : Os) (started : os.Started) (H : Type) (enc : TypeId × Value → H) :
  ReturnsInHanded {} Tryz.checked os 7 .any (fun w args => (Rows.trystMatchesSpec.pre enc Tryz.prog Tryz.f7 Rows.trystMatchesRow.domain false w args ∧ laidMetH Tryz.prog Rows.trystMatchesRow.laid w) ∧ sizedMet enc Tryz.prog Tryz.f7 (OpenSpec.ofChange Rows.trystMatchesSpec) false w args) (Rows.trystMatchesSpec.post enc Tryz.prog Tryz.f7 false true false false) := by
 refine law_laid (C := Tryz.checked) (tb := 4) (shs := [(false, [.lst false [.str]]), (true, [.str, .str, .int .u64, .lst true [.str, .bool, .int .i64, .str]])]) (X := laidMetH Tryz.prog Rows.trystMatchesRow.laid) (fun _ _ hh h => h.of_heap hh) (fun w h => tabsTryz w h) ownTryz started (by kernel_rfl) Tryz.func7
  (ChangeSpec.witness_at (enc := enc) (C := Tryz.checked) (os := os) (X := fun w _ => laidMetH Tryz.prog Rows.trystMatchesRow.laid w) false (laidWorld os) #[.slice none 0 0, .agg #[.string ⟨#[]⟩, .string ⟨#[]⟩, .int .u64 0, .slice none 0 0]] 8 rfl (by kernel_rfl) (by kernel_rfl) (by kernel_rfl) (by kernel_rfl) (by kernel_rfl) (laid_met os _))
  rfl (by kernel_rfl) Tryz.underlying4 laidOutTryz (by kernel_rfl) (by kernel_rfl) ?_ ?_
 ·intro ds hl
  rw [show Tryz.f7.params.toList.length = 2 from rfl] at hl
  match ds, hl with
  | [_, _], _ => rfl
 ·intro qs h
  obtain ⟨p, q, rfl, h1, h2⟩ := args2 h
  obtain ⟨a, rfl, ha⟩ := strs_of h1
  obtain ⟨e, rfl⟩ := ev_of h2
  exact law7 a e ha
theorem trystMatches_over : Rows.trystMatchesRow.holds Tryz.pinned (OpenSpec.ofChange Rows.trystMatchesSpec) :=
 OpenClaim.holds_of_wide 7 Tryz.f7 rfl rfl rfl rfl rfl rfl rfl ⟨rfl, rfl, rfl, rfl, rfl⟩ rfl rfl rfl rfl rfl (by kernel_rfl) Tryz.func7 (by kernel_rfl)
  (of_decide_eq_true (by kernel_rfl)) (by unfold Func.isWrapper; first | (rw [if_pos (by decide +kernel)]; kernel_rfl) | (rw [if_neg (by decide +kernel)]; exact ⟨rfl, rfl⟩))
  (fun os started H enc _ => trystMatches_lifted os started H enc)
theorem trystMatches_proved : Rows.TrystMatchesCardSaid :=
 Claim7.holds_tied_plain_at .later [] [.data, .data, .data, .data, .pinned] true (true, "2e7623fbae04e830dad4da9a6d693a3ed4df9c5749e8e8a121930a9ef1f6de54") false
  trystMatches_over (fun _ h => by cases h) (by kernel_rfl) (fun _ h => by cases h) trystMatches_row_tie rfl ⟨rfl, rfl⟩ (by kernel_rfl) rfl
  (fun f fn hf hfn => by
   obtain rfl : f = 7 := Option.some.inj ((show Tryz.prog.funcNamed Rows.trystMatchesRow.func = some 7 by kernel_rfl).symm.trans hf) |>.symm
   obtain rfl : fn = Tryz.f7 := (Option.some.inj (Tryz.func7.symm.trans hfn)).symm
   refine ⟨by kernel_rfl, fun j t ht => ?_⟩
   have hall : Tryz.f7.params.toList.all (fun t => !Tryz.prog.wantsStandIn t) = true := by kernel_rfl
   have := List.all_eq_true.1 hall t (by
    have := Array.mem_of_getElem? ht
    simpa using this)
   have h2 : Tryz.prog.wantsStandIn t = false := by simpa using this
   exact h2)
  (by kernel_rfl)
#print axioms trystMatches_proved
end Go.Proofs.YtmgbbmhljopepaaGreatDoor
