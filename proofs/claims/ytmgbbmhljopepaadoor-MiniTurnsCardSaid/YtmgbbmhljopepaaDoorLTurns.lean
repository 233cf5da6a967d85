/- Of every input trystlaw08.MiniTurns returns true and leaves its arguments as they were. The card ties the listed package-level variables to the program's text. No condition beyond the given statement's own. -/
import Derived.Test.YtmgbbmhljopepaaDoorMtw
import Derived.Test.YtmgbbmhljopepaaDoorCards
import Derived.Test.YtmgbbmhljopepaaDoorTie
import Derived.SevenTiedAt
namespace Go.Proofs.YtmgbbmhljopepaaDoor
open Go.Vc
set_option maxRecDepth 100000
theorem miniTurns_lifted (os : Os) (started : os.Started) (H : Type) (enc : TypeId × Value → H) :
    ReturnsInHanded {} Tryd.checked os 4 .any (fun w args => (Rows.miniTurnsSpec.pre enc Tryd.prog Tryd.f4 Rows.miniTurnsRow.domain false w args ∧ laidMetH Tryd.prog Rows.miniTurnsRow.laid w) ∧ sizedMet enc Tryd.prog Tryd.f4 (OpenSpec.ofChange Rows.miniTurnsSpec) false w args) (Rows.miniTurnsSpec.post enc Tryd.prog Tryd.f4 false true false false) := by
  refine law_laid (C := Tryd.checked) (tb := 4) (shs := [(true, [.lst false [.str], .lst false [.lst false [.int .i64]], .lst false [.lst false [.int .i64]]]), (false, [.int .u8])]) (X := laidMetH Tryd.prog Rows.miniTurnsRow.laid) (fun _ _ hh h => h.of_heap hh) (fun w h => tabsTryd w h) ownTryd started (by kernel_rfl) Tryd.func4
    (ChangeSpec.witness_at (enc := enc) (C := Tryd.checked) (os := os) (X := fun w _ => laidMetH Tryd.prog Rows.miniTurnsRow.laid w) false (laidWorld os) #[.agg #[.slice none 0 0, .slice none 0 0, .slice none 0 0], .int .u8 0] 8 rfl (by kernel_rfl) (by kernel_rfl) (by kernel_rfl) (by kernel_rfl) (by kernel_rfl) (laid_met os _))
    rfl (by kernel_rfl) Tryd.underlying4 laidOutTryd (by kernel_rfl) (by kernel_rfl) ?_ ?_
  · intro ds hl
    rw [show Tryd.f4.params.toList.length = 2 from rfl] at hl
    match ds, hl with
    | [_, _], _ => rfl
  · intro qs h
    obtain ⟨p, q, rfl, h1, h2⟩ := args2 h
    obtain ⟨a, rfl, ha⟩ := di_of h1
    obtain ⟨b, rfl, hb⟩ := u8_of h2
    exact law4 a b hb ha
theorem miniTurns_over : Rows.miniTurnsRow.holds Tryd.pinned (OpenSpec.ofChange Rows.miniTurnsSpec) :=
  OpenClaim.holds_of_wide 4 Tryd.f4 rfl rfl rfl rfl rfl rfl rfl ⟨rfl, rfl, rfl, rfl, rfl⟩ rfl rfl rfl rfl rfl (by kernel_rfl) Tryd.func4 (by kernel_rfl)
    (of_decide_eq_true (by kernel_rfl)) (by unfold Func.isWrapper; first | (rw [if_pos (by decide +kernel)]; kernel_rfl) | (rw [if_neg (by decide +kernel)]; exact ⟨rfl, rfl⟩))
    (fun os started H enc _ => miniTurns_lifted os started H enc)
/-- Of every input trystlaw08.MiniTurns returns true and leaves its arguments as they were. The card. -/
theorem miniTurns_proved : Rows.MiniTurnsCardSaid :=
  Claim7.holds_tied_plain_at .later [] [.data, .data, .data] true (true, "2617c3a0e29a762fabc032dd64bac06877100fac560056c14fd993e5890b676f") false
    miniTurns_over (fun _ h => by cases h) (by kernel_rfl) (fun _ h => by cases h) miniTurns_row_tie rfl ⟨rfl, rfl⟩ (by kernel_rfl) rfl
    (fun f fn hf hfn => by
      obtain rfl : f = 4 := Option.some.inj ((show Tryd.prog.funcNamed Rows.miniTurnsRow.func = some 4 by kernel_rfl).symm.trans hf) |>.symm
      obtain rfl : fn = Tryd.f4 := (Option.some.inj (Tryd.func4.symm.trans hfn)).symm
      refine ⟨by kernel_rfl, fun j t ht => ?_⟩
      have hall : Tryd.f4.params.toList.all (fun t => !Tryd.prog.wantsStandIn t) = true := by kernel_rfl
      have := List.all_eq_true.1 hall t (by
        have := Array.mem_of_getElem? ht
        simpa using this)
      have h2 : Tryd.prog.wantsStandIn t = false := by simpa using this
      exact h2)
    (by kernel_rfl)
#print axioms miniTurns_proved
end Go.Proofs.YtmgbbmhljopepaaDoor
