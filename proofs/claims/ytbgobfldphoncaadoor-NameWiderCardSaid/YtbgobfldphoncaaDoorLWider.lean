/- Of every input trystlaw02.NameWider returns true and leaves its arguments as they were. The card ties the listed package-level variables to the program's text. No condition beyond the given statement's own. -/
import Derived.Test.YtbgobfldphoncaaDoorNf
import Derived.Test.YtbgobfldphoncaaDoorCards
import Derived.Test.YtbgobfldphoncaaDoorTie
import Derived.SevenTiedAt
namespace Go.Proofs.YtbgobfldphoncaaDoor
open Go.Vc
set_option maxRecDepth 100000
theorem nameWider_lifted (os : Os) (started : os.Started) (H : Type) (enc : TypeId × Value → H) :
    ReturnsInHanded {} Tryd.checked os 5 .any (fun w args => (Rows.nameWiderSpec.pre enc Tryd.prog Tryd.f5 Rows.nameWiderRow.domain false w args ∧ laidMetH Tryd.prog Rows.nameWiderRow.laid w) ∧ sizedMet enc Tryd.prog Tryd.f5 (OpenSpec.ofChange Rows.nameWiderSpec) false w args) (Rows.nameWiderSpec.post enc Tryd.prog Tryd.f5 false true false false) := by
  refine law_laid (C := Tryd.checked) (tb := 4) (shs := [(false, [.str]), (false, [.str]), (false, [.int .u8])]) (X := laidMetH Tryd.prog Rows.nameWiderRow.laid) (fun _ _ hh h => h.of_heap hh) ownTryd started (by kernel_rfl) Tryd.func5
    (ChangeSpec.witness_at (enc := enc) (C := Tryd.checked) (os := os) (X := fun w _ => laidMetH Tryd.prog Rows.nameWiderRow.laid w) false (laidWorld os) #[.string ⟨#[]⟩, .string ⟨#[]⟩, .int .u8 0] 8 rfl (by kernel_rfl) (by kernel_rfl) (by kernel_rfl) (by kernel_rfl) (by kernel_rfl) (laid_met os _))
    rfl (by kernel_rfl) Tryd.underlying4 laidOutTryd (by kernel_rfl) (by kernel_rfl) ?_ ?_
  · intro ds hl
    rw [show Tryd.f5.params.toList.length = 3 from rfl] at hl
    match ds, hl with
    | [_, _, _], _ => rfl
  · intro qs h
    obtain ⟨p, q, r, rfl, h1, h2, h3⟩ := args3 h
    obtain ⟨a, rfl, _⟩ := str_of h1
    obtain ⟨b, rfl, _⟩ := str_of h2
    obtain ⟨c, rfl, h5, h6⟩ := u8_of h3
    exact law5 a b c h5 h6
theorem nameWider_over : Rows.nameWiderRow.holds Tryd.pinned (OpenSpec.ofChange Rows.nameWiderSpec) :=
  OpenClaim.holds_of_wide 5 Tryd.f5 rfl rfl rfl rfl rfl rfl rfl ⟨rfl, rfl, rfl, rfl, rfl⟩ rfl rfl rfl rfl rfl (by kernel_rfl) Tryd.func5 (by kernel_rfl)
    (of_decide_eq_true (by kernel_rfl)) (by unfold Func.isWrapper; first | (rw [if_pos (by decide +kernel)]; kernel_rfl) | (rw [if_neg (by decide +kernel)]; exact ⟨rfl, rfl⟩))
    (fun os started H enc _ => nameWider_lifted os started H enc)
/-- Of every input trystlaw02.NameWider returns true and leaves its arguments as they were. The card. -/
theorem nameWider_proved : Rows.NameWiderCardSaid :=
  Claim7.holds_tied_plain_at .later [] [.data, .pinned] true (true, "167b047b2cf5c756891e9413565ce4147ce5e627875cb31dd14df3e05e8edd32") false
    nameWider_over (fun _ h => by cases h) (by kernel_rfl) (fun _ h => by cases h) nameWider_row_tie rfl ⟨rfl, rfl⟩ (by kernel_rfl) rfl
    (fun f fn hf hfn => by
      obtain rfl : f = 5 := Option.some.inj ((show Tryd.prog.funcNamed Rows.nameWiderRow.func = some 5 by kernel_rfl).symm.trans hf) |>.symm
      obtain rfl : fn = Tryd.f5 := (Option.some.inj (Tryd.func5.symm.trans hfn)).symm
      refine ⟨by kernel_rfl, fun j t ht => ?_⟩
      have hall : Tryd.f5.params.toList.all (fun t => !Tryd.prog.wantsStandIn t) = true := by kernel_rfl
      have := List.all_eq_true.1 hall t (by
        have := Array.mem_of_getElem? ht
        simpa using this)
      have h2 : Tryd.prog.wantsStandIn t = false := by simpa using this
      exact h2)
    (by kernel_rfl)
#print axioms nameWider_proved
end Go.Proofs.YtbgobfldphoncaaDoor
