/- A part of the proofs of the seat YtbgobfldphoncaaDoor: the contracts of functions, each proved out of its code. -/
import Derived.Test.YtbgobfldphoncaaDoorNe
import Derived.Test.YtbgobfldphoncaaDoorVf
import Derived.Test.YtbgobfldphoncaaDoorRows
import Derived.LaidHandle
namespace Go.Vc
open Go.Proofs Go.Proofs.YtbgobfldphoncaaDoor
set_option maxRecDepth 100000
theorem u8_of {p : PV} (h : ArgOk (false, [.int .u8]) p) : ∃ n, p = p8 n ∧ 0 ≤ n ∧ n ≤ 255 := by
  obtain ⟨n, rfl, hw⟩ := int_of h
  exact ⟨n, rfl, Go.bounds_u8 hw⟩
theorem ownTryd : ownKnob Tryd.prog.godebug = none := by kernel_rfl
theorem laidOutTryd : laidOutB Tryd.prog = true := by kernel_rfl
/-- a world in which the listed tables lie -/
noncomputable def laidWorld (os : Os) : World := layAt (layAt (World.holding Tryd.prog os ⟨#[], #[], []⟩) 1 (litsOf Rows.laid_unicode_utf8_first)) 2 (litsOf (Rows.laid_unicode_utf8_acceptRanges : DataW Unit))
abbrev laidL : List (String × DataW Unit) := [("unicode/utf8.acceptRanges", Rows.laid_unicode_utf8_acceptRanges), ("unicode/utf8.first", Rows.laid_unicode_utf8_first)]
theorem laid_met (os : Os) (args : Array Value) : laidMetH Tryd.prog laidL ((laidWorld os).forCall (fun _ _ => 0) ⟨#[], args, []⟩).memory := by
  have h : laidMet Tryd.prog laidL ((laidWorld os).forCall (fun _ _ => 0) ⟨#[], args, []⟩).memory := laidMet_of_run3 8 (by kernel_rfl) (by kernel_rfl) (by kernel_rfl)
  exact laidMetH_of_parts h (by kernel_rfl)
end Go.Vc
