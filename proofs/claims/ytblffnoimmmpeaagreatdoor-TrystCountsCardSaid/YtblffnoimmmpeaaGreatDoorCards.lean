/-
  DERIVED. GIVEN WITH THE SEED: THE CARDS: each row of YtblffnoimmmpeaaGreatDoorRows.lean that lists a variable, with what it lists TIED to the program's text (the seventh form; the later family's looks); each row that meets fmt, with fmt's text TOLD by the authors' own Lean function (tested against real Go, not proved from fmt's source: count such statements apart). THE CARD IS WHAT COUNTS. Prove the row's statement (the work); the ties are given (YtblffnoimmmpeaaGreatDoorTie.lean); close each card by the builder's one call (the guide's Derived/Test/ToyasCard.lean, 'card_holds'). Laid BY PROGRAM, IN A SANDBOX (cutbox-door.mjs). By AI agents, Wed Nov 11 2026. No macro, syntax, notation, axiom, sorry.
-/
import Derived.Test.YtblffnoimmmpeaaGreatDoorRows
import GoSem.ClaimSeven
namespace Go.Proofs.YtblffnoimmmpeaaGreatDoor
namespace Rows

/-- THE TIED CARD OF 'trysttop.TrystCounts'. -/
def trystCountsCard : Claim7 := { stood := { row := trystCountsRow, standIns := [], harness := (true, "4c8196e1827328e41aa06e9ea996471de02811159e62c980f15e62ebeed322cd"), looks := false }, kinds := [], alts := [], laidByText := true, laidKinds := [.data, .data, .data, .data, .pinned], laidTests := true, laidLooks := .later }
def TrystCountsCardSaid : Prop := Claim7.holds Tryz.pinned (.plain (OpenSpec.ofChange trystCountsSpec)) trystCountsCard

/-- THE SECOND FORM's CARD OF 'trysttop.TrystCounts'. -/
def trystCountsUptoCard : Claim7 := { stood := { row := trystCountsUptoRow, standIns := [], harness := (true, "4c8196e1827328e41aa06e9ea996471de02811159e62c980f15e62ebeed322cd"), looks := false }, kinds := [], alts := [], laidByText := true, laidKinds := [.data, .data, .data, .data, .pinned], laidTests := true, laidLooks := .later }
def TrystCountsUptoCardSaid : Prop := Claim7.holds Tryz.pinned (.plain (OpenSpec.upto trystCountsSpec)) trystCountsUptoCard
end Rows
end Go.Proofs.YtblffnoimmmpeaaGreatDoor
