/-
  DERIVED. GIVEN WITH THE SEED: THE CARDS: each row of YtmgbbmhljopepaaGreatDoorRows.lean that lists a variable, with what it lists TIED to the program's text (the seventh form; the later family's looks); each row that meets fmt, with fmt's text TOLD by the authors' own Lean function (tested against real Go, not proved from fmt's source: count such statements apart). THE CARD IS WHAT COUNTS. Prove the row's statement (the work); the ties are given (YtmgbbmhljopepaaGreatDoorTie.lean); close each card by the builder's one call (the guide's Derived/Test/ToyasCard.lean, 'card_holds'). Laid BY PROGRAM, IN A SANDBOX (cutbox-door.mjs). By AI agents, Wed Nov 11 2026. No macro, syntax, notation, axiom, sorry.
-/
import Derived.Test.YtmgbbmhljopepaaGreatDoorRows
import GoSem.ClaimSeven
namespace Go.Proofs.YtmgbbmhljopepaaGreatDoor
namespace Rows

/-- THE TIED CARD OF 'trystlaw07.DfaBuilds'. -/
def dfaBuildsCard : Claim7 := { stood := { row := dfaBuildsRow, standIns := [], harness := (true, "2e7623fbae04e830dad4da9a6d693a3ed4df9c5749e8e8a121930a9ef1f6de54"), looks := false }, kinds := [], alts := [], laidByText := true, laidKinds := [.data, .data, .pinned], laidTests := true, laidLooks := .later }
def DfaBuildsCardSaid : Prop := Claim7.holds Tryz.pinned (.plain (OpenSpec.ofChange dfaBuildsSpec)) dfaBuildsCard

/-- THE TIED CARD OF 'trystlaw08.MiniWords'. -/
def miniWordsCard : Claim7 := { stood := { row := miniWordsRow, standIns := [], harness := (true, "2e7623fbae04e830dad4da9a6d693a3ed4df9c5749e8e8a121930a9ef1f6de54"), looks := false }, kinds := [], alts := [], laidByText := true, laidKinds := [.data, .data, .data, .data, .pinned], laidTests := true, laidLooks := .later }
def MiniWordsCardSaid : Prop := Claim7.holds Tryz.pinned (.plain (OpenSpec.ofChange miniWordsSpec)) miniWordsCard

/-- THE TIED CARD OF 'trystlaw08.MiniOf'. -/
def miniOfCard : Claim7 := { stood := { row := miniOfRow, standIns := [], harness := (true, "2e7623fbae04e830dad4da9a6d693a3ed4df9c5749e8e8a121930a9ef1f6de54"), looks := false }, kinds := [], alts := [], laidByText := true, laidKinds := [.data, .data, .data, .data, .pinned], laidTests := true, laidLooks := .later }
def MiniOfCardSaid : Prop := Claim7.holds Tryz.pinned (.plain (OpenSpec.ofChange miniOfSpec)) miniOfCard

/-- THE TIED CARD OF 'trystlaw08.MiniRuns'. -/
def miniRunsCard : Claim7 := { stood := { row := miniRunsRow, standIns := [], harness := (true, "2e7623fbae04e830dad4da9a6d693a3ed4df9c5749e8e8a121930a9ef1f6de54"), looks := false }, kinds := [], alts := [], laidByText := true, laidKinds := [.data, .data, .data, .data, .pinned], laidTests := true, laidLooks := .later }
def MiniRunsCardSaid : Prop := Claim7.holds Tryz.pinned (.plain (OpenSpec.ofChange miniRunsSpec)) miniRunsCard

/-- THE TIED CARD OF 'trysttop.TrystMatches'. -/
def trystMatchesCard : Claim7 := { stood := { row := trystMatchesRow, standIns := [], harness := (true, "2e7623fbae04e830dad4da9a6d693a3ed4df9c5749e8e8a121930a9ef1f6de54"), looks := false }, kinds := [], alts := [], laidByText := true, laidKinds := [.data, .data, .data, .data, .pinned], laidTests := true, laidLooks := .later }
def TrystMatchesCardSaid : Prop := Claim7.holds Tryz.pinned (.plain (OpenSpec.ofChange trystMatchesSpec)) trystMatchesCard

/-- THE SECOND FORM's CARD OF 'trystlaw07.DfaBuilds'. -/
def dfaBuildsUptoCard : Claim7 := { stood := { row := dfaBuildsUptoRow, standIns := [], harness := (true, "2e7623fbae04e830dad4da9a6d693a3ed4df9c5749e8e8a121930a9ef1f6de54"), looks := false }, kinds := [], alts := [], laidByText := true, laidKinds := [.data, .data, .pinned], laidTests := true, laidLooks := .later }
def DfaBuildsUptoCardSaid : Prop := Claim7.holds Tryz.pinned (.plain (OpenSpec.upto dfaBuildsSpec)) dfaBuildsUptoCard

/-- THE SECOND FORM's CARD OF 'trystlaw08.MiniWords'. -/
def miniWordsUptoCard : Claim7 := { stood := { row := miniWordsUptoRow, standIns := [], harness := (true, "2e7623fbae04e830dad4da9a6d693a3ed4df9c5749e8e8a121930a9ef1f6de54"), looks := false }, kinds := [], alts := [], laidByText := true, laidKinds := [.data, .data, .data, .data, .pinned], laidTests := true, laidLooks := .later }
def MiniWordsUptoCardSaid : Prop := Claim7.holds Tryz.pinned (.plain (OpenSpec.upto miniWordsSpec)) miniWordsUptoCard

/-- THE SECOND FORM's CARD OF 'trystlaw08.MiniOf'. -/
def miniOfUptoCard : Claim7 := { stood := { row := miniOfUptoRow, standIns := [], harness := (true, "2e7623fbae04e830dad4da9a6d693a3ed4df9c5749e8e8a121930a9ef1f6de54"), looks := false }, kinds := [], alts := [], laidByText := true, laidKinds := [.data, .data, .data, .data, .pinned], laidTests := true, laidLooks := .later }
def MiniOfUptoCardSaid : Prop := Claim7.holds Tryz.pinned (.plain (OpenSpec.upto miniOfSpec)) miniOfUptoCard

/-- THE SECOND FORM's CARD OF 'trystlaw08.MiniRuns'. -/
def miniRunsUptoCard : Claim7 := { stood := { row := miniRunsUptoRow, standIns := [], harness := (true, "2e7623fbae04e830dad4da9a6d693a3ed4df9c5749e8e8a121930a9ef1f6de54"), looks := false }, kinds := [], alts := [], laidByText := true, laidKinds := [.data, .data, .data, .data, .pinned], laidTests := true, laidLooks := .later }
def MiniRunsUptoCardSaid : Prop := Claim7.holds Tryz.pinned (.plain (OpenSpec.upto miniRunsSpec)) miniRunsUptoCard

/-- THE SECOND FORM's CARD OF 'trysttop.TrystMatches'. -/
def trystMatchesUptoCard : Claim7 := { stood := { row := trystMatchesUptoRow, standIns := [], harness := (true, "2e7623fbae04e830dad4da9a6d693a3ed4df9c5749e8e8a121930a9ef1f6de54"), looks := false }, kinds := [], alts := [], laidByText := true, laidKinds := [.data, .data, .data, .data, .pinned], laidTests := true, laidLooks := .later }
def TrystMatchesUptoCardSaid : Prop := Claim7.holds Tryz.pinned (.plain (OpenSpec.upto trystMatchesSpec)) trystMatchesUptoCard
end Rows
end Go.Proofs.YtmgbbmhljopepaaGreatDoor
