/-
  DERIVED. GIVEN WITH THE SEED: THE CARDS: each row of YtokkhebhjijnhaaDoorRows.lean that lists a variable, with what it lists TIED to the program's text (the seventh form; the later family's looks); each row that meets fmt, with fmt's text TOLD by the authors' own Lean function (tested against real Go, not proved from fmt's source: count such statements apart). THE CARD IS WHAT COUNTS. Prove the row's statement (the work); the ties are given (YtokkhebhjijnhaaDoorTie.lean); close each card by the builder's one call (the guide's Derived/Test/ToyasCard.lean, 'card_holds'). Laid BY PROGRAM, IN A SANDBOX (cutbox-door.mjs). By AI agents, Wed Nov 11 2026. No macro, syntax, notation, axiom, sorry.
-/
import Derived.Test.YtokkhebhjijnhaaDoorRows
import GoSem.ClaimSeven
namespace Go.Proofs.YtokkhebhjijnhaaDoor
namespace Rows

/-- THE TIED CARD OF 'trystlaw06.NfaBuilds'. -/
def nfaBuildsCard : Claim7 := { stood := { row := nfaBuildsRow, standIns := [], harness := (true, "b5f5c29c5820ceaa4123045cc2809236717e09623e5c4524db935bfee17755cd"), looks := false }, kinds := [], alts := [], laidByText := true, laidKinds := [.data, .pinned], laidTests := true, laidLooks := .later }
def NfaBuildsCardSaid : Prop := Claim7.holds Tryd.pinned (.plain (OpenSpec.ofChange nfaBuildsSpec)) nfaBuildsCard

/-- THE TIED CARD OF 'trystlaw06.NfaSteps'. -/
def nfaStepsCard : Claim7 := { stood := { row := nfaStepsRow, standIns := [], harness := (true, "b5f5c29c5820ceaa4123045cc2809236717e09623e5c4524db935bfee17755cd"), looks := false }, kinds := [], alts := [], laidByText := true, laidKinds := [.data, .pinned], laidTests := true, laidLooks := .later }
def NfaStepsCardSaid : Prop := Claim7.holds Tryd.pinned (.plain (OpenSpec.ofChange nfaStepsSpec)) nfaStepsCard

/-- THE TIED CARD OF 'trystlaw06.NfaMeets'. -/
def nfaMeetsCard : Claim7 := { stood := { row := nfaMeetsRow, standIns := [], harness := (true, "b5f5c29c5820ceaa4123045cc2809236717e09623e5c4524db935bfee17755cd"), looks := false }, kinds := [], alts := [], laidByText := true, laidKinds := [.data, .pinned], laidTests := true, laidLooks := .later }
def NfaMeetsCardSaid : Prop := Claim7.holds Tryd.pinned (.plain (OpenSpec.ofChange nfaMeetsSpec)) nfaMeetsCard

/-- THE TIED CARD OF 'trystlaw06.NfaCloses'. -/
def nfaClosesCard : Claim7 := { stood := { row := nfaClosesRow, standIns := [], harness := (true, "b5f5c29c5820ceaa4123045cc2809236717e09623e5c4524db935bfee17755cd"), looks := false }, kinds := [], alts := [], laidByText := true, laidKinds := [.data, .pinned], laidTests := true, laidLooks := .later }
def NfaClosesCardSaid : Prop := Claim7.holds Tryd.pinned (.plain (OpenSpec.ofChange nfaClosesSpec)) nfaClosesCard

/-- THE TIED CARD OF 'trystlaw06.NfaMore'. -/
def nfaMoreCard : Claim7 := { stood := { row := nfaMoreRow, standIns := [], harness := (true, "b5f5c29c5820ceaa4123045cc2809236717e09623e5c4524db935bfee17755cd"), looks := false }, kinds := [], alts := [], laidByText := true, laidKinds := [.data, .pinned], laidTests := true, laidLooks := .later }
def NfaMoreCardSaid : Prop := Claim7.holds Tryd.pinned (.plain (OpenSpec.ofChange nfaMoreSpec)) nfaMoreCard

/-- THE TIED CARD OF 'trystlaw06.NfaWalks'. -/
def nfaWalksCard : Claim7 := { stood := { row := nfaWalksRow, standIns := [], harness := (true, "b5f5c29c5820ceaa4123045cc2809236717e09623e5c4524db935bfee17755cd"), looks := false }, kinds := [], alts := [], laidByText := true, laidKinds := [.data, .pinned], laidTests := true, laidLooks := .later }
def NfaWalksCardSaid : Prop := Claim7.holds Tryd.pinned (.plain (OpenSpec.ofChange nfaWalksSpec)) nfaWalksCard

/-- THE SECOND FORM's CARD OF 'trystlaw06.NfaBuilds'. -/
def nfaBuildsUptoCard : Claim7 := { stood := { row := nfaBuildsUptoRow, standIns := [], harness := (true, "b5f5c29c5820ceaa4123045cc2809236717e09623e5c4524db935bfee17755cd"), looks := false }, kinds := [], alts := [], laidByText := true, laidKinds := [.data, .pinned], laidTests := true, laidLooks := .later }
def NfaBuildsUptoCardSaid : Prop := Claim7.holds Tryd.pinned (.plain (OpenSpec.upto nfaBuildsSpec)) nfaBuildsUptoCard

/-- THE SECOND FORM's CARD OF 'trystlaw06.NfaSteps'. -/
def nfaStepsUptoCard : Claim7 := { stood := { row := nfaStepsUptoRow, standIns := [], harness := (true, "b5f5c29c5820ceaa4123045cc2809236717e09623e5c4524db935bfee17755cd"), looks := false }, kinds := [], alts := [], laidByText := true, laidKinds := [.data, .pinned], laidTests := true, laidLooks := .later }
def NfaStepsUptoCardSaid : Prop := Claim7.holds Tryd.pinned (.plain (OpenSpec.upto nfaStepsSpec)) nfaStepsUptoCard

/-- THE SECOND FORM's CARD OF 'trystlaw06.NfaMeets'. -/
def nfaMeetsUptoCard : Claim7 := { stood := { row := nfaMeetsUptoRow, standIns := [], harness := (true, "b5f5c29c5820ceaa4123045cc2809236717e09623e5c4524db935bfee17755cd"), looks := false }, kinds := [], alts := [], laidByText := true, laidKinds := [.data, .pinned], laidTests := true, laidLooks := .later }
def NfaMeetsUptoCardSaid : Prop := Claim7.holds Tryd.pinned (.plain (OpenSpec.upto nfaMeetsSpec)) nfaMeetsUptoCard

/-- THE SECOND FORM's CARD OF 'trystlaw06.NfaCloses'. -/
def nfaClosesUptoCard : Claim7 := { stood := { row := nfaClosesUptoRow, standIns := [], harness := (true, "b5f5c29c5820ceaa4123045cc2809236717e09623e5c4524db935bfee17755cd"), looks := false }, kinds := [], alts := [], laidByText := true, laidKinds := [.data, .pinned], laidTests := true, laidLooks := .later }
def NfaClosesUptoCardSaid : Prop := Claim7.holds Tryd.pinned (.plain (OpenSpec.upto nfaClosesSpec)) nfaClosesUptoCard

/-- THE SECOND FORM's CARD OF 'trystlaw06.NfaMore'. -/
def nfaMoreUptoCard : Claim7 := { stood := { row := nfaMoreUptoRow, standIns := [], harness := (true, "b5f5c29c5820ceaa4123045cc2809236717e09623e5c4524db935bfee17755cd"), looks := false }, kinds := [], alts := [], laidByText := true, laidKinds := [.data, .pinned], laidTests := true, laidLooks := .later }
def NfaMoreUptoCardSaid : Prop := Claim7.holds Tryd.pinned (.plain (OpenSpec.upto nfaMoreSpec)) nfaMoreUptoCard

/-- THE SECOND FORM's CARD OF 'trystlaw06.NfaWalks'. -/
def nfaWalksUptoCard : Claim7 := { stood := { row := nfaWalksUptoRow, standIns := [], harness := (true, "b5f5c29c5820ceaa4123045cc2809236717e09623e5c4524db935bfee17755cd"), looks := false }, kinds := [], alts := [], laidByText := true, laidKinds := [.data, .pinned], laidTests := true, laidLooks := .later }
def NfaWalksUptoCardSaid : Prop := Claim7.holds Tryd.pinned (.plain (OpenSpec.upto nfaWalksSpec)) nfaWalksUptoCard
end Rows
end Go.Proofs.YtokkhebhjijnhaaDoor
