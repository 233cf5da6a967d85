/-
  DERIVED. GIVEN WITH THE SEED: THE CARDS: each row of YtjkldmepdenlfaaDoorRows.lean that lists a variable, with what it lists TIED to the program's text (the seventh form; the later family's looks); each row that meets fmt, with fmt's text TOLD by the authors' own Lean function (tested against real Go, not proved from fmt's source: count such statements apart). THE CARD IS WHAT COUNTS. Prove the row's statement (the work); the ties are given (YtjkldmepdenlfaaDoorTie.lean); close each card by the builder's one call (the guide's Derived/Test/ToyasCard.lean, 'card_holds'). Laid BY PROGRAM, IN A SANDBOX (cutbox-door.mjs). By AI agents, Wed Nov 11 2026. No macro, syntax, notation, axiom, sorry.
-/
import Derived.Test.YtjkldmepdenlfaaDoorRows
import GoSem.ClaimSeven
namespace Go.Proofs.YtjkldmepdenlfaaDoor
namespace Rows

/-- THE TIED CARD OF 'trystlaw08.MiniNone'. -/
def miniNoneCard : Claim7 := { stood := { row := miniNoneRow, standIns := [], harness := (true, "2617c3a0e29a762fabc032dd64bac06877100fac560056c14fd993e5890b676f"), looks := false }, kinds := [], alts := [], laidByText := true, laidKinds := [.data, .data, .data], laidTests := true, laidLooks := .later }
def MiniNoneCardSaid : Prop := Claim7.holds Tryd.pinned (.plain (OpenSpec.ofChange miniNoneSpec)) miniNoneCard

/-- THE TIED CARD OF 'trystlaw08.MiniTurns'. -/
def miniTurnsCard : Claim7 := { stood := { row := miniTurnsRow, standIns := [], harness := (true, "2617c3a0e29a762fabc032dd64bac06877100fac560056c14fd993e5890b676f"), looks := false }, kinds := [], alts := [], laidByText := true, laidKinds := [.data, .data, .data], laidTests := true, laidLooks := .later }
def MiniTurnsCardSaid : Prop := Claim7.holds Tryd.pinned (.plain (OpenSpec.ofChange miniTurnsSpec)) miniTurnsCard

/-- THE TIED CARD OF 'trystlaw07.DfaMeets'. -/
def dfaMeetsCard : Claim7 := { stood := { row := dfaMeetsRow, standIns := [], harness := (true, "2617c3a0e29a762fabc032dd64bac06877100fac560056c14fd993e5890b676f"), looks := false }, kinds := [], alts := [], laidByText := true, laidKinds := [.data, .data, .pinned], laidTests := true, laidLooks := .later }
def DfaMeetsCardSaid : Prop := Claim7.holds Tryd.pinned (.plain (OpenSpec.ofChange dfaMeetsSpec)) dfaMeetsCard

/-- THE TIED CARD OF 'trystlaw07.DfaBounds'. -/
def dfaBoundsCard : Claim7 := { stood := { row := dfaBoundsRow, standIns := [], harness := (true, "2617c3a0e29a762fabc032dd64bac06877100fac560056c14fd993e5890b676f"), looks := false }, kinds := [], alts := [], laidByText := true, laidKinds := [.data, .data, .pinned], laidTests := true, laidLooks := .later }
def DfaBoundsCardSaid : Prop := Claim7.holds Tryd.pinned (.plain (OpenSpec.ofChange dfaBoundsSpec)) dfaBoundsCard

/-- THE TIED CARD OF 'trystlaw07.DfaTurns'. -/
def dfaTurnsCard : Claim7 := { stood := { row := dfaTurnsRow, standIns := [], harness := (true, "2617c3a0e29a762fabc032dd64bac06877100fac560056c14fd993e5890b676f"), looks := false }, kinds := [], alts := [], laidByText := true, laidKinds := [.data, .data, .pinned], laidTests := true, laidLooks := .later }
def DfaTurnsCardSaid : Prop := Claim7.holds Tryd.pinned (.plain (OpenSpec.ofChange dfaTurnsSpec)) dfaTurnsCard

/-- THE TIED CARD OF 'trystlaw07.DfaMore'. -/
def dfaMoreCard : Claim7 := { stood := { row := dfaMoreRow, standIns := [], harness := (true, "2617c3a0e29a762fabc032dd64bac06877100fac560056c14fd993e5890b676f"), looks := false }, kinds := [], alts := [], laidByText := true, laidKinds := [.data, .data, .pinned], laidTests := true, laidLooks := .later }
def DfaMoreCardSaid : Prop := Claim7.holds Tryd.pinned (.plain (OpenSpec.ofChange dfaMoreSpec)) dfaMoreCard

/-- THE TIED CARD OF 'trystlaw07.DfaOthers'. -/
def dfaOthersCard : Claim7 := { stood := { row := dfaOthersRow, standIns := [], harness := (true, "2617c3a0e29a762fabc032dd64bac06877100fac560056c14fd993e5890b676f"), looks := false }, kinds := [], alts := [], laidByText := true, laidKinds := [.data, .data, .pinned], laidTests := true, laidLooks := .later }
def DfaOthersCardSaid : Prop := Claim7.holds Tryd.pinned (.plain (OpenSpec.ofChange dfaOthersSpec)) dfaOthersCard

/-- THE SECOND FORM's CARD OF 'trystlaw08.MiniNone'. -/
def miniNoneUptoCard : Claim7 := { stood := { row := miniNoneUptoRow, standIns := [], harness := (true, "2617c3a0e29a762fabc032dd64bac06877100fac560056c14fd993e5890b676f"), looks := false }, kinds := [], alts := [], laidByText := true, laidKinds := [.data, .data, .data], laidTests := true, laidLooks := .later }
def MiniNoneUptoCardSaid : Prop := Claim7.holds Tryd.pinned (.plain (OpenSpec.upto miniNoneSpec)) miniNoneUptoCard

/-- THE SECOND FORM's CARD OF 'trystlaw08.MiniTurns'. -/
def miniTurnsUptoCard : Claim7 := { stood := { row := miniTurnsUptoRow, standIns := [], harness := (true, "2617c3a0e29a762fabc032dd64bac06877100fac560056c14fd993e5890b676f"), looks := false }, kinds := [], alts := [], laidByText := true, laidKinds := [.data, .data, .data], laidTests := true, laidLooks := .later }
def MiniTurnsUptoCardSaid : Prop := Claim7.holds Tryd.pinned (.plain (OpenSpec.upto miniTurnsSpec)) miniTurnsUptoCard

/-- THE SECOND FORM's CARD OF 'trystlaw07.DfaMeets'. -/
def dfaMeetsUptoCard : Claim7 := { stood := { row := dfaMeetsUptoRow, standIns := [], harness := (true, "2617c3a0e29a762fabc032dd64bac06877100fac560056c14fd993e5890b676f"), looks := false }, kinds := [], alts := [], laidByText := true, laidKinds := [.data, .data, .pinned], laidTests := true, laidLooks := .later }
def DfaMeetsUptoCardSaid : Prop := Claim7.holds Tryd.pinned (.plain (OpenSpec.upto dfaMeetsSpec)) dfaMeetsUptoCard

/-- THE SECOND FORM's CARD OF 'trystlaw07.DfaBounds'. -/
def dfaBoundsUptoCard : Claim7 := { stood := { row := dfaBoundsUptoRow, standIns := [], harness := (true, "2617c3a0e29a762fabc032dd64bac06877100fac560056c14fd993e5890b676f"), looks := false }, kinds := [], alts := [], laidByText := true, laidKinds := [.data, .data, .pinned], laidTests := true, laidLooks := .later }
def DfaBoundsUptoCardSaid : Prop := Claim7.holds Tryd.pinned (.plain (OpenSpec.upto dfaBoundsSpec)) dfaBoundsUptoCard

/-- THE SECOND FORM's CARD OF 'trystlaw07.DfaTurns'. -/
def dfaTurnsUptoCard : Claim7 := { stood := { row := dfaTurnsUptoRow, standIns := [], harness := (true, "2617c3a0e29a762fabc032dd64bac06877100fac560056c14fd993e5890b676f"), looks := false }, kinds := [], alts := [], laidByText := true, laidKinds := [.data, .data, .pinned], laidTests := true, laidLooks := .later }
def DfaTurnsUptoCardSaid : Prop := Claim7.holds Tryd.pinned (.plain (OpenSpec.upto dfaTurnsSpec)) dfaTurnsUptoCard

/-- THE SECOND FORM's CARD OF 'trystlaw07.DfaMore'. -/
def dfaMoreUptoCard : Claim7 := { stood := { row := dfaMoreUptoRow, standIns := [], harness := (true, "2617c3a0e29a762fabc032dd64bac06877100fac560056c14fd993e5890b676f"), looks := false }, kinds := [], alts := [], laidByText := true, laidKinds := [.data, .data, .pinned], laidTests := true, laidLooks := .later }
def DfaMoreUptoCardSaid : Prop := Claim7.holds Tryd.pinned (.plain (OpenSpec.upto dfaMoreSpec)) dfaMoreUptoCard

/-- THE SECOND FORM's CARD OF 'trystlaw07.DfaOthers'. -/
def dfaOthersUptoCard : Claim7 := { stood := { row := dfaOthersUptoRow, standIns := [], harness := (true, "2617c3a0e29a762fabc032dd64bac06877100fac560056c14fd993e5890b676f"), looks := false }, kinds := [], alts := [], laidByText := true, laidKinds := [.data, .data, .pinned], laidTests := true, laidLooks := .later }
def DfaOthersUptoCardSaid : Prop := Claim7.holds Tryd.pinned (.plain (OpenSpec.upto dfaOthersSpec)) dfaOthersUptoCard
end Rows
end Go.Proofs.YtjkldmepdenlfaaDoor
