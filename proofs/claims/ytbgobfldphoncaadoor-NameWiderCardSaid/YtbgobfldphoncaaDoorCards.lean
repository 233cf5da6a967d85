/-
  DERIVED. GIVEN WITH THE SEED: THE CARDS: each row of YtbgobfldphoncaaDoorRows.lean that lists a variable, with what it lists TIED to the program's text (the seventh form; the later family's looks); each row that meets fmt, with fmt's text TOLD by the authors' own Lean function (tested against real Go, not proved from fmt's source: count such statements apart). THE CARD IS WHAT COUNTS. Prove the row's statement (the work); the ties are given (YtbgobfldphoncaaDoorTie.lean); close each card by the builder's one call (the guide's Derived/Test/ToyasCard.lean, 'card_holds'). Laid BY PROGRAM, IN A SANDBOX (cutbox-door.mjs). By AI agents, Wed Nov 11 2026. No macro, syntax, notation, axiom, sorry.
-/
import Derived.Test.YtbgobfldphoncaaDoorRows
import GoSem.ClaimSeven
namespace Go.Proofs.YtbgobfldphoncaaDoor
namespace Rows

/-- THE TIED CARD OF 'trystlaw02.NameDeep'. -/
def nameDeepCard : Claim7 := { stood := { row := nameDeepRow, standIns := [], harness := (true, "167b047b2cf5c756891e9413565ce4147ce5e627875cb31dd14df3e05e8edd32"), looks := false }, kinds := [], alts := [], laidByText := true, laidKinds := [.data, .pinned], laidTests := true, laidLooks := .later }
def NameDeepCardSaid : Prop := Claim7.holds Tryd.pinned (.plain (OpenSpec.ofChange nameDeepSpec)) nameDeepCard

/-- THE TIED CARD OF 'trystlaw02.NameSelf'. -/
def nameSelfCard : Claim7 := { stood := { row := nameSelfRow, standIns := [], harness := (true, "167b047b2cf5c756891e9413565ce4147ce5e627875cb31dd14df3e05e8edd32"), looks := false }, kinds := [], alts := [], laidByText := true, laidKinds := [.data, .pinned], laidTests := true, laidLooks := .later }
def NameSelfCardSaid : Prop := Claim7.holds Tryd.pinned (.plain (OpenSpec.ofChange nameSelfSpec)) nameSelfCard

/-- THE TIED CARD OF 'trystlaw02.NameWider'. -/
def nameWiderCard : Claim7 := { stood := { row := nameWiderRow, standIns := [], harness := (true, "167b047b2cf5c756891e9413565ce4147ce5e627875cb31dd14df3e05e8edd32"), looks := false }, kinds := [], alts := [], laidByText := true, laidKinds := [.data, .pinned], laidTests := true, laidLooks := .later }
def NameWiderCardSaid : Prop := Claim7.holds Tryd.pinned (.plain (OpenSpec.ofChange nameWiderSpec)) nameWiderCard

/-- THE TIED CARD OF 'trystlaw02.NameParts'. -/
def namePartsCard : Claim7 := { stood := { row := namePartsRow, standIns := [], harness := (true, "167b047b2cf5c756891e9413565ce4147ce5e627875cb31dd14df3e05e8edd32"), looks := false }, kinds := [], alts := [], laidByText := true, laidKinds := [.data, .pinned], laidTests := true, laidLooks := .later }
def NamePartsCardSaid : Prop := Claim7.holds Tryd.pinned (.plain (OpenSpec.ofChange namePartsSpec)) namePartsCard

/-- THE TIED CARD OF 'trystlaw02.NameLong'. -/
def nameLongCard : Claim7 := { stood := { row := nameLongRow, standIns := [], harness := (true, "167b047b2cf5c756891e9413565ce4147ce5e627875cb31dd14df3e05e8edd32"), looks := false }, kinds := [], alts := [], laidByText := true, laidKinds := [.data, .pinned], laidTests := true, laidLooks := .later }
def NameLongCardSaid : Prop := Claim7.holds Tryd.pinned (.plain (OpenSpec.ofChange nameLongSpec)) nameLongCard

/-- THE TIED CARD OF 'trystlaw02.NameMeets'. -/
def nameMeetsCard : Claim7 := { stood := { row := nameMeetsRow, standIns := [], harness := (true, "167b047b2cf5c756891e9413565ce4147ce5e627875cb31dd14df3e05e8edd32"), looks := false }, kinds := [], alts := [], laidByText := true, laidKinds := [.data, .pinned], laidTests := true, laidLooks := .later }
def NameMeetsCardSaid : Prop := Claim7.holds Tryd.pinned (.plain (OpenSpec.ofChange nameMeetsSpec)) nameMeetsCard

/-- THE TIED CARD OF 'trystlaw02.NameOrders'. -/
def nameOrdersCard : Claim7 := { stood := { row := nameOrdersRow, standIns := [], harness := (true, "167b047b2cf5c756891e9413565ce4147ce5e627875cb31dd14df3e05e8edd32"), looks := false }, kinds := [], alts := [], laidByText := true, laidKinds := [.data, .pinned], laidTests := true, laidLooks := .later }
def NameOrdersCardSaid : Prop := Claim7.holds Tryd.pinned (.plain (OpenSpec.ofChange nameOrdersSpec)) nameOrdersCard

/-- THE SECOND FORM's CARD OF 'trystlaw02.NameDeep'. -/
def nameDeepUptoCard : Claim7 := { stood := { row := nameDeepUptoRow, standIns := [], harness := (true, "167b047b2cf5c756891e9413565ce4147ce5e627875cb31dd14df3e05e8edd32"), looks := false }, kinds := [], alts := [], laidByText := true, laidKinds := [.data, .pinned], laidTests := true, laidLooks := .later }
def NameDeepUptoCardSaid : Prop := Claim7.holds Tryd.pinned (.plain (OpenSpec.upto nameDeepSpec)) nameDeepUptoCard

/-- THE SECOND FORM's CARD OF 'trystlaw02.NameSelf'. -/
def nameSelfUptoCard : Claim7 := { stood := { row := nameSelfUptoRow, standIns := [], harness := (true, "167b047b2cf5c756891e9413565ce4147ce5e627875cb31dd14df3e05e8edd32"), looks := false }, kinds := [], alts := [], laidByText := true, laidKinds := [.data, .pinned], laidTests := true, laidLooks := .later }
def NameSelfUptoCardSaid : Prop := Claim7.holds Tryd.pinned (.plain (OpenSpec.upto nameSelfSpec)) nameSelfUptoCard

/-- THE SECOND FORM's CARD OF 'trystlaw02.NameWider'. -/
def nameWiderUptoCard : Claim7 := { stood := { row := nameWiderUptoRow, standIns := [], harness := (true, "167b047b2cf5c756891e9413565ce4147ce5e627875cb31dd14df3e05e8edd32"), looks := false }, kinds := [], alts := [], laidByText := true, laidKinds := [.data, .pinned], laidTests := true, laidLooks := .later }
def NameWiderUptoCardSaid : Prop := Claim7.holds Tryd.pinned (.plain (OpenSpec.upto nameWiderSpec)) nameWiderUptoCard

/-- THE SECOND FORM's CARD OF 'trystlaw02.NameParts'. -/
def namePartsUptoCard : Claim7 := { stood := { row := namePartsUptoRow, standIns := [], harness := (true, "167b047b2cf5c756891e9413565ce4147ce5e627875cb31dd14df3e05e8edd32"), looks := false }, kinds := [], alts := [], laidByText := true, laidKinds := [.data, .pinned], laidTests := true, laidLooks := .later }
def NamePartsUptoCardSaid : Prop := Claim7.holds Tryd.pinned (.plain (OpenSpec.upto namePartsSpec)) namePartsUptoCard

/-- THE SECOND FORM's CARD OF 'trystlaw02.NameLong'. -/
def nameLongUptoCard : Claim7 := { stood := { row := nameLongUptoRow, standIns := [], harness := (true, "167b047b2cf5c756891e9413565ce4147ce5e627875cb31dd14df3e05e8edd32"), looks := false }, kinds := [], alts := [], laidByText := true, laidKinds := [.data, .pinned], laidTests := true, laidLooks := .later }
def NameLongUptoCardSaid : Prop := Claim7.holds Tryd.pinned (.plain (OpenSpec.upto nameLongSpec)) nameLongUptoCard

/-- THE SECOND FORM's CARD OF 'trystlaw02.NameMeets'. -/
def nameMeetsUptoCard : Claim7 := { stood := { row := nameMeetsUptoRow, standIns := [], harness := (true, "167b047b2cf5c756891e9413565ce4147ce5e627875cb31dd14df3e05e8edd32"), looks := false }, kinds := [], alts := [], laidByText := true, laidKinds := [.data, .pinned], laidTests := true, laidLooks := .later }
def NameMeetsUptoCardSaid : Prop := Claim7.holds Tryd.pinned (.plain (OpenSpec.upto nameMeetsSpec)) nameMeetsUptoCard

/-- THE SECOND FORM's CARD OF 'trystlaw02.NameOrders'. -/
def nameOrdersUptoCard : Claim7 := { stood := { row := nameOrdersUptoRow, standIns := [], harness := (true, "167b047b2cf5c756891e9413565ce4147ce5e627875cb31dd14df3e05e8edd32"), looks := false }, kinds := [], alts := [], laidByText := true, laidKinds := [.data, .pinned], laidTests := true, laidLooks := .later }
def NameOrdersUptoCardSaid : Prop := Claim7.holds Tryd.pinned (.plain (OpenSpec.upto nameOrdersSpec)) nameOrdersUptoCard
end Rows
end Go.Proofs.YtbgobfldphoncaaDoor
