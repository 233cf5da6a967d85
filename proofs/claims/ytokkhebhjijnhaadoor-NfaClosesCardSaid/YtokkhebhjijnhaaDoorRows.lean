/-
  NARROWER THAN 'FOR EVERY INPUT', by the rows' own cells (each row's printed sentence says how): NfaBuilds: laid · NfaSteps: laid · NfaMeets: laid · NfaCloses: laid · NfaMore: laid · NfaWalks: laid.
  DERIVED. THE GIVEN ROWS OF THIS SEAT. 6 by the template 'for every input the law returns true; each argument reads behind the call as it read before'; 0 by the template 'total and deterministic' (their statements: YtokkhebhjijnhaaDoorTotals.lean).
  GIVEN WITH THE SEED: the statements are not yours to turn. If you find one false, say at which input.
  Laid BY PROGRAM, IN A SANDBOX (cutbox-rows.mjs): the forced cells as the released guide's own fill.sh prints them over the translation 3e143eb4c6c9dbc3… (all of the seat's roots in one cut). By AI agents, Wed Nov 11 2026. No macro, syntax, notation, axiom, sorry.
-/
import Derived.Test.YtokkhebhjijnhaaDoorChecked
import GoSem.PinnedTables
import GoSem.Claim
import GoSem.ClaimJoined
import GoSem.ClaimMapViews
import Derived.JoinedTies
import Derived.KernelRfl
namespace Go.Proofs.YtokkhebhjijnhaaDoor
/- THE CELL 'sum', in the pinned program and in every row, IS THE sha256 OF THE DUMP (.gsa) THAT YtokkhebhjijnhaaDoorProg.lean LOADS. Nothing in Lean hashes anything: it is a label: what it is worth is what the hold of that sum in a sandbox is worth. -/
noncomputable def Tryd.pinned : Pinned := { name := "ytokkhebhjijnhaadoor", sum := "3e143eb4c6c9dbc38546e5aeb3a1bd838eabf31b5d70e8718565d12b40f3ee96", checked := Tryd.checked }
namespace Rows
def none {H : Type} : Left H := { results := [], args := [] }

/- WHAT THE LISTED PACKAGE-LEVEL VARIABLES READ AS WHEN THE CALL BEGINS. Each datum BY PROGRAM (the guide's laid-datum.mjs) off the statement by which the dump's own 'gosem.cut.vars' lays the variable. In a bare row this is a premise. The card (YtokkhebhjijnhaaDoorCards.lean) ties it to the program's text. -/
def laid_unicode_utf8_acceptRanges {H : Type} : DataW H := .agg [.agg [.lit (.int .u8 128), .lit (.int .u8 191)], .agg [.lit (.int .u8 160), .lit (.int .u8 191)], .agg [.lit (.int .u8 128), .lit (.int .u8 159)], .agg [.lit (.int .u8 144), .lit (.int .u8 191)], .agg [.lit (.int .u8 128), .lit (.int .u8 143)], .agg [.lit (.int .u8 0), .lit (.int .u8 0)], .agg [.lit (.int .u8 0), .lit (.int .u8 0)], .agg [.lit (.int .u8 0), .lit (.int .u8 0)], .agg [.lit (.int .u8 0), .lit (.int .u8 0)], .agg [.lit (.int .u8 0), .lit (.int .u8 0)], .agg [.lit (.int .u8 0), .lit (.int .u8 0)], .agg [.lit (.int .u8 0), .lit (.int .u8 0)], .agg [.lit (.int .u8 0), .lit (.int .u8 0)], .agg [.lit (.int .u8 0), .lit (.int .u8 0)], .agg [.lit (.int .u8 0), .lit (.int .u8 0)], .agg [.lit (.int .u8 0), .lit (.int .u8 0)]]
/-- One of Go's own tables, pinned by name: the form's constant. -/
def laid_unicode_utf8_first : DataW Unit := Go.Pinned.utf8First

/-- 'trystlaw06.NfaBuilds': WHATEVER THE INPUT: true; the input reads as it did. -/
def nfaBuildsSpec : ChangeSpec := { name := "nfaBuilds", fn := fun _ => fun
  | [d1, d2] => { results := [.lit (.bool true)], args := [d1, d2] }
  | _ => none }
def nfaBuildsRow : OpenClaim := { program := "ytokkhebhjijnhaadoor", sum := "3e143eb4c6c9dbc38546e5aeb3a1bd838eabf31b5d70e8718565d12b40f3ee96", func := "tryst/trystlaw06.NfaBuilds", spec := "nfaBuilds", inPlace := ["internal/bytealg.IndexByteString", "internal/bytealg.IndexString", "internal/bytealg.CountString"], unfollowed := true, recurses := true, named := ["internal/bytealg.MaxLen", "unicode/utf8.first", "unicode/utf8.acceptRanges"], apart := false, laid := [("unicode/utf8.acceptRanges", laid_unicode_utf8_acceptRanges), ("unicode/utf8.first", laid_unicode_utf8_first)] }
def NfaBuildsSaid : Prop := nfaBuildsRow.holds Tryd.pinned (OpenSpec.ofChange nfaBuildsSpec)

/-- ITS FALSE NEIGHBOUR: 'it returns false'. Refute it at one input. -/
def nfaBuildsWrong : ChangeSpec := { name := "nfaBuilds", fn := fun _ => fun
  | [d1, d2] => { results := [.lit (.bool false)], args := [d1, d2] }
  | _ => none }
def NfaBuildsWrongFalsely : Prop := nfaBuildsRow.holds Tryd.pinned (OpenSpec.ofChange nfaBuildsWrong)

/-- 'trystlaw06.NfaSteps': WHATEVER THE INPUT: true; the input reads as it did. -/
def nfaStepsSpec : ChangeSpec := { name := "nfaSteps", fn := fun _ => fun
  | [d1, d2, d3] => { results := [.lit (.bool true)], args := [d1, d2, d3] }
  | _ => none }
def nfaStepsRow : OpenClaim := { program := "ytokkhebhjijnhaadoor", sum := "3e143eb4c6c9dbc38546e5aeb3a1bd838eabf31b5d70e8718565d12b40f3ee96", func := "tryst/trystlaw06.NfaSteps", spec := "nfaSteps", inPlace := ["internal/bytealg.IndexByteString", "internal/bytealg.IndexString", "internal/bytealg.CountString"], unfollowed := true, recurses := true, named := ["internal/bytealg.MaxLen", "unicode/utf8.first", "unicode/utf8.acceptRanges"], apart := false, laid := [("unicode/utf8.acceptRanges", laid_unicode_utf8_acceptRanges), ("unicode/utf8.first", laid_unicode_utf8_first)] }
def NfaStepsSaid : Prop := nfaStepsRow.holds Tryd.pinned (OpenSpec.ofChange nfaStepsSpec)

/-- ITS FALSE NEIGHBOUR: 'it returns false'. Refute it at one input. -/
def nfaStepsWrong : ChangeSpec := { name := "nfaSteps", fn := fun _ => fun
  | [d1, d2, d3] => { results := [.lit (.bool false)], args := [d1, d2, d3] }
  | _ => none }
def NfaStepsWrongFalsely : Prop := nfaStepsRow.holds Tryd.pinned (OpenSpec.ofChange nfaStepsWrong)

/-- 'trystlaw06.NfaMeets': WHATEVER THE INPUT: true; the input reads as it did. -/
def nfaMeetsSpec : ChangeSpec := { name := "nfaMeets", fn := fun _ => fun
  | [d1, d2] => { results := [.lit (.bool true)], args := [d1, d2] }
  | _ => none }
def nfaMeetsRow : OpenClaim := { program := "ytokkhebhjijnhaadoor", sum := "3e143eb4c6c9dbc38546e5aeb3a1bd838eabf31b5d70e8718565d12b40f3ee96", func := "tryst/trystlaw06.NfaMeets", spec := "nfaMeets", inPlace := ["internal/bytealg.IndexByteString", "internal/bytealg.IndexString", "internal/bytealg.CountString"], unfollowed := true, recurses := true, named := ["internal/bytealg.MaxLen", "unicode/utf8.first", "unicode/utf8.acceptRanges"], apart := false, laid := [("unicode/utf8.acceptRanges", laid_unicode_utf8_acceptRanges), ("unicode/utf8.first", laid_unicode_utf8_first)] }
def NfaMeetsSaid : Prop := nfaMeetsRow.holds Tryd.pinned (OpenSpec.ofChange nfaMeetsSpec)

/-- ITS FALSE NEIGHBOUR: 'it returns false'. Refute it at one input. -/
def nfaMeetsWrong : ChangeSpec := { name := "nfaMeets", fn := fun _ => fun
  | [d1, d2] => { results := [.lit (.bool false)], args := [d1, d2] }
  | _ => none }
def NfaMeetsWrongFalsely : Prop := nfaMeetsRow.holds Tryd.pinned (OpenSpec.ofChange nfaMeetsWrong)

/-- 'trystlaw06.NfaCloses': WHATEVER THE INPUT: true; the input reads as it did. -/
def nfaClosesSpec : ChangeSpec := { name := "nfaCloses", fn := fun _ => fun
  | [d1, d2, d3] => { results := [.lit (.bool true)], args := [d1, d2, d3] }
  | _ => none }
def nfaClosesRow : OpenClaim := { program := "ytokkhebhjijnhaadoor", sum := "3e143eb4c6c9dbc38546e5aeb3a1bd838eabf31b5d70e8718565d12b40f3ee96", func := "tryst/trystlaw06.NfaCloses", spec := "nfaCloses", inPlace := ["internal/bytealg.IndexByteString", "internal/bytealg.IndexString", "internal/bytealg.CountString"], unfollowed := true, recurses := true, named := ["internal/bytealg.MaxLen", "unicode/utf8.first", "unicode/utf8.acceptRanges"], apart := false, laid := [("unicode/utf8.acceptRanges", laid_unicode_utf8_acceptRanges), ("unicode/utf8.first", laid_unicode_utf8_first)] }
def NfaClosesSaid : Prop := nfaClosesRow.holds Tryd.pinned (OpenSpec.ofChange nfaClosesSpec)

/-- ITS FALSE NEIGHBOUR: 'it returns false'. Refute it at one input. -/
def nfaClosesWrong : ChangeSpec := { name := "nfaCloses", fn := fun _ => fun
  | [d1, d2, d3] => { results := [.lit (.bool false)], args := [d1, d2, d3] }
  | _ => none }
def NfaClosesWrongFalsely : Prop := nfaClosesRow.holds Tryd.pinned (OpenSpec.ofChange nfaClosesWrong)

/-- 'trystlaw06.NfaMore': WHATEVER THE INPUT: true; the input reads as it did. -/
def nfaMoreSpec : ChangeSpec := { name := "nfaMore", fn := fun _ => fun
  | [d1, d2, d3] => { results := [.lit (.bool true)], args := [d1, d2, d3] }
  | _ => none }
def nfaMoreRow : OpenClaim := { program := "ytokkhebhjijnhaadoor", sum := "3e143eb4c6c9dbc38546e5aeb3a1bd838eabf31b5d70e8718565d12b40f3ee96", func := "tryst/trystlaw06.NfaMore", spec := "nfaMore", inPlace := ["internal/bytealg.IndexByteString", "internal/bytealg.IndexString", "internal/bytealg.CountString"], unfollowed := true, recurses := true, named := ["internal/bytealg.MaxLen", "unicode/utf8.first", "unicode/utf8.acceptRanges"], apart := false, laid := [("unicode/utf8.acceptRanges", laid_unicode_utf8_acceptRanges), ("unicode/utf8.first", laid_unicode_utf8_first)] }
def NfaMoreSaid : Prop := nfaMoreRow.holds Tryd.pinned (OpenSpec.ofChange nfaMoreSpec)

/-- ITS FALSE NEIGHBOUR: 'it returns false'. Refute it at one input. -/
def nfaMoreWrong : ChangeSpec := { name := "nfaMore", fn := fun _ => fun
  | [d1, d2, d3] => { results := [.lit (.bool false)], args := [d1, d2, d3] }
  | _ => none }
def NfaMoreWrongFalsely : Prop := nfaMoreRow.holds Tryd.pinned (OpenSpec.ofChange nfaMoreWrong)

/-- 'trystlaw06.NfaWalks': WHATEVER THE INPUT: true; the input reads as it did. -/
def nfaWalksSpec : ChangeSpec := { name := "nfaWalks", fn := fun _ => fun
  | [d1, d2] => { results := [.lit (.bool true)], args := [d1, d2] }
  | _ => none }
def nfaWalksRow : OpenClaim := { program := "ytokkhebhjijnhaadoor", sum := "3e143eb4c6c9dbc38546e5aeb3a1bd838eabf31b5d70e8718565d12b40f3ee96", func := "tryst/trystlaw06.NfaWalks", spec := "nfaWalks", inPlace := ["internal/bytealg.IndexByteString", "internal/bytealg.IndexString", "internal/bytealg.CountString"], unfollowed := true, recurses := true, named := ["internal/bytealg.MaxLen", "unicode/utf8.first", "unicode/utf8.acceptRanges"], apart := false, laid := [("unicode/utf8.acceptRanges", laid_unicode_utf8_acceptRanges), ("unicode/utf8.first", laid_unicode_utf8_first)] }
def NfaWalksSaid : Prop := nfaWalksRow.holds Tryd.pinned (OpenSpec.ofChange nfaWalksSpec)

/-- ITS FALSE NEIGHBOUR: 'it returns false'. Refute it at one input. -/
def nfaWalksWrong : ChangeSpec := { name := "nfaWalks", fn := fun _ => fun
  | [d1, d2] => { results := [.lit (.bool false)], args := [d1, d2] }
  | _ => none }
def NfaWalksWrongFalsely : Prop := nfaWalksRow.holds Tryd.pinned (OpenSpec.ofChange nfaWalksWrong)

/- THE SECOND FORM. 'bulk': how many values and letters a reading holds, each counted each time it is reached (what is shared counts as often as it is met; a slice's spare places count too). A statement '..UptoSaid' is the law's where the arguments, and the package variables that the reading takes, are together of bulk at most 1048576: NARROWER than '..Said'. Prove '..Said' where nothing that the law and all that it calls make is longer than what came in: it says more and counts as full. Else prove '..UptoSaid'. A law counts once. -/
mutual
def uptoBulk {H : Type} : DataW H → Nat
  | .lit (.string bytes) => bytes.length + 1
  | .lit _ => 1
  | .nil => 1
  | .ptr d => uptoBulk d + 1
  | .slice elems spare => uptoBulkAll elems + uptoBulkAll spare + 1
  | .agg parts => uptoBulkAll parts + 1
  | .iface _ d => uptoBulk d + 1
  | .map entries => uptoBulkEntries entries + 1
  | .held _ => 1
def uptoBulkAll {H : Type} : List (DataW H) → Nat
  | [] => 0
  | d :: r => uptoBulk d + uptoBulkAll r
def uptoBulkEntries {H : Type} : List (Lit × DataW H) → Nat
  | [] => 0
  | x :: r => uptoBulkEntry x + uptoBulkEntries r
def uptoBulkEntry {H : Type} : Lit × DataW H → Nat
  | (.string bytes, d) => bytes.length + uptoBulk d + 1
  | (_, d) => uptoBulk d + 1
 end
def uptoSmall : (H : Type) → List (DataW H) → Bool := fun _ ds => decide (uptoBulkAll ds ≤ 1048576)
def OpenSpec.upto (s : _root_.Go.ChangeSpec) : _root_.Go.OpenSpec := { _root_.Go.OpenSpec.ofChange s with cond := some uptoSmall }

/-- 'trystlaw06.NfaBuilds', WHERE WHAT IT READS IS OF BULK AT MOST 1048576: true; the input reads as it did. -/
def nfaBuildsUptoRow : OpenClaim := { program := "ytokkhebhjijnhaadoor", sum := "3e143eb4c6c9dbc38546e5aeb3a1bd838eabf31b5d70e8718565d12b40f3ee96", func := "tryst/trystlaw06.NfaBuilds", spec := "nfaBuilds", inPlace := ["internal/bytealg.IndexByteString", "internal/bytealg.IndexString", "internal/bytealg.CountString"], unfollowed := true, recurses := true, named := ["internal/bytealg.MaxLen", "unicode/utf8.first", "unicode/utf8.acceptRanges"], apart := false, laid := [("unicode/utf8.acceptRanges", laid_unicode_utf8_acceptRanges), ("unicode/utf8.first", laid_unicode_utf8_first)], narrowed := true }
def NfaBuildsUptoSaid : Prop := nfaBuildsUptoRow.holds Tryd.pinned (OpenSpec.upto nfaBuildsSpec)

/-- 'trystlaw06.NfaSteps', WHERE WHAT IT READS IS OF BULK AT MOST 1048576: true; the input reads as it did. -/
def nfaStepsUptoRow : OpenClaim := { program := "ytokkhebhjijnhaadoor", sum := "3e143eb4c6c9dbc38546e5aeb3a1bd838eabf31b5d70e8718565d12b40f3ee96", func := "tryst/trystlaw06.NfaSteps", spec := "nfaSteps", inPlace := ["internal/bytealg.IndexByteString", "internal/bytealg.IndexString", "internal/bytealg.CountString"], unfollowed := true, recurses := true, named := ["internal/bytealg.MaxLen", "unicode/utf8.first", "unicode/utf8.acceptRanges"], apart := false, laid := [("unicode/utf8.acceptRanges", laid_unicode_utf8_acceptRanges), ("unicode/utf8.first", laid_unicode_utf8_first)], narrowed := true }
def NfaStepsUptoSaid : Prop := nfaStepsUptoRow.holds Tryd.pinned (OpenSpec.upto nfaStepsSpec)

/-- 'trystlaw06.NfaMeets', WHERE WHAT IT READS IS OF BULK AT MOST 1048576: true; the input reads as it did. -/
def nfaMeetsUptoRow : OpenClaim := { program := "ytokkhebhjijnhaadoor", sum := "3e143eb4c6c9dbc38546e5aeb3a1bd838eabf31b5d70e8718565d12b40f3ee96", func := "tryst/trystlaw06.NfaMeets", spec := "nfaMeets", inPlace := ["internal/bytealg.IndexByteString", "internal/bytealg.IndexString", "internal/bytealg.CountString"], unfollowed := true, recurses := true, named := ["internal/bytealg.MaxLen", "unicode/utf8.first", "unicode/utf8.acceptRanges"], apart := false, laid := [("unicode/utf8.acceptRanges", laid_unicode_utf8_acceptRanges), ("unicode/utf8.first", laid_unicode_utf8_first)], narrowed := true }
def NfaMeetsUptoSaid : Prop := nfaMeetsUptoRow.holds Tryd.pinned (OpenSpec.upto nfaMeetsSpec)

/-- 'trystlaw06.NfaCloses', WHERE WHAT IT READS IS OF BULK AT MOST 1048576: true; the input reads as it did. -/
def nfaClosesUptoRow : OpenClaim := { program := "ytokkhebhjijnhaadoor", sum := "3e143eb4c6c9dbc38546e5aeb3a1bd838eabf31b5d70e8718565d12b40f3ee96", func := "tryst/trystlaw06.NfaCloses", spec := "nfaCloses", inPlace := ["internal/bytealg.IndexByteString", "internal/bytealg.IndexString", "internal/bytealg.CountString"], unfollowed := true, recurses := true, named := ["internal/bytealg.MaxLen", "unicode/utf8.first", "unicode/utf8.acceptRanges"], apart := false, laid := [("unicode/utf8.acceptRanges", laid_unicode_utf8_acceptRanges), ("unicode/utf8.first", laid_unicode_utf8_first)], narrowed := true }
def NfaClosesUptoSaid : Prop := nfaClosesUptoRow.holds Tryd.pinned (OpenSpec.upto nfaClosesSpec)

/-- 'trystlaw06.NfaMore', WHERE WHAT IT READS IS OF BULK AT MOST 1048576: true; the input reads as it did. -/
def nfaMoreUptoRow : OpenClaim := { program := "ytokkhebhjijnhaadoor", sum := "3e143eb4c6c9dbc38546e5aeb3a1bd838eabf31b5d70e8718565d12b40f3ee96", func := "tryst/trystlaw06.NfaMore", spec := "nfaMore", inPlace := ["internal/bytealg.IndexByteString", "internal/bytealg.IndexString", "internal/bytealg.CountString"], unfollowed := true, recurses := true, named := ["internal/bytealg.MaxLen", "unicode/utf8.first", "unicode/utf8.acceptRanges"], apart := false, laid := [("unicode/utf8.acceptRanges", laid_unicode_utf8_acceptRanges), ("unicode/utf8.first", laid_unicode_utf8_first)], narrowed := true }
def NfaMoreUptoSaid : Prop := nfaMoreUptoRow.holds Tryd.pinned (OpenSpec.upto nfaMoreSpec)

/-- 'trystlaw06.NfaWalks', WHERE WHAT IT READS IS OF BULK AT MOST 1048576: true; the input reads as it did. -/
def nfaWalksUptoRow : OpenClaim := { program := "ytokkhebhjijnhaadoor", sum := "3e143eb4c6c9dbc38546e5aeb3a1bd838eabf31b5d70e8718565d12b40f3ee96", func := "tryst/trystlaw06.NfaWalks", spec := "nfaWalks", inPlace := ["internal/bytealg.IndexByteString", "internal/bytealg.IndexString", "internal/bytealg.CountString"], unfollowed := true, recurses := true, named := ["internal/bytealg.MaxLen", "unicode/utf8.first", "unicode/utf8.acceptRanges"], apart := false, laid := [("unicode/utf8.acceptRanges", laid_unicode_utf8_acceptRanges), ("unicode/utf8.first", laid_unicode_utf8_first)], narrowed := true }
def NfaWalksUptoSaid : Prop := nfaWalksUptoRow.holds Tryd.pinned (OpenSpec.upto nfaWalksSpec)

end Rows
end Go.Proofs.YtokkhebhjijnhaaDoor
