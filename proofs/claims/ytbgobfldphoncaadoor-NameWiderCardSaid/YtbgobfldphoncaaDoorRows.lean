/-
  NARROWER THAN 'FOR EVERY INPUT', by the rows' own cells (each row's printed sentence says how): NameDeep: laid · NameSelf: laid · NameWider: laid · NameParts: laid · NameLong: laid · NameMeets: laid · NameOrders: laid.
  DERIVED. THE GIVEN ROWS OF THIS SEAT. 7 by the template 'for every input the law returns true; each argument reads behind the call as it read before'; 0 by the template 'total and deterministic' (their statements: YtbgobfldphoncaaDoorTotals.lean).
  GIVEN WITH THE SEED: the statements are not yours to turn. If you find one false, say at which input.
  Laid BY PROGRAM, IN A SANDBOX (cutbox-rows.mjs): the forced cells as the released guide's own fill.sh prints them over the translation 73e4c552c0d77d7f… (all of the seat's roots in one cut). By AI agents, Wed Nov 11 2026. No macro, syntax, notation, axiom, sorry.
-/
import Derived.Test.YtbgobfldphoncaaDoorChecked
import GoSem.PinnedTables
import GoSem.Claim
import GoSem.ClaimJoined
import GoSem.ClaimMapViews
import Derived.JoinedTies
import Derived.KernelRfl
namespace Go.Proofs.YtbgobfldphoncaaDoor
/- THE CELL 'sum', in the pinned program and in every row, IS THE sha256 OF THE DUMP (.gsa) THAT YtbgobfldphoncaaDoorProg.lean LOADS. Nothing in Lean hashes anything: it is a label: what it is worth is what the hold of that sum in a sandbox is worth. -/
noncomputable def Tryd.pinned : Pinned := { name := "ytbgobfldphoncaadoor", sum := "73e4c552c0d77d7f9d81afa1ba1c6826084bf24ee6a3a9d93d4227510433141a", checked := Tryd.checked }
namespace Rows
def none {H : Type} : Left H := { results := [], args := [] }

/- WHAT THE LISTED PACKAGE-LEVEL VARIABLES READ AS WHEN THE CALL BEGINS. Each datum BY PROGRAM (the guide's laid-datum.mjs) off the statement by which the dump's own 'gosem.cut.vars' lays the variable. In a bare row this is a premise. The card (YtbgobfldphoncaaDoorCards.lean) ties it to the program's text. -/
def laid_unicode_utf8_acceptRanges {H : Type} : DataW H := .agg [.agg [.lit (.int .u8 128), .lit (.int .u8 191)], .agg [.lit (.int .u8 160), .lit (.int .u8 191)], .agg [.lit (.int .u8 128), .lit (.int .u8 159)], .agg [.lit (.int .u8 144), .lit (.int .u8 191)], .agg [.lit (.int .u8 128), .lit (.int .u8 143)], .agg [.lit (.int .u8 0), .lit (.int .u8 0)], .agg [.lit (.int .u8 0), .lit (.int .u8 0)], .agg [.lit (.int .u8 0), .lit (.int .u8 0)], .agg [.lit (.int .u8 0), .lit (.int .u8 0)], .agg [.lit (.int .u8 0), .lit (.int .u8 0)], .agg [.lit (.int .u8 0), .lit (.int .u8 0)], .agg [.lit (.int .u8 0), .lit (.int .u8 0)], .agg [.lit (.int .u8 0), .lit (.int .u8 0)], .agg [.lit (.int .u8 0), .lit (.int .u8 0)], .agg [.lit (.int .u8 0), .lit (.int .u8 0)], .agg [.lit (.int .u8 0), .lit (.int .u8 0)]]
/-- One of Go's own tables, pinned by name: the form's constant. -/
def laid_unicode_utf8_first : DataW Unit := Go.Pinned.utf8First

/-- 'trystlaw02.NameDeep': WHATEVER THE INPUT: true; the input reads as it did. -/
def nameDeepSpec : ChangeSpec := { name := "nameDeep", fn := fun _ => fun
  | [d1, d2, d3] => { results := [.lit (.bool true)], args := [d1, d2, d3] }
  | _ => none }
def nameDeepRow : OpenClaim := { program := "ytbgobfldphoncaadoor", sum := "73e4c552c0d77d7f9d81afa1ba1c6826084bf24ee6a3a9d93d4227510433141a", func := "tryst/trystlaw02.NameDeep", spec := "nameDeep", inPlace := ["internal/bytealg.IndexByteString", "internal/bytealg.IndexString", "internal/bytealg.CountString"], unfollowed := true, recurses := true, named := ["internal/bytealg.MaxLen", "unicode/utf8.first", "unicode/utf8.acceptRanges"], plainKeys := false, apart := false, laid := [("unicode/utf8.acceptRanges", laid_unicode_utf8_acceptRanges), ("unicode/utf8.first", laid_unicode_utf8_first)] }
def NameDeepSaid : Prop := nameDeepRow.holds Tryd.pinned (OpenSpec.ofChange nameDeepSpec)

/-- ITS FALSE NEIGHBOUR: 'it returns false'. Refute it at one input. -/
def nameDeepWrong : ChangeSpec := { name := "nameDeep", fn := fun _ => fun
  | [d1, d2, d3] => { results := [.lit (.bool false)], args := [d1, d2, d3] }
  | _ => none }
def NameDeepWrongFalsely : Prop := nameDeepRow.holds Tryd.pinned (OpenSpec.ofChange nameDeepWrong)

/-- 'trystlaw02.NameSelf': WHATEVER THE INPUT: true; the input reads as it did. -/
def nameSelfSpec : ChangeSpec := { name := "nameSelf", fn := fun _ => fun
  | [d1, d2] => { results := [.lit (.bool true)], args := [d1, d2] }
  | _ => none }
def nameSelfRow : OpenClaim := { program := "ytbgobfldphoncaadoor", sum := "73e4c552c0d77d7f9d81afa1ba1c6826084bf24ee6a3a9d93d4227510433141a", func := "tryst/trystlaw02.NameSelf", spec := "nameSelf", inPlace := ["internal/bytealg.IndexByteString", "internal/bytealg.IndexString", "internal/bytealg.CountString"], unfollowed := true, recurses := true, named := ["internal/bytealg.MaxLen", "unicode/utf8.first", "unicode/utf8.acceptRanges"], plainKeys := false, apart := false, laid := [("unicode/utf8.acceptRanges", laid_unicode_utf8_acceptRanges), ("unicode/utf8.first", laid_unicode_utf8_first)] }
def NameSelfSaid : Prop := nameSelfRow.holds Tryd.pinned (OpenSpec.ofChange nameSelfSpec)

/-- ITS FALSE NEIGHBOUR: 'it returns false'. Refute it at one input. -/
def nameSelfWrong : ChangeSpec := { name := "nameSelf", fn := fun _ => fun
  | [d1, d2] => { results := [.lit (.bool false)], args := [d1, d2] }
  | _ => none }
def NameSelfWrongFalsely : Prop := nameSelfRow.holds Tryd.pinned (OpenSpec.ofChange nameSelfWrong)

/-- 'trystlaw02.NameWider': WHATEVER THE INPUT: true; the input reads as it did. -/
def nameWiderSpec : ChangeSpec := { name := "nameWider", fn := fun _ => fun
  | [d1, d2, d3] => { results := [.lit (.bool true)], args := [d1, d2, d3] }
  | _ => none }
def nameWiderRow : OpenClaim := { program := "ytbgobfldphoncaadoor", sum := "73e4c552c0d77d7f9d81afa1ba1c6826084bf24ee6a3a9d93d4227510433141a", func := "tryst/trystlaw02.NameWider", spec := "nameWider", inPlace := ["internal/bytealg.IndexByteString", "internal/bytealg.IndexString", "internal/bytealg.CountString"], unfollowed := true, recurses := true, named := ["internal/bytealg.MaxLen", "unicode/utf8.first", "unicode/utf8.acceptRanges"], plainKeys := false, apart := false, laid := [("unicode/utf8.acceptRanges", laid_unicode_utf8_acceptRanges), ("unicode/utf8.first", laid_unicode_utf8_first)] }
def NameWiderSaid : Prop := nameWiderRow.holds Tryd.pinned (OpenSpec.ofChange nameWiderSpec)

/-- ITS FALSE NEIGHBOUR: 'it returns false'. Refute it at one input. -/
def nameWiderWrong : ChangeSpec := { name := "nameWider", fn := fun _ => fun
  | [d1, d2, d3] => { results := [.lit (.bool false)], args := [d1, d2, d3] }
  | _ => none }
def NameWiderWrongFalsely : Prop := nameWiderRow.holds Tryd.pinned (OpenSpec.ofChange nameWiderWrong)

/-- 'trystlaw02.NameParts': WHATEVER THE INPUT: true; the input reads as it did. -/
def namePartsSpec : ChangeSpec := { name := "nameParts", fn := fun _ => fun
  | [d] => { results := [.lit (.bool true)], args := [d] }
  | _ => none }
def namePartsRow : OpenClaim := { program := "ytbgobfldphoncaadoor", sum := "73e4c552c0d77d7f9d81afa1ba1c6826084bf24ee6a3a9d93d4227510433141a", func := "tryst/trystlaw02.NameParts", spec := "nameParts", inPlace := ["internal/bytealg.IndexByteString", "internal/bytealg.IndexString", "internal/bytealg.CountString"], unfollowed := true, recurses := true, named := ["internal/bytealg.MaxLen", "unicode/utf8.first", "unicode/utf8.acceptRanges"], plainKeys := false, apart := false, laid := [("unicode/utf8.acceptRanges", laid_unicode_utf8_acceptRanges), ("unicode/utf8.first", laid_unicode_utf8_first)] }
def NamePartsSaid : Prop := namePartsRow.holds Tryd.pinned (OpenSpec.ofChange namePartsSpec)

/-- ITS FALSE NEIGHBOUR: 'it returns false'. Refute it at one input. -/
def namePartsWrong : ChangeSpec := { name := "nameParts", fn := fun _ => fun
  | [d] => { results := [.lit (.bool false)], args := [d] }
  | _ => none }
def NamePartsWrongFalsely : Prop := namePartsRow.holds Tryd.pinned (OpenSpec.ofChange namePartsWrong)

/-- 'trystlaw02.NameLong': WHATEVER THE INPUT: true; the input reads as it did. -/
def nameLongSpec : ChangeSpec := { name := "nameLong", fn := fun _ => fun
  | [d1, d2] => { results := [.lit (.bool true)], args := [d1, d2] }
  | _ => none }
def nameLongRow : OpenClaim := { program := "ytbgobfldphoncaadoor", sum := "73e4c552c0d77d7f9d81afa1ba1c6826084bf24ee6a3a9d93d4227510433141a", func := "tryst/trystlaw02.NameLong", spec := "nameLong", inPlace := ["internal/bytealg.IndexByteString", "internal/bytealg.IndexString", "internal/bytealg.CountString"], unfollowed := true, recurses := true, named := ["internal/bytealg.MaxLen", "unicode/utf8.first", "unicode/utf8.acceptRanges"], plainKeys := false, apart := false, laid := [("unicode/utf8.acceptRanges", laid_unicode_utf8_acceptRanges), ("unicode/utf8.first", laid_unicode_utf8_first)] }
def NameLongSaid : Prop := nameLongRow.holds Tryd.pinned (OpenSpec.ofChange nameLongSpec)

/-- ITS FALSE NEIGHBOUR: 'it returns false'. Refute it at one input. -/
def nameLongWrong : ChangeSpec := { name := "nameLong", fn := fun _ => fun
  | [d1, d2] => { results := [.lit (.bool false)], args := [d1, d2] }
  | _ => none }
def NameLongWrongFalsely : Prop := nameLongRow.holds Tryd.pinned (OpenSpec.ofChange nameLongWrong)

/-- 'trystlaw02.NameMeets': WHATEVER THE INPUT: true; the input reads as it did. -/
def nameMeetsSpec : ChangeSpec := { name := "nameMeets", fn := fun _ => fun
  | [d1, d2] => { results := [.lit (.bool true)], args := [d1, d2] }
  | _ => none }
def nameMeetsRow : OpenClaim := { program := "ytbgobfldphoncaadoor", sum := "73e4c552c0d77d7f9d81afa1ba1c6826084bf24ee6a3a9d93d4227510433141a", func := "tryst/trystlaw02.NameMeets", spec := "nameMeets", inPlace := ["internal/bytealg.IndexByteString", "internal/bytealg.IndexString", "internal/bytealg.CountString", "internal/bytealg.abigen_runtime_cmpstring"], unfollowed := true, recurses := true, named := ["internal/bytealg.MaxLen", "unicode/utf8.first", "unicode/utf8.acceptRanges"], plainKeys := false, apart := false, laid := [("unicode/utf8.acceptRanges", laid_unicode_utf8_acceptRanges), ("unicode/utf8.first", laid_unicode_utf8_first)] }
def NameMeetsSaid : Prop := nameMeetsRow.holds Tryd.pinned (OpenSpec.ofChange nameMeetsSpec)

/-- ITS FALSE NEIGHBOUR: 'it returns false'. Refute it at one input. -/
def nameMeetsWrong : ChangeSpec := { name := "nameMeets", fn := fun _ => fun
  | [d1, d2] => { results := [.lit (.bool false)], args := [d1, d2] }
  | _ => none }
def NameMeetsWrongFalsely : Prop := nameMeetsRow.holds Tryd.pinned (OpenSpec.ofChange nameMeetsWrong)

/-- 'trystlaw02.NameOrders': WHATEVER THE INPUT: true; the input reads as it did. -/
def nameOrdersSpec : ChangeSpec := { name := "nameOrders", fn := fun _ => fun
  | [d1, d2, d3] => { results := [.lit (.bool true)], args := [d1, d2, d3] }
  | _ => none }
def nameOrdersRow : OpenClaim := { program := "ytbgobfldphoncaadoor", sum := "73e4c552c0d77d7f9d81afa1ba1c6826084bf24ee6a3a9d93d4227510433141a", func := "tryst/trystlaw02.NameOrders", spec := "nameOrders", inPlace := ["internal/bytealg.IndexByteString", "internal/bytealg.IndexString", "internal/bytealg.CountString", "internal/bytealg.abigen_runtime_cmpstring"], unfollowed := true, recurses := true, named := ["internal/bytealg.MaxLen", "unicode/utf8.first", "unicode/utf8.acceptRanges"], plainKeys := false, apart := false, laid := [("unicode/utf8.acceptRanges", laid_unicode_utf8_acceptRanges), ("unicode/utf8.first", laid_unicode_utf8_first)] }
def NameOrdersSaid : Prop := nameOrdersRow.holds Tryd.pinned (OpenSpec.ofChange nameOrdersSpec)

/-- ITS FALSE NEIGHBOUR: 'it returns false'. Refute it at one input. -/
def nameOrdersWrong : ChangeSpec := { name := "nameOrders", fn := fun _ => fun
  | [d1, d2, d3] => { results := [.lit (.bool false)], args := [d1, d2, d3] }
  | _ => none }
def NameOrdersWrongFalsely : Prop := nameOrdersRow.holds Tryd.pinned (OpenSpec.ofChange nameOrdersWrong)

/- THE SECOND FORM. 'bulk': how many values and letters a reading holds, each counted each time it is reached (what is shared counts as often as it is met; a slice's spare places count too). A statement '..UptoSaid' is the law's where the arguments, and the package variables that the reading takes, are together of bulk at most 1048576: NARROWER than '..Said'. Prove '..Said' where nothing that the law and all that it calls make is longer than what came in: it says more and counts as full. Else prove '..UptoSaid'. A law counts once. -/
mutual
def uptoBulk {H : Type} : DataW H → Nat
  | .lit (.string bytes) => bytes.length + 1
  | .lit _ => 1
  | .nil => 1
  | .ptr d => uptoBulk d + 1
  | .slice elems spare => uptoBulkAll elems + uptoBulkAll spare + 1
  | .agg parts => uptoBulkAll parts + 1
  | .iface _ d => uptoBulk d + 1
  | .map entries => uptoBulkEntries entries + 1
  | .held _ => 1
def uptoBulkAll {H : Type} : List (DataW H) → Nat
  | [] => 0
  | d :: r => uptoBulk d + uptoBulkAll r
def uptoBulkEntries {H : Type} : List (Lit × DataW H) → Nat
  | [] => 0
  | x :: r => uptoBulkEntry x + uptoBulkEntries r
def uptoBulkEntry {H : Type} : Lit × DataW H → Nat
  | (.string bytes, d) => bytes.length + uptoBulk d + 1
  | (_, d) => uptoBulk d + 1
 end
def uptoSmall : (H : Type) → List (DataW H) → Bool := fun _ ds => decide (uptoBulkAll ds ≤ 1048576)
def OpenSpec.upto (s : _root_.Go.ChangeSpec) : _root_.Go.OpenSpec := { _root_.Go.OpenSpec.ofChange s with cond := some uptoSmall }

/-- 'trystlaw02.NameDeep', WHERE WHAT IT READS IS OF BULK AT MOST 1048576: true; the input reads as it did. -/
def nameDeepUptoRow : OpenClaim := { program := "ytbgobfldphoncaadoor", sum := "73e4c552c0d77d7f9d81afa1ba1c6826084bf24ee6a3a9d93d4227510433141a", func := "tryst/trystlaw02.NameDeep", spec := "nameDeep", inPlace := ["internal/bytealg.IndexByteString", "internal/bytealg.IndexString", "internal/bytealg.CountString"], unfollowed := true, recurses := true, named := ["internal/bytealg.MaxLen", "unicode/utf8.first", "unicode/utf8.acceptRanges"], plainKeys := false, apart := false, laid := [("unicode/utf8.acceptRanges", laid_unicode_utf8_acceptRanges), ("unicode/utf8.first", laid_unicode_utf8_first)], narrowed := true }
def NameDeepUptoSaid : Prop := nameDeepUptoRow.holds Tryd.pinned (OpenSpec.upto nameDeepSpec)

/-- 'trystlaw02.NameSelf', WHERE WHAT IT READS IS OF BULK AT MOST 1048576: true; the input reads as it did. -/
def nameSelfUptoRow : OpenClaim := { program := "ytbgobfldphoncaadoor", sum := "73e4c552c0d77d7f9d81afa1ba1c6826084bf24ee6a3a9d93d4227510433141a", func := "tryst/trystlaw02.NameSelf", spec := "nameSelf", inPlace := ["internal/bytealg.IndexByteString", "internal/bytealg.IndexString", "internal/bytealg.CountString"], unfollowed := true, recurses := true, named := ["internal/bytealg.MaxLen", "unicode/utf8.first", "unicode/utf8.acceptRanges"], plainKeys := false, apart := false, laid := [("unicode/utf8.acceptRanges", laid_unicode_utf8_acceptRanges), ("unicode/utf8.first", laid_unicode_utf8_first)], narrowed := true }
def NameSelfUptoSaid : Prop := nameSelfUptoRow.holds Tryd.pinned (OpenSpec.upto nameSelfSpec)

/-- 'trystlaw02.NameWider', WHERE WHAT IT READS IS OF BULK AT MOST 1048576: true; the input reads as it did. -/
def nameWiderUptoRow : OpenClaim := { program := "ytbgobfldphoncaadoor", sum := "73e4c552c0d77d7f9d81afa1ba1c6826084bf24ee6a3a9d93d4227510433141a", func := "tryst/trystlaw02.NameWider", spec := "nameWider", inPlace := ["internal/bytealg.IndexByteString", "internal/bytealg.IndexString", "internal/bytealg.CountString"], unfollowed := true, recurses := true, named := ["internal/bytealg.MaxLen", "unicode/utf8.first", "unicode/utf8.acceptRanges"], plainKeys := false, apart := false, laid := [("unicode/utf8.acceptRanges", laid_unicode_utf8_acceptRanges), ("unicode/utf8.first", laid_unicode_utf8_first)], narrowed := true }
def NameWiderUptoSaid : Prop := nameWiderUptoRow.holds Tryd.pinned (OpenSpec.upto nameWiderSpec)

/-- 'trystlaw02.NameParts', WHERE WHAT IT READS IS OF BULK AT MOST 1048576: true; the input reads as it did. -/
def namePartsUptoRow : OpenClaim := { program := "ytbgobfldphoncaadoor", sum := "73e4c552c0d77d7f9d81afa1ba1c6826084bf24ee6a3a9d93d4227510433141a", func := "tryst/trystlaw02.NameParts", spec := "nameParts", inPlace := ["internal/bytealg.IndexByteString", "internal/bytealg.IndexString", "internal/bytealg.CountString"], unfollowed := true, recurses := true, named := ["internal/bytealg.MaxLen", "unicode/utf8.first", "unicode/utf8.acceptRanges"], plainKeys := false, apart := false, laid := [("unicode/utf8.acceptRanges", laid_unicode_utf8_acceptRanges), ("unicode/utf8.first", laid_unicode_utf8_first)], narrowed := true }
def NamePartsUptoSaid : Prop := namePartsUptoRow.holds Tryd.pinned (OpenSpec.upto namePartsSpec)

/-- 'trystlaw02.NameLong', WHERE WHAT IT READS IS OF BULK AT MOST 1048576: true; the input reads as it did. -/
def nameLongUptoRow : OpenClaim := { program := "ytbgobfldphoncaadoor", sum := "73e4c552c0d77d7f9d81afa1ba1c6826084bf24ee6a3a9d93d4227510433141a", func := "tryst/trystlaw02.NameLong", spec := "nameLong", inPlace := ["internal/bytealg.IndexByteString", "internal/bytealg.IndexString", "internal/bytealg.CountString"], unfollowed := true, recurses := true, named := ["internal/bytealg.MaxLen", "unicode/utf8.first", "unicode/utf8.acceptRanges"], plainKeys := false, apart := false, laid := [("unicode/utf8.acceptRanges", laid_unicode_utf8_acceptRanges), ("unicode/utf8.first", laid_unicode_utf8_first)], narrowed := true }
def NameLongUptoSaid : Prop := nameLongUptoRow.holds Tryd.pinned (OpenSpec.upto nameLongSpec)

/-- 'trystlaw02.NameMeets', WHERE WHAT IT READS IS OF BULK AT MOST 1048576: true; the input reads as it did. -/
def nameMeetsUptoRow : OpenClaim := { program := "ytbgobfldphoncaadoor", sum := "73e4c552c0d77d7f9d81afa1ba1c6826084bf24ee6a3a9d93d4227510433141a", func := "tryst/trystlaw02.NameMeets", spec := "nameMeets", inPlace := ["internal/bytealg.IndexByteString", "internal/bytealg.IndexString", "internal/bytealg.CountString", "internal/bytealg.abigen_runtime_cmpstring"], unfollowed := true, recurses := true, named := ["internal/bytealg.MaxLen", "unicode/utf8.first", "unicode/utf8.acceptRanges"], plainKeys := false, apart := false, laid := [("unicode/utf8.acceptRanges", laid_unicode_utf8_acceptRanges), ("unicode/utf8.first", laid_unicode_utf8_first)], narrowed := true }
def NameMeetsUptoSaid : Prop := nameMeetsUptoRow.holds Tryd.pinned (OpenSpec.upto nameMeetsSpec)

/-- 'trystlaw02.NameOrders', WHERE WHAT IT READS IS OF BULK AT MOST 1048576: true; the input reads as it did. -/
def nameOrdersUptoRow : OpenClaim := { program := "ytbgobfldphoncaadoor", sum := "73e4c552c0d77d7f9d81afa1ba1c6826084bf24ee6a3a9d93d4227510433141a", func := "tryst/trystlaw02.NameOrders", spec := "nameOrders", inPlace := ["internal/bytealg.IndexByteString", "internal/bytealg.IndexString", "internal/bytealg.CountString", "internal/bytealg.abigen_runtime_cmpstring"], unfollowed := true, recurses := true, named := ["internal/bytealg.MaxLen", "unicode/utf8.first", "unicode/utf8.acceptRanges"], plainKeys := false, apart := false, laid := [("unicode/utf8.acceptRanges", laid_unicode_utf8_acceptRanges), ("unicode/utf8.first", laid_unicode_utf8_first)], narrowed := true }
def NameOrdersUptoSaid : Prop := nameOrdersUptoRow.holds Tryd.pinned (OpenSpec.upto nameOrdersSpec)

end Rows
end Go.Proofs.YtbgobfldphoncaaDoor
