/-
  NARROWER THAN 'FOR EVERY INPUT', by the rows' own cells (each row's printed sentence says how): MiniNone: laid · MiniTurns: laid · DfaMeets: laid · DfaBounds: laid · DfaTurns: laid · DfaMore: laid · DfaOthers: laid.
  DERIVED. THE GIVEN ROWS OF THIS SEAT. 7 by the template 'for every input the law returns true; each argument reads behind the call as it read before'; 0 by the template 'total and deterministic' (their statements: YtjkldmepdenlfaaDoorTotals.lean).
  GIVEN WITH THE SEED: the statements are not yours to turn. If you find one false, say at which input.
  Laid BY PROGRAM, IN A SANDBOX (cutbox-rows.mjs): the forced cells as the released guide's own fill.sh prints them over the translation 12b36bd9fbb4872e… (all of the seat's roots in one cut). By AI agents, Wed Nov 11 2026. No macro, syntax, notation, axiom, sorry.
-/
import Derived.Test.YtjkldmepdenlfaaDoorChecked
import GoSem.PinnedTables
import GoSem.Claim
import GoSem.ClaimJoined
import GoSem.ClaimMapViews
import Derived.JoinedTies
import Derived.KernelRfl
namespace Go.Proofs.YtjkldmepdenlfaaDoor
/- THE CELL 'sum', in the pinned program and in every row, IS THE sha256 OF THE DUMP (.gsa) THAT YtjkldmepdenlfaaDoorProg.lean LOADS. Nothing in Lean hashes anything: it is a label: what it is worth is what the hold of that sum in a sandbox is worth. -/
noncomputable def Tryd.pinned : Pinned := { name := "ytjkldmepdenlfaadoor", sum := "12b36bd9fbb4872ea9cb0c977868885d811aca920ee4dad8d086e1f861fef432", checked := Tryd.checked }
namespace Rows
def none {H : Type} : Left H := { results := [], args := [] }

/- WHAT THE LISTED PACKAGE-LEVEL VARIABLES READ AS WHEN THE CALL BEGINS. Each datum BY PROGRAM (the guide's laid-datum.mjs) off the statement by which the dump's own 'gosem.cut.vars' lays the variable. In a bare row this is a premise. The card (YtjkldmepdenlfaaDoorCards.lean) ties it to the program's text. -/
def laid_math_bits_deBruijn32tab {H : Type} : DataW H := .agg [.lit (.int .u8 0), .lit (.int .u8 1), .lit (.int .u8 28), .lit (.int .u8 2), .lit (.int .u8 29), .lit (.int .u8 14), .lit (.int .u8 24), .lit (.int .u8 3), .lit (.int .u8 30), .lit (.int .u8 22), .lit (.int .u8 20), .lit (.int .u8 15), .lit (.int .u8 25), .lit (.int .u8 17), .lit (.int .u8 4), .lit (.int .u8 8), .lit (.int .u8 31), .lit (.int .u8 27), .lit (.int .u8 13), .lit (.int .u8 23), .lit (.int .u8 21), .lit (.int .u8 19), .lit (.int .u8 16), .lit (.int .u8 7), .lit (.int .u8 26), .lit (.int .u8 12), .lit (.int .u8 18), .lit (.int .u8 6), .lit (.int .u8 11), .lit (.int .u8 5), .lit (.int .u8 10), .lit (.int .u8 9)]
def laid_math_bits_deBruijn64tab {H : Type} : DataW H := .agg [.lit (.int .u8 0), .lit (.int .u8 1), .lit (.int .u8 56), .lit (.int .u8 2), .lit (.int .u8 57), .lit (.int .u8 49), .lit (.int .u8 28), .lit (.int .u8 3), .lit (.int .u8 61), .lit (.int .u8 58), .lit (.int .u8 42), .lit (.int .u8 50), .lit (.int .u8 38), .lit (.int .u8 29), .lit (.int .u8 17), .lit (.int .u8 4), .lit (.int .u8 62), .lit (.int .u8 47), .lit (.int .u8 59), .lit (.int .u8 36), .lit (.int .u8 45), .lit (.int .u8 43), .lit (.int .u8 51), .lit (.int .u8 22), .lit (.int .u8 53), .lit (.int .u8 39), .lit (.int .u8 33), .lit (.int .u8 30), .lit (.int .u8 24), .lit (.int .u8 18), .lit (.int .u8 12), .lit (.int .u8 5), .lit (.int .u8 63), .lit (.int .u8 55), .lit (.int .u8 48), .lit (.int .u8 27), .lit (.int .u8 60), .lit (.int .u8 41), .lit (.int .u8 37), .lit (.int .u8 16), .lit (.int .u8 46), .lit (.int .u8 35), .lit (.int .u8 44), .lit (.int .u8 21), .lit (.int .u8 52), .lit (.int .u8 32), .lit (.int .u8 23), .lit (.int .u8 11), .lit (.int .u8 54), .lit (.int .u8 26), .lit (.int .u8 40), .lit (.int .u8 15), .lit (.int .u8 34), .lit (.int .u8 20), .lit (.int .u8 31), .lit (.int .u8 10), .lit (.int .u8 25), .lit (.int .u8 14), .lit (.int .u8 19), .lit (.int .u8 9), .lit (.int .u8 13), .lit (.int .u8 8), .lit (.int .u8 7), .lit (.int .u8 6)]
def laid_internal_strconv_uint64pow10 {H : Type} : DataW H := .agg [.lit (.int .u64 1), .lit (.int .u64 10), .lit (.int .u64 100), .lit (.int .u64 1000), .lit (.int .u64 10000), .lit (.int .u64 100000), .lit (.int .u64 1000000), .lit (.int .u64 10000000), .lit (.int .u64 100000000), .lit (.int .u64 1000000000), .lit (.int .u64 10000000000), .lit (.int .u64 100000000000), .lit (.int .u64 1000000000000), .lit (.int .u64 10000000000000), .lit (.int .u64 100000000000000), .lit (.int .u64 1000000000000000), .lit (.int .u64 10000000000000000), .lit (.int .u64 100000000000000000), .lit (.int .u64 1000000000000000000), .lit (.int .u64 10000000000000000000)]
def laid_unicode_utf8_acceptRanges {H : Type} : DataW H := .agg [.agg [.lit (.int .u8 128), .lit (.int .u8 191)], .agg [.lit (.int .u8 160), .lit (.int .u8 191)], .agg [.lit (.int .u8 128), .lit (.int .u8 159)], .agg [.lit (.int .u8 144), .lit (.int .u8 191)], .agg [.lit (.int .u8 128), .lit (.int .u8 143)], .agg [.lit (.int .u8 0), .lit (.int .u8 0)], .agg [.lit (.int .u8 0), .lit (.int .u8 0)], .agg [.lit (.int .u8 0), .lit (.int .u8 0)], .agg [.lit (.int .u8 0), .lit (.int .u8 0)], .agg [.lit (.int .u8 0), .lit (.int .u8 0)], .agg [.lit (.int .u8 0), .lit (.int .u8 0)], .agg [.lit (.int .u8 0), .lit (.int .u8 0)], .agg [.lit (.int .u8 0), .lit (.int .u8 0)], .agg [.lit (.int .u8 0), .lit (.int .u8 0)], .agg [.lit (.int .u8 0), .lit (.int .u8 0)], .agg [.lit (.int .u8 0), .lit (.int .u8 0)]]
/-- One of Go's own tables, pinned by name: the form's constant. -/
def laid_unicode_utf8_first : DataW Unit := Go.Pinned.utf8First

/-- 'trystlaw08.MiniNone': WHATEVER THE INPUT: true; the input reads as it did. -/
def miniNoneSpec : ChangeSpec := { name := "miniNone", fn := fun _ => fun
  | [d] => { results := [.lit (.bool true)], args := [d] }
  | _ => none }
def miniNoneRow : OpenClaim := { program := "ytjkldmepdenlfaadoor", sum := "12b36bd9fbb4872ea9cb0c977868885d811aca920ee4dad8d086e1f861fef432", func := "tryst/trystlaw08.MiniNone", spec := "miniNone", unfollowed := true, recurses := true, named := ["internal/strconv.uint64pow10", "math/bits.deBruijn32tab", "math/bits.deBruijn64tab"], plainKeys := false, apart := false, laid := [("math/bits.deBruijn32tab", laid_math_bits_deBruijn32tab), ("math/bits.deBruijn64tab", laid_math_bits_deBruijn64tab), ("internal/strconv.uint64pow10", laid_internal_strconv_uint64pow10)] }
def MiniNoneSaid : Prop := miniNoneRow.holds Tryd.pinned (OpenSpec.ofChange miniNoneSpec)

/-- ITS FALSE NEIGHBOUR: 'it returns false'. Refute it at one input. -/
def miniNoneWrong : ChangeSpec := { name := "miniNone", fn := fun _ => fun
  | [d] => { results := [.lit (.bool false)], args := [d] }
  | _ => none }
def MiniNoneWrongFalsely : Prop := miniNoneRow.holds Tryd.pinned (OpenSpec.ofChange miniNoneWrong)

/-- 'trystlaw08.MiniTurns': WHATEVER THE INPUT: true; the input reads as it did. -/
def miniTurnsSpec : ChangeSpec := { name := "miniTurns", fn := fun _ => fun
  | [d1, d2] => { results := [.lit (.bool true)], args := [d1, d2] }
  | _ => none }
def miniTurnsRow : OpenClaim := { program := "ytjkldmepdenlfaadoor", sum := "12b36bd9fbb4872ea9cb0c977868885d811aca920ee4dad8d086e1f861fef432", func := "tryst/trystlaw08.MiniTurns", spec := "miniTurns", unfollowed := true, recurses := true, named := ["internal/strconv.uint64pow10", "math/bits.deBruijn32tab", "math/bits.deBruijn64tab"], plainKeys := false, apart := false, laid := [("math/bits.deBruijn32tab", laid_math_bits_deBruijn32tab), ("math/bits.deBruijn64tab", laid_math_bits_deBruijn64tab), ("internal/strconv.uint64pow10", laid_internal_strconv_uint64pow10)] }
def MiniTurnsSaid : Prop := miniTurnsRow.holds Tryd.pinned (OpenSpec.ofChange miniTurnsSpec)

/-- ITS FALSE NEIGHBOUR: 'it returns false'. Refute it at one input. -/
def miniTurnsWrong : ChangeSpec := { name := "miniTurns", fn := fun _ => fun
  | [d1, d2] => { results := [.lit (.bool false)], args := [d1, d2] }
  | _ => none }
def MiniTurnsWrongFalsely : Prop := miniTurnsRow.holds Tryd.pinned (OpenSpec.ofChange miniTurnsWrong)

/-- 'trystlaw07.DfaMeets': WHATEVER THE INPUT: true; the input reads as it did. -/
def dfaMeetsSpec : ChangeSpec := { name := "dfaMeets", fn := fun _ => fun
  | [d1, d2] => { results := [.lit (.bool true)], args := [d1, d2] }
  | _ => none }
def dfaMeetsRow : OpenClaim := { program := "ytjkldmepdenlfaadoor", sum := "12b36bd9fbb4872ea9cb0c977868885d811aca920ee4dad8d086e1f861fef432", func := "tryst/trystlaw07.DfaMeets", spec := "dfaMeets", inPlace := ["internal/bytealg.IndexByteString", "internal/bytealg.IndexString", "internal/bytealg.CountString"], unfollowed := true, recurses := true, named := ["internal/bytealg.MaxLen", "unicode/utf8.first", "unicode/utf8.acceptRanges", "math/bits.deBruijn64tab"], plainKeys := false, apart := false, laid := [("math/bits.deBruijn64tab", laid_math_bits_deBruijn64tab), ("unicode/utf8.acceptRanges", laid_unicode_utf8_acceptRanges), ("unicode/utf8.first", laid_unicode_utf8_first)] }
def DfaMeetsSaid : Prop := dfaMeetsRow.holds Tryd.pinned (OpenSpec.ofChange dfaMeetsSpec)

/-- ITS FALSE NEIGHBOUR: 'it returns false'. Refute it at one input. -/
def dfaMeetsWrong : ChangeSpec := { name := "dfaMeets", fn := fun _ => fun
  | [d1, d2] => { results := [.lit (.bool false)], args := [d1, d2] }
  | _ => none }
def DfaMeetsWrongFalsely : Prop := dfaMeetsRow.holds Tryd.pinned (OpenSpec.ofChange dfaMeetsWrong)

/-- 'trystlaw07.DfaBounds': WHATEVER THE INPUT: true; the input reads as it did. -/
def dfaBoundsSpec : ChangeSpec := { name := "dfaBounds", fn := fun _ => fun
  | [d] => { results := [.lit (.bool true)], args := [d] }
  | _ => none }
def dfaBoundsRow : OpenClaim := { program := "ytjkldmepdenlfaadoor", sum := "12b36bd9fbb4872ea9cb0c977868885d811aca920ee4dad8d086e1f861fef432", func := "tryst/trystlaw07.DfaBounds", spec := "dfaBounds", inPlace := ["internal/bytealg.IndexByteString", "internal/bytealg.IndexString", "internal/bytealg.CountString"], unfollowed := true, recurses := true, named := ["internal/bytealg.MaxLen", "unicode/utf8.first", "unicode/utf8.acceptRanges", "math/bits.deBruijn64tab"], plainKeys := false, apart := false, laid := [("math/bits.deBruijn64tab", laid_math_bits_deBruijn64tab), ("unicode/utf8.acceptRanges", laid_unicode_utf8_acceptRanges), ("unicode/utf8.first", laid_unicode_utf8_first)] }
def DfaBoundsSaid : Prop := dfaBoundsRow.holds Tryd.pinned (OpenSpec.ofChange dfaBoundsSpec)

/-- ITS FALSE NEIGHBOUR: 'it returns false'. Refute it at one input. -/
def dfaBoundsWrong : ChangeSpec := { name := "dfaBounds", fn := fun _ => fun
  | [d] => { results := [.lit (.bool false)], args := [d] }
  | _ => none }
def DfaBoundsWrongFalsely : Prop := dfaBoundsRow.holds Tryd.pinned (OpenSpec.ofChange dfaBoundsWrong)

/-- 'trystlaw07.DfaTurns': WHATEVER THE INPUT: true; the input reads as it did. -/
def dfaTurnsSpec : ChangeSpec := { name := "dfaTurns", fn := fun _ => fun
  | [d1, d2, d3] => { results := [.lit (.bool true)], args := [d1, d2, d3] }
  | _ => none }
def dfaTurnsRow : OpenClaim := { program := "ytjkldmepdenlfaadoor", sum := "12b36bd9fbb4872ea9cb0c977868885d811aca920ee4dad8d086e1f861fef432", func := "tryst/trystlaw07.DfaTurns", spec := "dfaTurns", inPlace := ["internal/bytealg.IndexByteString", "internal/bytealg.IndexString", "internal/bytealg.CountString"], unfollowed := true, recurses := true, named := ["internal/bytealg.MaxLen", "unicode/utf8.first", "unicode/utf8.acceptRanges", "math/bits.deBruijn64tab"], plainKeys := false, apart := false, laid := [("math/bits.deBruijn64tab", laid_math_bits_deBruijn64tab), ("unicode/utf8.acceptRanges", laid_unicode_utf8_acceptRanges), ("unicode/utf8.first", laid_unicode_utf8_first)] }
def DfaTurnsSaid : Prop := dfaTurnsRow.holds Tryd.pinned (OpenSpec.ofChange dfaTurnsSpec)

/-- ITS FALSE NEIGHBOUR: 'it returns false'. Refute it at one input. -/
def dfaTurnsWrong : ChangeSpec := { name := "dfaTurns", fn := fun _ => fun
  | [d1, d2, d3] => { results := [.lit (.bool false)], args := [d1, d2, d3] }
  | _ => none }
def DfaTurnsWrongFalsely : Prop := dfaTurnsRow.holds Tryd.pinned (OpenSpec.ofChange dfaTurnsWrong)

/-- 'trystlaw07.DfaMore': WHATEVER THE INPUT: true; the input reads as it did. -/
def dfaMoreSpec : ChangeSpec := { name := "dfaMore", fn := fun _ => fun
  | [d1, d2, d3] => { results := [.lit (.bool true)], args := [d1, d2, d3] }
  | _ => none }
def dfaMoreRow : OpenClaim := { program := "ytjkldmepdenlfaadoor", sum := "12b36bd9fbb4872ea9cb0c977868885d811aca920ee4dad8d086e1f861fef432", func := "tryst/trystlaw07.DfaMore", spec := "dfaMore", inPlace := ["internal/bytealg.IndexByteString", "internal/bytealg.IndexString", "internal/bytealg.CountString"], unfollowed := true, recurses := true, named := ["internal/bytealg.MaxLen", "unicode/utf8.first", "unicode/utf8.acceptRanges", "math/bits.deBruijn64tab"], plainKeys := false, apart := false, laid := [("math/bits.deBruijn64tab", laid_math_bits_deBruijn64tab), ("unicode/utf8.acceptRanges", laid_unicode_utf8_acceptRanges), ("unicode/utf8.first", laid_unicode_utf8_first)] }
def DfaMoreSaid : Prop := dfaMoreRow.holds Tryd.pinned (OpenSpec.ofChange dfaMoreSpec)

/-- ITS FALSE NEIGHBOUR: 'it returns false'. Refute it at one input. -/
def dfaMoreWrong : ChangeSpec := { name := "dfaMore", fn := fun _ => fun
  | [d1, d2, d3] => { results := [.lit (.bool false)], args := [d1, d2, d3] }
  | _ => none }
def DfaMoreWrongFalsely : Prop := dfaMoreRow.holds Tryd.pinned (OpenSpec.ofChange dfaMoreWrong)

/-- 'trystlaw07.DfaOthers': WHATEVER THE INPUT: true; the input reads as it did. -/
def dfaOthersSpec : ChangeSpec := { name := "dfaOthers", fn := fun _ => fun
  | [d1, d2] => { results := [.lit (.bool true)], args := [d1, d2] }
  | _ => none }
def dfaOthersRow : OpenClaim := { program := "ytjkldmepdenlfaadoor", sum := "12b36bd9fbb4872ea9cb0c977868885d811aca920ee4dad8d086e1f861fef432", func := "tryst/trystlaw07.DfaOthers", spec := "dfaOthers", inPlace := ["internal/bytealg.IndexByteString", "internal/bytealg.IndexString", "internal/bytealg.CountString"], unfollowed := true, recurses := true, named := ["internal/bytealg.MaxLen", "unicode/utf8.first", "unicode/utf8.acceptRanges", "math/bits.deBruijn64tab"], plainKeys := false, apart := false, laid := [("math/bits.deBruijn64tab", laid_math_bits_deBruijn64tab), ("unicode/utf8.acceptRanges", laid_unicode_utf8_acceptRanges), ("unicode/utf8.first", laid_unicode_utf8_first)] }
def DfaOthersSaid : Prop := dfaOthersRow.holds Tryd.pinned (OpenSpec.ofChange dfaOthersSpec)

/-- ITS FALSE NEIGHBOUR: 'it returns false'. Refute it at one input. -/
def dfaOthersWrong : ChangeSpec := { name := "dfaOthers", fn := fun _ => fun
  | [d1, d2] => { results := [.lit (.bool false)], args := [d1, d2] }
  | _ => none }
def DfaOthersWrongFalsely : Prop := dfaOthersRow.holds Tryd.pinned (OpenSpec.ofChange dfaOthersWrong)

/- THE SECOND FORM. 'bulk': how many values and letters a reading holds, each counted each time it is reached (what is shared counts as often as it is met; a slice's spare places count too). A statement '..UptoSaid' is the law's where the arguments, and the package variables that the reading takes, are together of bulk at most 1048576: NARROWER than '..Said'. Prove '..Said' where nothing that the law and all that it calls make is longer than what came in: it says more and counts as full. Else prove '..UptoSaid'. A law counts once. -/
mutual
def uptoBulk {H : Type} : DataW H → Nat
  | .lit (.string bytes) => bytes.length + 1
  | .lit _ => 1
  | .nil => 1
  | .ptr d => uptoBulk d + 1
  | .slice elems spare => uptoBulkAll elems + uptoBulkAll spare + 1
  | .agg parts => uptoBulkAll parts + 1
  | .iface _ d => uptoBulk d + 1
  | .map entries => uptoBulkEntries entries + 1
  | .held _ => 1
def uptoBulkAll {H : Type} : List (DataW H) → Nat
  | [] => 0
  | d :: r => uptoBulk d + uptoBulkAll r
def uptoBulkEntries {H : Type} : List (Lit × DataW H) → Nat
  | [] => 0
  | x :: r => uptoBulkEntry x + uptoBulkEntries r
def uptoBulkEntry {H : Type} : Lit × DataW H → Nat
  | (.string bytes, d) => bytes.length + uptoBulk d + 1
  | (_, d) => uptoBulk d + 1
 end
def uptoSmall : (H : Type) → List (DataW H) → Bool := fun _ ds => decide (uptoBulkAll ds ≤ 1048576)
def OpenSpec.upto (s : _root_.Go.ChangeSpec) : _root_.Go.OpenSpec := { _root_.Go.OpenSpec.ofChange s with cond := some uptoSmall }

/-- 'trystlaw08.MiniNone', WHERE WHAT IT READS IS OF BULK AT MOST 1048576: true; the input reads as it did. -/
def miniNoneUptoRow : OpenClaim := { program := "ytjkldmepdenlfaadoor", sum := "12b36bd9fbb4872ea9cb0c977868885d811aca920ee4dad8d086e1f861fef432", func := "tryst/trystlaw08.MiniNone", spec := "miniNone", unfollowed := true, recurses := true, named := ["internal/strconv.uint64pow10", "math/bits.deBruijn32tab", "math/bits.deBruijn64tab"], plainKeys := false, apart := false, laid := [("math/bits.deBruijn32tab", laid_math_bits_deBruijn32tab), ("math/bits.deBruijn64tab", laid_math_bits_deBruijn64tab), ("internal/strconv.uint64pow10", laid_internal_strconv_uint64pow10)], narrowed := true }
def MiniNoneUptoSaid : Prop := miniNoneUptoRow.holds Tryd.pinned (OpenSpec.upto miniNoneSpec)

/-- 'trystlaw08.MiniTurns', WHERE WHAT IT READS IS OF BULK AT MOST 1048576: true; the input reads as it did. -/
def miniTurnsUptoRow : OpenClaim := { program := "ytjkldmepdenlfaadoor", sum := "12b36bd9fbb4872ea9cb0c977868885d811aca920ee4dad8d086e1f861fef432", func := "tryst/trystlaw08.MiniTurns", spec := "miniTurns", unfollowed := true, recurses := true, named := ["internal/strconv.uint64pow10", "math/bits.deBruijn32tab", "math/bits.deBruijn64tab"], plainKeys := false, apart := false, laid := [("math/bits.deBruijn32tab", laid_math_bits_deBruijn32tab), ("math/bits.deBruijn64tab", laid_math_bits_deBruijn64tab), ("internal/strconv.uint64pow10", laid_internal_strconv_uint64pow10)], narrowed := true }
def MiniTurnsUptoSaid : Prop := miniTurnsUptoRow.holds Tryd.pinned (OpenSpec.upto miniTurnsSpec)

/-- 'trystlaw07.DfaMeets', WHERE WHAT IT READS IS OF BULK AT MOST 1048576: true; the input reads as it did. -/
def dfaMeetsUptoRow : OpenClaim := { program := "ytjkldmepdenlfaadoor", sum := "12b36bd9fbb4872ea9cb0c977868885d811aca920ee4dad8d086e1f861fef432", func := "tryst/trystlaw07.DfaMeets", spec := "dfaMeets", inPlace := ["internal/bytealg.IndexByteString", "internal/bytealg.IndexString", "internal/bytealg.CountString"], unfollowed := true, recurses := true, named := ["internal/bytealg.MaxLen", "unicode/utf8.first", "unicode/utf8.acceptRanges", "math/bits.deBruijn64tab"], plainKeys := false, apart := false, laid := [("math/bits.deBruijn64tab", laid_math_bits_deBruijn64tab), ("unicode/utf8.acceptRanges", laid_unicode_utf8_acceptRanges), ("unicode/utf8.first", laid_unicode_utf8_first)], narrowed := true }
def DfaMeetsUptoSaid : Prop := dfaMeetsUptoRow.holds Tryd.pinned (OpenSpec.upto dfaMeetsSpec)

/-- 'trystlaw07.DfaBounds', WHERE WHAT IT READS IS OF BULK AT MOST 1048576: true; the input reads as it did. -/
def dfaBoundsUptoRow : OpenClaim := { program := "ytjkldmepdenlfaadoor", sum := "12b36bd9fbb4872ea9cb0c977868885d811aca920ee4dad8d086e1f861fef432", func := "tryst/trystlaw07.DfaBounds", spec := "dfaBounds", inPlace := ["internal/bytealg.IndexByteString", "internal/bytealg.IndexString", "internal/bytealg.CountString"], unfollowed := true, recurses := true, named := ["internal/bytealg.MaxLen", "unicode/utf8.first", "unicode/utf8.acceptRanges", "math/bits.deBruijn64tab"], plainKeys := false, apart := false, laid := [("math/bits.deBruijn64tab", laid_math_bits_deBruijn64tab), ("unicode/utf8.acceptRanges", laid_unicode_utf8_acceptRanges), ("unicode/utf8.first", laid_unicode_utf8_first)], narrowed := true }
def DfaBoundsUptoSaid : Prop := dfaBoundsUptoRow.holds Tryd.pinned (OpenSpec.upto dfaBoundsSpec)

/-- 'trystlaw07.DfaTurns', WHERE WHAT IT READS IS OF BULK AT MOST 1048576: true; the input reads as it did. -/
def dfaTurnsUptoRow : OpenClaim := { program := "ytjkldmepdenlfaadoor", sum := "12b36bd9fbb4872ea9cb0c977868885d811aca920ee4dad8d086e1f861fef432", func := "tryst/trystlaw07.DfaTurns", spec := "dfaTurns", inPlace := ["internal/bytealg.IndexByteString", "internal/bytealg.IndexString", "internal/bytealg.CountString"], unfollowed := true, recurses := true, named := ["internal/bytealg.MaxLen", "unicode/utf8.first", "unicode/utf8.acceptRanges", "math/bits.deBruijn64tab"], plainKeys := false, apart := false, laid := [("math/bits.deBruijn64tab", laid_math_bits_deBruijn64tab), ("unicode/utf8.acceptRanges", laid_unicode_utf8_acceptRanges), ("unicode/utf8.first", laid_unicode_utf8_first)], narrowed := true }
def DfaTurnsUptoSaid : Prop := dfaTurnsUptoRow.holds Tryd.pinned (OpenSpec.upto dfaTurnsSpec)

/-- 'trystlaw07.DfaMore', WHERE WHAT IT READS IS OF BULK AT MOST 1048576: true; the input reads as it did. -/
def dfaMoreUptoRow : OpenClaim := { program := "ytjkldmepdenlfaadoor", sum := "12b36bd9fbb4872ea9cb0c977868885d811aca920ee4dad8d086e1f861fef432", func := "tryst/trystlaw07.DfaMore", spec := "dfaMore", inPlace := ["internal/bytealg.IndexByteString", "internal/bytealg.IndexString", "internal/bytealg.CountString"], unfollowed := true, recurses := true, named := ["internal/bytealg.MaxLen", "unicode/utf8.first", "unicode/utf8.acceptRanges", "math/bits.deBruijn64tab"], plainKeys := false, apart := false, laid := [("math/bits.deBruijn64tab", laid_math_bits_deBruijn64tab), ("unicode/utf8.acceptRanges", laid_unicode_utf8_acceptRanges), ("unicode/utf8.first", laid_unicode_utf8_first)], narrowed := true }
def DfaMoreUptoSaid : Prop := dfaMoreUptoRow.holds Tryd.pinned (OpenSpec.upto dfaMoreSpec)

/-- 'trystlaw07.DfaOthers', WHERE WHAT IT READS IS OF BULK AT MOST 1048576: true; the input reads as it did. -/
def dfaOthersUptoRow : OpenClaim := { program := "ytjkldmepdenlfaadoor", sum := "12b36bd9fbb4872ea9cb0c977868885d811aca920ee4dad8d086e1f861fef432", func := "tryst/trystlaw07.DfaOthers", spec := "dfaOthers", inPlace := ["internal/bytealg.IndexByteString", "internal/bytealg.IndexString", "internal/bytealg.CountString"], unfollowed := true, recurses := true, named := ["internal/bytealg.MaxLen", "unicode/utf8.first", "unicode/utf8.acceptRanges", "math/bits.deBruijn64tab"], plainKeys := false, apart := false, laid := [("math/bits.deBruijn64tab", laid_math_bits_deBruijn64tab), ("unicode/utf8.acceptRanges", laid_unicode_utf8_acceptRanges), ("unicode/utf8.first", laid_unicode_utf8_first)], narrowed := true }
def DfaOthersUptoSaid : Prop := dfaOthersUptoRow.holds Tryd.pinned (OpenSpec.upto dfaOthersSpec)

end Rows
end Go.Proofs.YtjkldmepdenlfaaDoor
