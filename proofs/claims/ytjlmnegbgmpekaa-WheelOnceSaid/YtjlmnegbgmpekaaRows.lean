/-
  No cell of these rows narrows 'for every input' (looked for: loops, veiled, ifaces, maps, wideKeys, modest, calm, conditions, laid).
  DERIVED. THE GIVEN ROWS OF THIS SEAT. 17 by the template 'for every input the law returns true; each argument reads behind the call as it read before'; 0 by the template 'total and deterministic' (their statements: YtjlmnegbgmpekaaTotals.lean).
  GIVEN WITH THE SEED: the statements are not yours to turn. If you find one false, say at which input.
  Laid BY PROGRAM, IN A SANDBOX (cutbox-rows.mjs): the forced cells as the released guide's own fill.sh prints them over the translation b8f869d7e27a41d2… (all of the seat's roots in one cut). By AI agents, Wed Nov 11 2026. No macro, syntax, notation, axiom, sorry.
-/
import Derived.Test.YtjlmnegbgmpekaaChecked
import GoSem.Claim
import GoSem.ClaimJoined
import GoSem.ClaimMapViews
import Derived.JoinedTies
import Derived.KernelRfl
namespace Go.Proofs.Ytjlmnegbgmpekaa
/- THE CELL 'sum', in the pinned program and in every row, IS THE sha256 OF THE DUMP (.gsa) THAT YtjlmnegbgmpekaaProg.lean LOADS. Nothing in Lean hashes anything: it is a label: what it is worth is what the hold of that sum in a sandbox is worth. -/
noncomputable def Try.pinned : Pinned := { name := "ytjlmnegbgmpekaa", sum := "b8f869d7e27a41d2a2698969c468a2bd021be8a8290123052c25825523711c71", checked := Try.checked }
namespace Rows
def none {H : Type} : Left H := { results := [], args := [] }

/-- 'trystlaw15.OutboxTurns': WHATEVER THE INPUT: true; the input reads as it did. -/
def outboxTurnsSpec : ChangeSpec := { name := "outboxTurns", fn := fun _ => fun
  | [d1, d2, d3] => { results := [.lit (.bool true)], args := [d1, d2, d3] }
  | _ => none }
def outboxTurnsRow : OpenClaim := { program := "ytjlmnegbgmpekaa", sum := "b8f869d7e27a41d2a2698969c468a2bd021be8a8290123052c25825523711c71", func := "tryst/trystlaw15.OutboxTurns", spec := "outboxTurns", inPlace := ["internal/bytealg.IndexByteString", "internal/bytealg.IndexString"], unfollowed := true, recurses := true, named := ["internal/bytealg.MaxLen"], apart := false }
def OutboxTurnsSaid : Prop := outboxTurnsRow.holds Try.pinned (OpenSpec.ofChange outboxTurnsSpec)

/-- ITS FALSE NEIGHBOUR: 'it returns false'. Refute it at one input. -/
def outboxTurnsWrong : ChangeSpec := { name := "outboxTurns", fn := fun _ => fun
  | [d1, d2, d3] => { results := [.lit (.bool false)], args := [d1, d2, d3] }
  | _ => none }
def OutboxTurnsWrongFalsely : Prop := outboxTurnsRow.holds Try.pinned (OpenSpec.ofChange outboxTurnsWrong)

/-- 'trystlaw15.OutboxWaits': WHATEVER THE INPUT: true; the input reads as it did. -/
def outboxWaitsSpec : ChangeSpec := { name := "outboxWaits", fn := fun _ => fun
  | [d1, d2, d3] => { results := [.lit (.bool true)], args := [d1, d2, d3] }
  | _ => none }
def outboxWaitsRow : OpenClaim := { program := "ytjlmnegbgmpekaa", sum := "b8f869d7e27a41d2a2698969c468a2bd021be8a8290123052c25825523711c71", func := "tryst/trystlaw15.OutboxWaits", spec := "outboxWaits", inPlace := ["internal/bytealg.IndexByteString", "internal/bytealg.IndexString"], unfollowed := true, recurses := true, named := ["internal/bytealg.MaxLen"], apart := false }
def OutboxWaitsSaid : Prop := outboxWaitsRow.holds Try.pinned (OpenSpec.ofChange outboxWaitsSpec)

/-- ITS FALSE NEIGHBOUR: 'it returns false'. Refute it at one input. -/
def outboxWaitsWrong : ChangeSpec := { name := "outboxWaits", fn := fun _ => fun
  | [d1, d2, d3] => { results := [.lit (.bool false)], args := [d1, d2, d3] }
  | _ => none }
def OutboxWaitsWrongFalsely : Prop := outboxWaitsRow.holds Try.pinned (OpenSpec.ofChange outboxWaitsWrong)

/-- 'trystlaw15.OutboxTakes': WHATEVER THE INPUT: true; the input reads as it did. -/
def outboxTakesSpec : ChangeSpec := { name := "outboxTakes", fn := fun _ => fun
  | [d1, d2, d3] => { results := [.lit (.bool true)], args := [d1, d2, d3] }
  | _ => none }
def outboxTakesRow : OpenClaim := { program := "ytjlmnegbgmpekaa", sum := "b8f869d7e27a41d2a2698969c468a2bd021be8a8290123052c25825523711c71", func := "tryst/trystlaw15.OutboxTakes", spec := "outboxTakes", inPlace := ["internal/bytealg.IndexByteString", "internal/bytealg.IndexString"], unfollowed := true, recurses := true, named := ["internal/bytealg.MaxLen"], apart := false }
def OutboxTakesSaid : Prop := outboxTakesRow.holds Try.pinned (OpenSpec.ofChange outboxTakesSpec)

/-- ITS FALSE NEIGHBOUR: 'it returns false'. Refute it at one input. -/
def outboxTakesWrong : ChangeSpec := { name := "outboxTakes", fn := fun _ => fun
  | [d1, d2, d3] => { results := [.lit (.bool false)], args := [d1, d2, d3] }
  | _ => none }
def OutboxTakesWrongFalsely : Prop := outboxTakesRow.holds Try.pinned (OpenSpec.ofChange outboxTakesWrong)

/-- 'trystlaw15.OutboxKeeps': WHATEVER THE INPUT: true; the input reads as it did. -/
def outboxKeepsSpec : ChangeSpec := { name := "outboxKeeps", fn := fun _ => fun
  | [d1, d2] => { results := [.lit (.bool true)], args := [d1, d2] }
  | _ => none }
def outboxKeepsRow : OpenClaim := { program := "ytjlmnegbgmpekaa", sum := "b8f869d7e27a41d2a2698969c468a2bd021be8a8290123052c25825523711c71", func := "tryst/trystlaw15.OutboxKeeps", spec := "outboxKeeps", inPlace := ["internal/bytealg.IndexByteString", "internal/bytealg.IndexString"], unfollowed := true, recurses := true, named := ["internal/bytealg.MaxLen"], apart := false }
def OutboxKeepsSaid : Prop := outboxKeepsRow.holds Try.pinned (OpenSpec.ofChange outboxKeepsSpec)

/-- ITS FALSE NEIGHBOUR: 'it returns false'. Refute it at one input. -/
def outboxKeepsWrong : ChangeSpec := { name := "outboxKeeps", fn := fun _ => fun
  | [d1, d2] => { results := [.lit (.bool false)], args := [d1, d2] }
  | _ => none }
def OutboxKeepsWrongFalsely : Prop := outboxKeepsRow.holds Try.pinned (OpenSpec.ofChange outboxKeepsWrong)

/-- 'trystlaw13.DedupTakes': WHATEVER THE INPUT: true; the input reads as it did. -/
def dedupTakesSpec : ChangeSpec := { name := "dedupTakes", fn := fun _ => fun
  | [d1, d2] => { results := [.lit (.bool true)], args := [d1, d2] }
  | _ => none }
def dedupTakesRow : OpenClaim := { program := "ytjlmnegbgmpekaa", sum := "b8f869d7e27a41d2a2698969c468a2bd021be8a8290123052c25825523711c71", func := "tryst/trystlaw13.DedupTakes", spec := "dedupTakes", inPlace := ["internal/bytealg.IndexByteString", "internal/bytealg.IndexString", "slices.overlaps[tryst/api.Last]"], unfollowed := true, recurses := true, named := ["internal/bytealg.MaxLen"], apart := false }
def DedupTakesSaid : Prop := dedupTakesRow.holds Try.pinned (OpenSpec.ofChange dedupTakesSpec)

/-- ITS FALSE NEIGHBOUR: 'it returns false'. Refute it at one input. -/
def dedupTakesWrong : ChangeSpec := { name := "dedupTakes", fn := fun _ => fun
  | [d1, d2] => { results := [.lit (.bool false)], args := [d1, d2] }
  | _ => none }
def DedupTakesWrongFalsely : Prop := dedupTakesRow.holds Try.pinned (OpenSpec.ofChange dedupTakesWrong)

/-- 'trystlaw13.DedupOnce': WHATEVER THE INPUT: true; the input reads as it did. -/
def dedupOnceSpec : ChangeSpec := { name := "dedupOnce", fn := fun _ => fun
  | [d1, d2] => { results := [.lit (.bool true)], args := [d1, d2] }
  | _ => none }
def dedupOnceRow : OpenClaim := { program := "ytjlmnegbgmpekaa", sum := "b8f869d7e27a41d2a2698969c468a2bd021be8a8290123052c25825523711c71", func := "tryst/trystlaw13.DedupOnce", spec := "dedupOnce", inPlace := ["internal/bytealg.IndexByteString", "internal/bytealg.IndexString", "slices.overlaps[tryst/api.Last]"], unfollowed := true, recurses := true, named := ["internal/bytealg.MaxLen"], apart := false }
def DedupOnceSaid : Prop := dedupOnceRow.holds Try.pinned (OpenSpec.ofChange dedupOnceSpec)

/-- ITS FALSE NEIGHBOUR: 'it returns false'. Refute it at one input. -/
def dedupOnceWrong : ChangeSpec := { name := "dedupOnce", fn := fun _ => fun
  | [d1, d2] => { results := [.lit (.bool false)], args := [d1, d2] }
  | _ => none }
def DedupOnceWrongFalsely : Prop := dedupOnceRow.holds Try.pinned (OpenSpec.ofChange dedupOnceWrong)

/-- 'trystlaw13.DedupApart': WHATEVER THE INPUT: true; the input reads as it did. -/
def dedupApartSpec : ChangeSpec := { name := "dedupApart", fn := fun _ => fun
  | [d1, d2, d3] => { results := [.lit (.bool true)], args := [d1, d2, d3] }
  | _ => none }
def dedupApartRow : OpenClaim := { program := "ytjlmnegbgmpekaa", sum := "b8f869d7e27a41d2a2698969c468a2bd021be8a8290123052c25825523711c71", func := "tryst/trystlaw13.DedupApart", spec := "dedupApart", inPlace := ["internal/bytealg.IndexByteString", "internal/bytealg.IndexString", "slices.overlaps[tryst/api.Last]"], unfollowed := true, recurses := true, named := ["internal/bytealg.MaxLen"], apart := false }
def DedupApartSaid : Prop := dedupApartRow.holds Try.pinned (OpenSpec.ofChange dedupApartSpec)

/-- ITS FALSE NEIGHBOUR: 'it returns false'. Refute it at one input. -/
def dedupApartWrong : ChangeSpec := { name := "dedupApart", fn := fun _ => fun
  | [d1, d2, d3] => { results := [.lit (.bool false)], args := [d1, d2, d3] }
  | _ => none }
def DedupApartWrongFalsely : Prop := dedupApartRow.holds Try.pinned (OpenSpec.ofChange dedupApartWrong)

/-- 'trystlaw13.DedupNexts': WHATEVER THE INPUT: true; the input reads as it did. -/
def dedupNextsSpec : ChangeSpec := { name := "dedupNexts", fn := fun _ => fun
  | [d1, d2, d3] => { results := [.lit (.bool true)], args := [d1, d2, d3] }
  | _ => none }
def dedupNextsRow : OpenClaim := { program := "ytjlmnegbgmpekaa", sum := "b8f869d7e27a41d2a2698969c468a2bd021be8a8290123052c25825523711c71", func := "tryst/trystlaw13.DedupNexts", spec := "dedupNexts", inPlace := ["internal/bytealg.IndexByteString", "internal/bytealg.IndexString", "slices.overlaps[tryst/api.Last]"], unfollowed := true, recurses := true, named := ["internal/bytealg.MaxLen"], apart := false }
def DedupNextsSaid : Prop := dedupNextsRow.holds Try.pinned (OpenSpec.ofChange dedupNextsSpec)

/-- ITS FALSE NEIGHBOUR: 'it returns false'. Refute it at one input. -/
def dedupNextsWrong : ChangeSpec := { name := "dedupNexts", fn := fun _ => fun
  | [d1, d2, d3] => { results := [.lit (.bool false)], args := [d1, d2, d3] }
  | _ => none }
def DedupNextsWrongFalsely : Prop := dedupNextsRow.holds Try.pinned (OpenSpec.ofChange dedupNextsWrong)

/-- 'trystlaw13.DedupStays': WHATEVER THE INPUT: true; the input reads as it did. -/
def dedupStaysSpec : ChangeSpec := { name := "dedupStays", fn := fun _ => fun
  | [d1, d2] => { results := [.lit (.bool true)], args := [d1, d2] }
  | _ => none }
def dedupStaysRow : OpenClaim := { program := "ytjlmnegbgmpekaa", sum := "b8f869d7e27a41d2a2698969c468a2bd021be8a8290123052c25825523711c71", func := "tryst/trystlaw13.DedupStays", spec := "dedupStays", inPlace := ["internal/bytealg.IndexByteString", "internal/bytealg.IndexString", "slices.overlaps[tryst/api.Last]"], unfollowed := true, recurses := true, named := ["internal/bytealg.MaxLen"], apart := false }
def DedupStaysSaid : Prop := dedupStaysRow.holds Try.pinned (OpenSpec.ofChange dedupStaysSpec)

/-- ITS FALSE NEIGHBOUR: 'it returns false'. Refute it at one input. -/
def dedupStaysWrong : ChangeSpec := { name := "dedupStays", fn := fun _ => fun
  | [d1, d2] => { results := [.lit (.bool false)], args := [d1, d2] }
  | _ => none }
def DedupStaysWrongFalsely : Prop := dedupStaysRow.holds Try.pinned (OpenSpec.ofChange dedupStaysWrong)

/-- 'trystlaw15.OutboxBack': WHATEVER THE INPUT: true; the input reads as it did. -/
def outboxBackSpec : ChangeSpec := { name := "outboxBack", fn := fun _ => fun
  | [d1, d2, d3] => { results := [.lit (.bool true)], args := [d1, d2, d3] }
  | _ => none }
def outboxBackRow : OpenClaim := { program := "ytjlmnegbgmpekaa", sum := "b8f869d7e27a41d2a2698969c468a2bd021be8a8290123052c25825523711c71", func := "tryst/trystlaw15.OutboxBack", spec := "outboxBack", inPlace := ["internal/bytealg.IndexByteString", "internal/bytealg.IndexString", "slices.overlaps[tryst/api.Out]"], unfollowed := true, recurses := true, named := ["internal/bytealg.MaxLen"], apart := false }
def OutboxBackSaid : Prop := outboxBackRow.holds Try.pinned (OpenSpec.ofChange outboxBackSpec)

/-- ITS FALSE NEIGHBOUR: 'it returns false'. Refute it at one input. -/
def outboxBackWrong : ChangeSpec := { name := "outboxBack", fn := fun _ => fun
  | [d1, d2, d3] => { results := [.lit (.bool false)], args := [d1, d2, d3] }
  | _ => none }
def OutboxBackWrongFalsely : Prop := outboxBackRow.holds Try.pinned (OpenSpec.ofChange outboxBackWrong)

/-- 'trystlaw15.OutboxAdds': WHATEVER THE INPUT: true; the input reads as it did. -/
def outboxAddsSpec : ChangeSpec := { name := "outboxAdds", fn := fun _ => fun
  | [d1, d2, d3] => { results := [.lit (.bool true)], args := [d1, d2, d3] }
  | _ => none }
def outboxAddsRow : OpenClaim := { program := "ytjlmnegbgmpekaa", sum := "b8f869d7e27a41d2a2698969c468a2bd021be8a8290123052c25825523711c71", func := "tryst/trystlaw15.OutboxAdds", spec := "outboxAdds", inPlace := ["internal/bytealg.IndexByteString", "internal/bytealg.IndexString", "slices.overlaps[tryst/api.Out]"], unfollowed := true, recurses := true, named := ["internal/bytealg.MaxLen"], apart := false }
def OutboxAddsSaid : Prop := outboxAddsRow.holds Try.pinned (OpenSpec.ofChange outboxAddsSpec)

/-- ITS FALSE NEIGHBOUR: 'it returns false'. Refute it at one input. -/
def outboxAddsWrong : ChangeSpec := { name := "outboxAdds", fn := fun _ => fun
  | [d1, d2, d3] => { results := [.lit (.bool false)], args := [d1, d2, d3] }
  | _ => none }
def OutboxAddsWrongFalsely : Prop := outboxAddsRow.holds Try.pinned (OpenSpec.ofChange outboxAddsWrong)

/-- 'trystlaw11.WheelRings': WHATEVER THE INPUT: true; the input reads as it did. -/
def wheelRingsSpec : ChangeSpec := { name := "wheelRings", fn := fun _ => fun
  | [d1, d2] => { results := [.lit (.bool true)], args := [d1, d2] }
  | _ => none }
def wheelRingsRow : OpenClaim := { program := "ytjlmnegbgmpekaa", sum := "b8f869d7e27a41d2a2698969c468a2bd021be8a8290123052c25825523711c71", func := "tryst/trystlaw11.WheelRings", spec := "wheelRings", unfollowed := true, recurses := true, apart := false }
def WheelRingsSaid : Prop := wheelRingsRow.holds Try.pinned (OpenSpec.ofChange wheelRingsSpec)

/-- ITS FALSE NEIGHBOUR: 'it returns false'. Refute it at one input. -/
def wheelRingsWrong : ChangeSpec := { name := "wheelRings", fn := fun _ => fun
  | [d1, d2] => { results := [.lit (.bool false)], args := [d1, d2] }
  | _ => none }
def WheelRingsWrongFalsely : Prop := wheelRingsRow.holds Try.pinned (OpenSpec.ofChange wheelRingsWrong)

/-- 'trystlaw11.WheelGoes': WHATEVER THE INPUT: true; the input reads as it did. -/
def wheelGoesSpec : ChangeSpec := { name := "wheelGoes", fn := fun _ => fun
  | [d1, d2, d3] => { results := [.lit (.bool true)], args := [d1, d2, d3] }
  | _ => none }
def wheelGoesRow : OpenClaim := { program := "ytjlmnegbgmpekaa", sum := "b8f869d7e27a41d2a2698969c468a2bd021be8a8290123052c25825523711c71", func := "tryst/trystlaw11.WheelGoes", spec := "wheelGoes", unfollowed := true, recurses := true, apart := false }
def WheelGoesSaid : Prop := wheelGoesRow.holds Try.pinned (OpenSpec.ofChange wheelGoesSpec)

/-- ITS FALSE NEIGHBOUR: 'it returns false'. Refute it at one input. -/
def wheelGoesWrong : ChangeSpec := { name := "wheelGoes", fn := fun _ => fun
  | [d1, d2, d3] => { results := [.lit (.bool false)], args := [d1, d2, d3] }
  | _ => none }
def WheelGoesWrongFalsely : Prop := wheelGoesRow.holds Try.pinned (OpenSpec.ofChange wheelGoesWrong)

/-- 'trystlaw11.WheelOnce': WHATEVER THE INPUT: true; the input reads as it did. -/
def wheelOnceSpec : ChangeSpec := { name := "wheelOnce", fn := fun _ => fun
  | [d1, d2] => { results := [.lit (.bool true)], args := [d1, d2] }
  | _ => none }
def wheelOnceRow : OpenClaim := { program := "ytjlmnegbgmpekaa", sum := "b8f869d7e27a41d2a2698969c468a2bd021be8a8290123052c25825523711c71", func := "tryst/trystlaw11.WheelOnce", spec := "wheelOnce", unfollowed := true, recurses := true, apart := false }
def WheelOnceSaid : Prop := wheelOnceRow.holds Try.pinned (OpenSpec.ofChange wheelOnceSpec)

/-- ITS FALSE NEIGHBOUR: 'it returns false'. Refute it at one input. -/
def wheelOnceWrong : ChangeSpec := { name := "wheelOnce", fn := fun _ => fun
  | [d1, d2] => { results := [.lit (.bool false)], args := [d1, d2] }
  | _ => none }
def WheelOnceWrongFalsely : Prop := wheelOnceRow.holds Try.pinned (OpenSpec.ofChange wheelOnceWrong)

/-- 'trystlaw11.WheelAll': WHATEVER THE INPUT: true; the input reads as it did. -/
def wheelAllSpec : ChangeSpec := { name := "wheelAll", fn := fun _ => fun
  | [d] => { results := [.lit (.bool true)], args := [d] }
  | _ => none }
def wheelAllRow : OpenClaim := { program := "ytjlmnegbgmpekaa", sum := "b8f869d7e27a41d2a2698969c468a2bd021be8a8290123052c25825523711c71", func := "tryst/trystlaw11.WheelAll", spec := "wheelAll", unfollowed := true, recurses := true, apart := false }
def WheelAllSaid : Prop := wheelAllRow.holds Try.pinned (OpenSpec.ofChange wheelAllSpec)

/-- ITS FALSE NEIGHBOUR: 'it returns false'. Refute it at one input. -/
def wheelAllWrong : ChangeSpec := { name := "wheelAll", fn := fun _ => fun
  | [d] => { results := [.lit (.bool false)], args := [d] }
  | _ => none }
def WheelAllWrongFalsely : Prop := wheelAllRow.holds Try.pinned (OpenSpec.ofChange wheelAllWrong)

/-- 'trystlaw11.WheelTurns': WHATEVER THE INPUT: true; the input reads as it did. -/
def wheelTurnsSpec : ChangeSpec := { name := "wheelTurns", fn := fun _ => fun
  | [d1, d2, d3] => { results := [.lit (.bool true)], args := [d1, d2, d3] }
  | _ => none }
def wheelTurnsRow : OpenClaim := { program := "ytjlmnegbgmpekaa", sum := "b8f869d7e27a41d2a2698969c468a2bd021be8a8290123052c25825523711c71", func := "tryst/trystlaw11.WheelTurns", spec := "wheelTurns", unfollowed := true, recurses := true, apart := false }
def WheelTurnsSaid : Prop := wheelTurnsRow.holds Try.pinned (OpenSpec.ofChange wheelTurnsSpec)

/-- ITS FALSE NEIGHBOUR: 'it returns false'. Refute it at one input. -/
def wheelTurnsWrong : ChangeSpec := { name := "wheelTurns", fn := fun _ => fun
  | [d1, d2, d3] => { results := [.lit (.bool false)], args := [d1, d2, d3] }
  | _ => none }
def WheelTurnsWrongFalsely : Prop := wheelTurnsRow.holds Try.pinned (OpenSpec.ofChange wheelTurnsWrong)

/-- 'trystlaw11.WheelSets': WHATEVER THE INPUT: true; the input reads as it did. -/
def wheelSetsSpec : ChangeSpec := { name := "wheelSets", fn := fun _ => fun
  | [d1, d2, d3] => { results := [.lit (.bool true)], args := [d1, d2, d3] }
  | _ => none }
def wheelSetsRow : OpenClaim := { program := "ytjlmnegbgmpekaa", sum := "b8f869d7e27a41d2a2698969c468a2bd021be8a8290123052c25825523711c71", func := "tryst/trystlaw11.WheelSets", spec := "wheelSets", unfollowed := true, recurses := true, apart := false }
def WheelSetsSaid : Prop := wheelSetsRow.holds Try.pinned (OpenSpec.ofChange wheelSetsSpec)

/-- ITS FALSE NEIGHBOUR: 'it returns false'. Refute it at one input. -/
def wheelSetsWrong : ChangeSpec := { name := "wheelSets", fn := fun _ => fun
  | [d1, d2, d3] => { results := [.lit (.bool false)], args := [d1, d2, d3] }
  | _ => none }
def WheelSetsWrongFalsely : Prop := wheelSetsRow.holds Try.pinned (OpenSpec.ofChange wheelSetsWrong)

/- THE SECOND FORM. 'bulk': how many values and letters a reading holds, each counted each time it is reached (what is shared counts as often as it is met; a slice's spare places count too). A statement '..UptoSaid' is the law's where the arguments, and the package variables that the reading takes, are together of bulk at most 1048576: NARROWER than '..Said'. Prove '..Said' where nothing that the law and all that it calls make is longer than what came in: it says more and counts as full. Else prove '..UptoSaid'. A law counts once. -/
mutual
def uptoBulk {H : Type} : DataW H → Nat
  | .lit (.string bytes) => bytes.length + 1
  | .lit _ => 1
  | .nil => 1
  | .ptr d => uptoBulk d + 1
  | .slice elems spare => uptoBulkAll elems + uptoBulkAll spare + 1
  | .agg parts => uptoBulkAll parts + 1
  | .iface _ d => uptoBulk d + 1
  | .map entries => uptoBulkEntries entries + 1
  | .held _ => 1
def uptoBulkAll {H : Type} : List (DataW H) → Nat
  | [] => 0
  | d :: r => uptoBulk d + uptoBulkAll r
def uptoBulkEntries {H : Type} : List (Lit × DataW H) → Nat
  | [] => 0
  | x :: r => uptoBulkEntry x + uptoBulkEntries r
def uptoBulkEntry {H : Type} : Lit × DataW H → Nat
  | (.string bytes, d) => bytes.length + uptoBulk d + 1
  | (_, d) => uptoBulk d + 1
 end
def uptoSmall : (H : Type) → List (DataW H) → Bool := fun _ ds => decide (uptoBulkAll ds ≤ 1048576)
def OpenSpec.upto (s : _root_.Go.ChangeSpec) : _root_.Go.OpenSpec := { _root_.Go.OpenSpec.ofChange s with cond := some uptoSmall }

/-- 'trystlaw15.OutboxTurns', WHERE WHAT IT READS IS OF BULK AT MOST 1048576: true; the input reads as it did. -/
def outboxTurnsUptoRow : OpenClaim := { program := "ytjlmnegbgmpekaa", sum := "b8f869d7e27a41d2a2698969c468a2bd021be8a8290123052c25825523711c71", func := "tryst/trystlaw15.OutboxTurns", spec := "outboxTurns", inPlace := ["internal/bytealg.IndexByteString", "internal/bytealg.IndexString"], unfollowed := true, recurses := true, named := ["internal/bytealg.MaxLen"], apart := false, narrowed := true }
def OutboxTurnsUptoSaid : Prop := outboxTurnsUptoRow.holds Try.pinned (OpenSpec.upto outboxTurnsSpec)

/-- 'trystlaw15.OutboxWaits', WHERE WHAT IT READS IS OF BULK AT MOST 1048576: true; the input reads as it did. -/
def outboxWaitsUptoRow : OpenClaim := { program := "ytjlmnegbgmpekaa", sum := "b8f869d7e27a41d2a2698969c468a2bd021be8a8290123052c25825523711c71", func := "tryst/trystlaw15.OutboxWaits", spec := "outboxWaits", inPlace := ["internal/bytealg.IndexByteString", "internal/bytealg.IndexString"], unfollowed := true, recurses := true, named := ["internal/bytealg.MaxLen"], apart := false, narrowed := true }
def OutboxWaitsUptoSaid : Prop := outboxWaitsUptoRow.holds Try.pinned (OpenSpec.upto outboxWaitsSpec)

/-- 'trystlaw15.OutboxTakes', WHERE WHAT IT READS IS OF BULK AT MOST 1048576: true; the input reads as it did. -/
def outboxTakesUptoRow : OpenClaim := { program := "ytjlmnegbgmpekaa", sum := "b8f869d7e27a41d2a2698969c468a2bd021be8a8290123052c25825523711c71", func := "tryst/trystlaw15.OutboxTakes", spec := "outboxTakes", inPlace := ["internal/bytealg.IndexByteString", "internal/bytealg.IndexString"], unfollowed := true, recurses := true, named := ["internal/bytealg.MaxLen"], apart := false, narrowed := true }
def OutboxTakesUptoSaid : Prop := outboxTakesUptoRow.holds Try.pinned (OpenSpec.upto outboxTakesSpec)

/-- 'trystlaw15.OutboxKeeps', WHERE WHAT IT READS IS OF BULK AT MOST 1048576: true; the input reads as it did. -/
def outboxKeepsUptoRow : OpenClaim := { program := "ytjlmnegbgmpekaa", sum := "b8f869d7e27a41d2a2698969c468a2bd021be8a8290123052c25825523711c71", func := "tryst/trystlaw15.OutboxKeeps", spec := "outboxKeeps", inPlace := ["internal/bytealg.IndexByteString", "internal/bytealg.IndexString"], unfollowed := true, recurses := true, named := ["internal/bytealg.MaxLen"], apart := false, narrowed := true }
def OutboxKeepsUptoSaid : Prop := outboxKeepsUptoRow.holds Try.pinned (OpenSpec.upto outboxKeepsSpec)

/-- 'trystlaw13.DedupTakes', WHERE WHAT IT READS IS OF BULK AT MOST 1048576: true; the input reads as it did. -/
def dedupTakesUptoRow : OpenClaim := { program := "ytjlmnegbgmpekaa", sum := "b8f869d7e27a41d2a2698969c468a2bd021be8a8290123052c25825523711c71", func := "tryst/trystlaw13.DedupTakes", spec := "dedupTakes", inPlace := ["internal/bytealg.IndexByteString", "internal/bytealg.IndexString", "slices.overlaps[tryst/api.Last]"], unfollowed := true, recurses := true, named := ["internal/bytealg.MaxLen"], apart := false, narrowed := true }
def DedupTakesUptoSaid : Prop := dedupTakesUptoRow.holds Try.pinned (OpenSpec.upto dedupTakesSpec)

/-- 'trystlaw13.DedupOnce', WHERE WHAT IT READS IS OF BULK AT MOST 1048576: true; the input reads as it did. -/
def dedupOnceUptoRow : OpenClaim := { program := "ytjlmnegbgmpekaa", sum := "b8f869d7e27a41d2a2698969c468a2bd021be8a8290123052c25825523711c71", func := "tryst/trystlaw13.DedupOnce", spec := "dedupOnce", inPlace := ["internal/bytealg.IndexByteString", "internal/bytealg.IndexString", "slices.overlaps[tryst/api.Last]"], unfollowed := true, recurses := true, named := ["internal/bytealg.MaxLen"], apart := false, narrowed := true }
def DedupOnceUptoSaid : Prop := dedupOnceUptoRow.holds Try.pinned (OpenSpec.upto dedupOnceSpec)

/-- 'trystlaw13.DedupApart', WHERE WHAT IT READS IS OF BULK AT MOST 1048576: true; the input reads as it did. -/
def dedupApartUptoRow : OpenClaim := { program := "ytjlmnegbgmpekaa", sum := "b8f869d7e27a41d2a2698969c468a2bd021be8a8290123052c25825523711c71", func := "tryst/trystlaw13.DedupApart", spec := "dedupApart", inPlace := ["internal/bytealg.IndexByteString", "internal/bytealg.IndexString", "slices.overlaps[tryst/api.Last]"], unfollowed := true, recurses := true, named := ["internal/bytealg.MaxLen"], apart := false, narrowed := true }
def DedupApartUptoSaid : Prop := dedupApartUptoRow.holds Try.pinned (OpenSpec.upto dedupApartSpec)

/-- 'trystlaw13.DedupNexts', WHERE WHAT IT READS IS OF BULK AT MOST 1048576: true; the input reads as it did. -/
def dedupNextsUptoRow : OpenClaim := { program := "ytjlmnegbgmpekaa", sum := "b8f869d7e27a41d2a2698969c468a2bd021be8a8290123052c25825523711c71", func := "tryst/trystlaw13.DedupNexts", spec := "dedupNexts", inPlace := ["internal/bytealg.IndexByteString", "internal/bytealg.IndexString", "slices.overlaps[tryst/api.Last]"], unfollowed := true, recurses := true, named := ["internal/bytealg.MaxLen"], apart := false, narrowed := true }
def DedupNextsUptoSaid : Prop := dedupNextsUptoRow.holds Try.pinned (OpenSpec.upto dedupNextsSpec)

/-- 'trystlaw13.DedupStays', WHERE WHAT IT READS IS OF BULK AT MOST 1048576: true; the input reads as it did. -/
def dedupStaysUptoRow : OpenClaim := { program := "ytjlmnegbgmpekaa", sum := "b8f869d7e27a41d2a2698969c468a2bd021be8a8290123052c25825523711c71", func := "tryst/trystlaw13.DedupStays", spec := "dedupStays", inPlace := ["internal/bytealg.IndexByteString", "internal/bytealg.IndexString", "slices.overlaps[tryst/api.Last]"], unfollowed := true, recurses := true, named := ["internal/bytealg.MaxLen"], apart := false, narrowed := true }
def DedupStaysUptoSaid : Prop := dedupStaysUptoRow.holds Try.pinned (OpenSpec.upto dedupStaysSpec)

/-- 'trystlaw15.OutboxBack', WHERE WHAT IT READS IS OF BULK AT MOST 1048576: true; the input reads as it did. -/
def outboxBackUptoRow : OpenClaim := { program := "ytjlmnegbgmpekaa", sum := "b8f869d7e27a41d2a2698969c468a2bd021be8a8290123052c25825523711c71", func := "tryst/trystlaw15.OutboxBack", spec := "outboxBack", inPlace := ["internal/bytealg.IndexByteString", "internal/bytealg.IndexString", "slices.overlaps[tryst/api.Out]"], unfollowed := true, recurses := true, named := ["internal/bytealg.MaxLen"], apart := false, narrowed := true }
def OutboxBackUptoSaid : Prop := outboxBackUptoRow.holds Try.pinned (OpenSpec.upto outboxBackSpec)

/-- 'trystlaw15.OutboxAdds', WHERE WHAT IT READS IS OF BULK AT MOST 1048576: true; the input reads as it did. -/
def outboxAddsUptoRow : OpenClaim := { program := "ytjlmnegbgmpekaa", sum := "b8f869d7e27a41d2a2698969c468a2bd021be8a8290123052c25825523711c71", func := "tryst/trystlaw15.OutboxAdds", spec := "outboxAdds", inPlace := ["internal/bytealg.IndexByteString", "internal/bytealg.IndexString", "slices.overlaps[tryst/api.Out]"], unfollowed := true, recurses := true, named := ["internal/bytealg.MaxLen"], apart := false, narrowed := true }
def OutboxAddsUptoSaid : Prop := outboxAddsUptoRow.holds Try.pinned (OpenSpec.upto outboxAddsSpec)

/-- 'trystlaw11.WheelRings', WHERE WHAT IT READS IS OF BULK AT MOST 1048576: true; the input reads as it did. -/
def wheelRingsUptoRow : OpenClaim := { program := "ytjlmnegbgmpekaa", sum := "b8f869d7e27a41d2a2698969c468a2bd021be8a8290123052c25825523711c71", func := "tryst/trystlaw11.WheelRings", spec := "wheelRings", unfollowed := true, recurses := true, apart := false, narrowed := true }
def WheelRingsUptoSaid : Prop := wheelRingsUptoRow.holds Try.pinned (OpenSpec.upto wheelRingsSpec)

/-- 'trystlaw11.WheelGoes', WHERE WHAT IT READS IS OF BULK AT MOST 1048576: true; the input reads as it did. -/
def wheelGoesUptoRow : OpenClaim := { program := "ytjlmnegbgmpekaa", sum := "b8f869d7e27a41d2a2698969c468a2bd021be8a8290123052c25825523711c71", func := "tryst/trystlaw11.WheelGoes", spec := "wheelGoes", unfollowed := true, recurses := true, apart := false, narrowed := true }
def WheelGoesUptoSaid : Prop := wheelGoesUptoRow.holds Try.pinned (OpenSpec.upto wheelGoesSpec)

/-- 'trystlaw11.WheelOnce', WHERE WHAT IT READS IS OF BULK AT MOST 1048576: true; the input reads as it did. -/
def wheelOnceUptoRow : OpenClaim := { program := "ytjlmnegbgmpekaa", sum := "b8f869d7e27a41d2a2698969c468a2bd021be8a8290123052c25825523711c71", func := "tryst/trystlaw11.WheelOnce", spec := "wheelOnce", unfollowed := true, recurses := true, apart := false, narrowed := true }
def WheelOnceUptoSaid : Prop := wheelOnceUptoRow.holds Try.pinned (OpenSpec.upto wheelOnceSpec)

/-- 'trystlaw11.WheelAll', WHERE WHAT IT READS IS OF BULK AT MOST 1048576: true; the input reads as it did. -/
def wheelAllUptoRow : OpenClaim := { program := "ytjlmnegbgmpekaa", sum := "b8f869d7e27a41d2a2698969c468a2bd021be8a8290123052c25825523711c71", func := "tryst/trystlaw11.WheelAll", spec := "wheelAll", unfollowed := true, recurses := true, apart := false, narrowed := true }
def WheelAllUptoSaid : Prop := wheelAllUptoRow.holds Try.pinned (OpenSpec.upto wheelAllSpec)

/-- 'trystlaw11.WheelTurns', WHERE WHAT IT READS IS OF BULK AT MOST 1048576: true; the input reads as it did. -/
def wheelTurnsUptoRow : OpenClaim := { program := "ytjlmnegbgmpekaa", sum := "b8f869d7e27a41d2a2698969c468a2bd021be8a8290123052c25825523711c71", func := "tryst/trystlaw11.WheelTurns", spec := "wheelTurns", unfollowed := true, recurses := true, apart := false, narrowed := true }
def WheelTurnsUptoSaid : Prop := wheelTurnsUptoRow.holds Try.pinned (OpenSpec.upto wheelTurnsSpec)

/-- 'trystlaw11.WheelSets', WHERE WHAT IT READS IS OF BULK AT MOST 1048576: true; the input reads as it did. -/
def wheelSetsUptoRow : OpenClaim := { program := "ytjlmnegbgmpekaa", sum := "b8f869d7e27a41d2a2698969c468a2bd021be8a8290123052c25825523711c71", func := "tryst/trystlaw11.WheelSets", spec := "wheelSets", unfollowed := true, recurses := true, apart := false, narrowed := true }
def WheelSetsUptoSaid : Prop := wheelSetsUptoRow.holds Try.pinned (OpenSpec.upto wheelSetsSpec)

end Rows
end Go.Proofs.Ytjlmnegbgmpekaa
