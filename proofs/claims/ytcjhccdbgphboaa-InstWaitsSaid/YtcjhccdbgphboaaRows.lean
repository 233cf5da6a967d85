/-
  No cell of these rows narrows 'for every input' (looked for: loops, veiled, ifaces, maps, wideKeys, modest, calm, conditions, laid).
  DERIVED. THE GIVEN ROWS OF THIS SEAT. 14 by the template 'for every input the law returns true; each argument reads behind the call as it read before'; 0 by the template 'total and deterministic' (their statements: YtcjhccdbgphboaaTotals.lean).
  GIVEN WITH THE SEED: the statements are not yours to turn. If you find one false, say at which input.
  Laid BY PROGRAM, IN A SANDBOX (cutbox-rows.mjs): the forced cells as the released guide's own fill.sh prints them over the translation f864d9df751bf6c5… (all of the seat's roots in one cut). By AI agents, Wed Nov 11 2026. No macro, syntax, notation, axiom, sorry.
-/
import Derived.Test.YtcjhccdbgphboaaChecked
import GoSem.Claim
import GoSem.ClaimJoined
import GoSem.ClaimMapViews
import Derived.JoinedTies
import Derived.KernelRfl
namespace Go.Proofs.Ytcjhccdbgphboaa
/- THE CELL 'sum', in the pinned program and in every row, IS THE sha256 OF THE DUMP (.gsa) THAT YtcjhccdbgphboaaProg.lean LOADS. Nothing in Lean hashes anything: it is a label: what it is worth is what the hold of that sum in a sandbox is worth. -/
noncomputable def Try.pinned : Pinned := { name := "ytcjhccdbgphboaa", sum := "f864d9df751bf6c53b9b8d5442af33c20e2051becf0b5a4d27c05425296d8f36", checked := Try.checked }
namespace Rows
def none {H : Type} : Left H := { results := [], args := [] }

/-- 'trystlaw09.JoinFeeds': WHATEVER THE INPUT: true; the input reads as it did. -/
def joinFeedsSpec : ChangeSpec := { name := "joinFeeds", fn := fun _ => fun
  | [d1, d2, d3] => { results := [.lit (.bool true)], args := [d1, d2, d3] }
  | _ => none }
def joinFeedsRow : OpenClaim := { program := "ytcjhccdbgphboaa", sum := "f864d9df751bf6c53b9b8d5442af33c20e2051becf0b5a4d27c05425296d8f36", func := "tryst/trystlaw09.JoinFeeds", spec := "joinFeeds", unfollowed := true, recurses := true, apart := false }
def JoinFeedsSaid : Prop := joinFeedsRow.holds Try.pinned (OpenSpec.ofChange joinFeedsSpec)

/-- ITS FALSE NEIGHBOUR: 'it returns false'. Refute it at one input. -/
def joinFeedsWrong : ChangeSpec := { name := "joinFeeds", fn := fun _ => fun
  | [d1, d2, d3] => { results := [.lit (.bool false)], args := [d1, d2, d3] }
  | _ => none }
def JoinFeedsWrongFalsely : Prop := joinFeedsRow.holds Try.pinned (OpenSpec.ofChange joinFeedsWrong)

/-- 'trystlaw09.JoinExpires': WHATEVER THE INPUT: true; the input reads as it did. -/
def joinExpiresSpec : ChangeSpec := { name := "joinExpires", fn := fun _ => fun
  | [d1, d2, d3] => { results := [.lit (.bool true)], args := [d1, d2, d3] }
  | _ => none }
def joinExpiresRow : OpenClaim := { program := "ytcjhccdbgphboaa", sum := "f864d9df751bf6c53b9b8d5442af33c20e2051becf0b5a4d27c05425296d8f36", func := "tryst/trystlaw09.JoinExpires", spec := "joinExpires", unfollowed := true, recurses := true, apart := false }
def JoinExpiresSaid : Prop := joinExpiresRow.holds Try.pinned (OpenSpec.ofChange joinExpiresSpec)

/-- ITS FALSE NEIGHBOUR: 'it returns false'. Refute it at one input. -/
def joinExpiresWrong : ChangeSpec := { name := "joinExpires", fn := fun _ => fun
  | [d1, d2, d3] => { results := [.lit (.bool false)], args := [d1, d2, d3] }
  | _ => none }
def JoinExpiresWrongFalsely : Prop := joinExpiresRow.holds Try.pinned (OpenSpec.ofChange joinExpiresWrong)

/-- 'trystlaw09.JoinOnce': WHATEVER THE INPUT: true; the input reads as it did. -/
def joinOnceSpec : ChangeSpec := { name := "joinOnce", fn := fun _ => fun
  | [d1, d2] => { results := [.lit (.bool true)], args := [d1, d2] }
  | _ => none }
def joinOnceRow : OpenClaim := { program := "ytcjhccdbgphboaa", sum := "f864d9df751bf6c53b9b8d5442af33c20e2051becf0b5a4d27c05425296d8f36", func := "tryst/trystlaw09.JoinOnce", spec := "joinOnce", unfollowed := true, recurses := true, apart := false }
def JoinOnceSaid : Prop := joinOnceRow.holds Try.pinned (OpenSpec.ofChange joinOnceSpec)

/-- ITS FALSE NEIGHBOUR: 'it returns false'. Refute it at one input. -/
def joinOnceWrong : ChangeSpec := { name := "joinOnce", fn := fun _ => fun
  | [d1, d2] => { results := [.lit (.bool false)], args := [d1, d2] }
  | _ => none }
def JoinOnceWrongFalsely : Prop := joinOnceRow.holds Try.pinned (OpenSpec.ofChange joinOnceWrong)

/-- 'trystlaw09.JoinWaits': WHATEVER THE INPUT: true; the input reads as it did. -/
def joinWaitsSpec : ChangeSpec := { name := "joinWaits", fn := fun _ => fun
  | [d1, d2, d3] => { results := [.lit (.bool true)], args := [d1, d2, d3] }
  | _ => none }
def joinWaitsRow : OpenClaim := { program := "ytcjhccdbgphboaa", sum := "f864d9df751bf6c53b9b8d5442af33c20e2051becf0b5a4d27c05425296d8f36", func := "tryst/trystlaw09.JoinWaits", spec := "joinWaits", unfollowed := true, recurses := true, apart := false }
def JoinWaitsSaid : Prop := joinWaitsRow.holds Try.pinned (OpenSpec.ofChange joinWaitsSpec)

/-- ITS FALSE NEIGHBOUR: 'it returns false'. Refute it at one input. -/
def joinWaitsWrong : ChangeSpec := { name := "joinWaits", fn := fun _ => fun
  | [d1, d2, d3] => { results := [.lit (.bool false)], args := [d1, d2, d3] }
  | _ => none }
def JoinWaitsWrongFalsely : Prop := joinWaitsRow.holds Try.pinned (OpenSpec.ofChange joinWaitsWrong)

/-- 'trystlaw09.JoinLate': WHATEVER THE INPUT: true; the input reads as it did. -/
def joinLateSpec : ChangeSpec := { name := "joinLate", fn := fun _ => fun
  | [d1, d2, d3] => { results := [.lit (.bool true)], args := [d1, d2, d3] }
  | _ => none }
def joinLateRow : OpenClaim := { program := "ytcjhccdbgphboaa", sum := "f864d9df751bf6c53b9b8d5442af33c20e2051becf0b5a4d27c05425296d8f36", func := "tryst/trystlaw09.JoinLate", spec := "joinLate", unfollowed := true, recurses := true, apart := false }
def JoinLateSaid : Prop := joinLateRow.holds Try.pinned (OpenSpec.ofChange joinLateSpec)

/-- ITS FALSE NEIGHBOUR: 'it returns false'. Refute it at one input. -/
def joinLateWrong : ChangeSpec := { name := "joinLate", fn := fun _ => fun
  | [d1, d2, d3] => { results := [.lit (.bool false)], args := [d1, d2, d3] }
  | _ => none }
def JoinLateWrongFalsely : Prop := joinLateRow.holds Try.pinned (OpenSpec.ofChange joinLateWrong)

/-- 'trystlaw09.JoinAll': WHATEVER THE INPUT: true; the input reads as it did. -/
def joinAllSpec : ChangeSpec := { name := "joinAll", fn := fun _ => fun
  | [d1, d2, d3] => { results := [.lit (.bool true)], args := [d1, d2, d3] }
  | _ => none }
def joinAllRow : OpenClaim := { program := "ytcjhccdbgphboaa", sum := "f864d9df751bf6c53b9b8d5442af33c20e2051becf0b5a4d27c05425296d8f36", func := "tryst/trystlaw09.JoinAll", spec := "joinAll", unfollowed := true, recurses := true, apart := false }
def JoinAllSaid : Prop := joinAllRow.holds Try.pinned (OpenSpec.ofChange joinAllSpec)

/-- ITS FALSE NEIGHBOUR: 'it returns false'. Refute it at one input. -/
def joinAllWrong : ChangeSpec := { name := "joinAll", fn := fun _ => fun
  | [d1, d2, d3] => { results := [.lit (.bool false)], args := [d1, d2, d3] }
  | _ => none }
def JoinAllWrongFalsely : Prop := joinAllRow.holds Try.pinned (OpenSpec.ofChange joinAllWrong)

/-- 'trystlaw09.JoinBound': WHATEVER THE INPUT: true; the input reads as it did. -/
def joinBoundSpec : ChangeSpec := { name := "joinBound", fn := fun _ => fun
  | [d1, d2] => { results := [.lit (.bool true)], args := [d1, d2] }
  | _ => none }
def joinBoundRow : OpenClaim := { program := "ytcjhccdbgphboaa", sum := "f864d9df751bf6c53b9b8d5442af33c20e2051becf0b5a4d27c05425296d8f36", func := "tryst/trystlaw09.JoinBound", spec := "joinBound", unfollowed := true, recurses := true, apart := false }
def JoinBoundSaid : Prop := joinBoundRow.holds Try.pinned (OpenSpec.ofChange joinBoundSpec)

/-- ITS FALSE NEIGHBOUR: 'it returns false'. Refute it at one input. -/
def joinBoundWrong : ChangeSpec := { name := "joinBound", fn := fun _ => fun
  | [d1, d2] => { results := [.lit (.bool false)], args := [d1, d2] }
  | _ => none }
def JoinBoundWrongFalsely : Prop := joinBoundRow.holds Try.pinned (OpenSpec.ofChange joinBoundWrong)

/-- 'trystlaw09.JoinAny': WHATEVER THE INPUT: true; the input reads as it did. -/
def joinAnySpec : ChangeSpec := { name := "joinAny", fn := fun _ => fun
  | [d1, d2] => { results := [.lit (.bool true)], args := [d1, d2] }
  | _ => none }
def joinAnyRow : OpenClaim := { program := "ytcjhccdbgphboaa", sum := "f864d9df751bf6c53b9b8d5442af33c20e2051becf0b5a4d27c05425296d8f36", func := "tryst/trystlaw09.JoinAny", spec := "joinAny", unfollowed := true, recurses := true, apart := false }
def JoinAnySaid : Prop := joinAnyRow.holds Try.pinned (OpenSpec.ofChange joinAnySpec)

/-- ITS FALSE NEIGHBOUR: 'it returns false'. Refute it at one input. -/
def joinAnyWrong : ChangeSpec := { name := "joinAny", fn := fun _ => fun
  | [d1, d2] => { results := [.lit (.bool false)], args := [d1, d2] }
  | _ => none }
def JoinAnyWrongFalsely : Prop := joinAnyRow.holds Try.pinned (OpenSpec.ofChange joinAnyWrong)

/-- 'trystlaw10.InstOne': WHATEVER THE INPUT: true; the input reads as it did. -/
def instOneSpec : ChangeSpec := { name := "instOne", fn := fun _ => fun
  | [d1, d2, d3] => { results := [.lit (.bool true)], args := [d1, d2, d3] }
  | _ => none }
def instOneRow : OpenClaim := { program := "ytcjhccdbgphboaa", sum := "f864d9df751bf6c53b9b8d5442af33c20e2051becf0b5a4d27c05425296d8f36", func := "tryst/trystlaw10.InstOne", spec := "instOne", inPlace := ["internal/bytealg.abigen_runtime_cmpstring"], unfollowed := true, recurses := true, apart := false }
def InstOneSaid : Prop := instOneRow.holds Try.pinned (OpenSpec.ofChange instOneSpec)

/-- ITS FALSE NEIGHBOUR: 'it returns false'. Refute it at one input. -/
def instOneWrong : ChangeSpec := { name := "instOne", fn := fun _ => fun
  | [d1, d2, d3] => { results := [.lit (.bool false)], args := [d1, d2, d3] }
  | _ => none }
def InstOneWrongFalsely : Prop := instOneRow.holds Try.pinned (OpenSpec.ofChange instOneWrong)

/-- 'trystlaw10.InstTurns': WHATEVER THE INPUT: true; the input reads as it did. -/
def instTurnsSpec : ChangeSpec := { name := "instTurns", fn := fun _ => fun
  | [d1, d2, d3] => { results := [.lit (.bool true)], args := [d1, d2, d3] }
  | _ => none }
def instTurnsRow : OpenClaim := { program := "ytcjhccdbgphboaa", sum := "f864d9df751bf6c53b9b8d5442af33c20e2051becf0b5a4d27c05425296d8f36", func := "tryst/trystlaw10.InstTurns", spec := "instTurns", inPlace := ["internal/bytealg.abigen_runtime_cmpstring"], unfollowed := true, recurses := true, apart := false }
def InstTurnsSaid : Prop := instTurnsRow.holds Try.pinned (OpenSpec.ofChange instTurnsSpec)

/-- ITS FALSE NEIGHBOUR: 'it returns false'. Refute it at one input. -/
def instTurnsWrong : ChangeSpec := { name := "instTurns", fn := fun _ => fun
  | [d1, d2, d3] => { results := [.lit (.bool false)], args := [d1, d2, d3] }
  | _ => none }
def InstTurnsWrongFalsely : Prop := instTurnsRow.holds Try.pinned (OpenSpec.ofChange instTurnsWrong)

/-- 'trystlaw10.InstFeeds': WHATEVER THE INPUT: true; the input reads as it did. -/
def instFeedsSpec : ChangeSpec := { name := "instFeeds", fn := fun _ => fun
  | [d] => { results := [.lit (.bool true)], args := [d] }
  | _ => none }
def instFeedsRow : OpenClaim := { program := "ytcjhccdbgphboaa", sum := "f864d9df751bf6c53b9b8d5442af33c20e2051becf0b5a4d27c05425296d8f36", func := "tryst/trystlaw10.InstFeeds", spec := "instFeeds", inPlace := ["internal/bytealg.abigen_runtime_cmpstring"], unfollowed := true, recurses := true, apart := false }
def InstFeedsSaid : Prop := instFeedsRow.holds Try.pinned (OpenSpec.ofChange instFeedsSpec)

/-- ITS FALSE NEIGHBOUR: 'it returns false'. Refute it at one input. -/
def instFeedsWrong : ChangeSpec := { name := "instFeeds", fn := fun _ => fun
  | [d] => { results := [.lit (.bool false)], args := [d] }
  | _ => none }
def InstFeedsWrongFalsely : Prop := instFeedsRow.holds Try.pinned (OpenSpec.ofChange instFeedsWrong)

/-- 'trystlaw10.InstStays': WHATEVER THE INPUT: true; the input reads as it did. -/
def instStaysSpec : ChangeSpec := { name := "instStays", fn := fun _ => fun
  | [d1, d2, d3] => { results := [.lit (.bool true)], args := [d1, d2, d3] }
  | _ => none }
def instStaysRow : OpenClaim := { program := "ytcjhccdbgphboaa", sum := "f864d9df751bf6c53b9b8d5442af33c20e2051becf0b5a4d27c05425296d8f36", func := "tryst/trystlaw10.InstStays", spec := "instStays", inPlace := ["internal/bytealg.abigen_runtime_cmpstring"], unfollowed := true, recurses := true, apart := false }
def InstStaysSaid : Prop := instStaysRow.holds Try.pinned (OpenSpec.ofChange instStaysSpec)

/-- ITS FALSE NEIGHBOUR: 'it returns false'. Refute it at one input. -/
def instStaysWrong : ChangeSpec := { name := "instStays", fn := fun _ => fun
  | [d1, d2, d3] => { results := [.lit (.bool false)], args := [d1, d2, d3] }
  | _ => none }
def InstStaysWrongFalsely : Prop := instStaysRow.holds Try.pinned (OpenSpec.ofChange instStaysWrong)

/-- 'trystlaw10.InstExpires': WHATEVER THE INPUT: true; the input reads as it did. -/
def instExpiresSpec : ChangeSpec := { name := "instExpires", fn := fun _ => fun
  | [d] => { results := [.lit (.bool true)], args := [d] }
  | _ => none }
def instExpiresRow : OpenClaim := { program := "ytcjhccdbgphboaa", sum := "f864d9df751bf6c53b9b8d5442af33c20e2051becf0b5a4d27c05425296d8f36", func := "tryst/trystlaw10.InstExpires", spec := "instExpires", inPlace := ["internal/bytealg.abigen_runtime_cmpstring"], unfollowed := true, recurses := true, apart := false }
def InstExpiresSaid : Prop := instExpiresRow.holds Try.pinned (OpenSpec.ofChange instExpiresSpec)

/-- ITS FALSE NEIGHBOUR: 'it returns false'. Refute it at one input. -/
def instExpiresWrong : ChangeSpec := { name := "instExpires", fn := fun _ => fun
  | [d] => { results := [.lit (.bool false)], args := [d] }
  | _ => none }
def InstExpiresWrongFalsely : Prop := instExpiresRow.holds Try.pinned (OpenSpec.ofChange instExpiresWrong)

/-- 'trystlaw10.InstWaits': WHATEVER THE INPUT: true; the input reads as it did. -/
def instWaitsSpec : ChangeSpec := { name := "instWaits", fn := fun _ => fun
  | [d] => { results := [.lit (.bool true)], args := [d] }
  | _ => none }
def instWaitsRow : OpenClaim := { program := "ytcjhccdbgphboaa", sum := "f864d9df751bf6c53b9b8d5442af33c20e2051becf0b5a4d27c05425296d8f36", func := "tryst/trystlaw10.InstWaits", spec := "instWaits", inPlace := ["internal/bytealg.abigen_runtime_cmpstring"], unfollowed := true, recurses := true, apart := false }
def InstWaitsSaid : Prop := instWaitsRow.holds Try.pinned (OpenSpec.ofChange instWaitsSpec)

/-- ITS FALSE NEIGHBOUR: 'it returns false'. Refute it at one input. -/
def instWaitsWrong : ChangeSpec := { name := "instWaits", fn := fun _ => fun
  | [d] => { results := [.lit (.bool false)], args := [d] }
  | _ => none }
def InstWaitsWrongFalsely : Prop := instWaitsRow.holds Try.pinned (OpenSpec.ofChange instWaitsWrong)

/- THE SECOND FORM. 'bulk': how many values and letters a reading holds, each counted each time it is reached (what is shared counts as often as it is met; a slice's spare places count too). A statement '..UptoSaid' is the law's where the arguments, and the package variables that the reading takes, are together of bulk at most 1048576: NARROWER than '..Said'. Prove '..Said' where nothing that the law and all that it calls make is longer than what came in: it says more and counts as full. Else prove '..UptoSaid'. A law counts once. -/
mutual
def uptoBulk {H : Type} : DataW H → Nat
  | .lit (.string bytes) => bytes.length + 1
  | .lit _ => 1
  | .nil => 1
  | .ptr d => uptoBulk d + 1
  | .slice elems spare => uptoBulkAll elems + uptoBulkAll spare + 1
  | .agg parts => uptoBulkAll parts + 1
  | .iface _ d => uptoBulk d + 1
  | .map entries => uptoBulkEntries entries + 1
  | .held _ => 1
def uptoBulkAll {H : Type} : List (DataW H) → Nat
  | [] => 0
  | d :: r => uptoBulk d + uptoBulkAll r
def uptoBulkEntries {H : Type} : List (Lit × DataW H) → Nat
  | [] => 0
  | x :: r => uptoBulkEntry x + uptoBulkEntries r
def uptoBulkEntry {H : Type} : Lit × DataW H → Nat
  | (.string bytes, d) => bytes.length + uptoBulk d + 1
  | (_, d) => uptoBulk d + 1
 end
def uptoSmall : (H : Type) → List (DataW H) → Bool := fun _ ds => decide (uptoBulkAll ds ≤ 1048576)
def OpenSpec.upto (s : _root_.Go.ChangeSpec) : _root_.Go.OpenSpec := { _root_.Go.OpenSpec.ofChange s with cond := some uptoSmall }

/-- 'trystlaw09.JoinFeeds', WHERE WHAT IT READS IS OF BULK AT MOST 1048576: true; the input reads as it did. -/
def joinFeedsUptoRow : OpenClaim := { program := "ytcjhccdbgphboaa", sum := "f864d9df751bf6c53b9b8d5442af33c20e2051becf0b5a4d27c05425296d8f36", func := "tryst/trystlaw09.JoinFeeds", spec := "joinFeeds", unfollowed := true, recurses := true, apart := false, narrowed := true }
def JoinFeedsUptoSaid : Prop := joinFeedsUptoRow.holds Try.pinned (OpenSpec.upto joinFeedsSpec)

/-- 'trystlaw09.JoinExpires', WHERE WHAT IT READS IS OF BULK AT MOST 1048576: true; the input reads as it did. -/
def joinExpiresUptoRow : OpenClaim := { program := "ytcjhccdbgphboaa", sum := "f864d9df751bf6c53b9b8d5442af33c20e2051becf0b5a4d27c05425296d8f36", func := "tryst/trystlaw09.JoinExpires", spec := "joinExpires", unfollowed := true, recurses := true, apart := false, narrowed := true }
def JoinExpiresUptoSaid : Prop := joinExpiresUptoRow.holds Try.pinned (OpenSpec.upto joinExpiresSpec)

/-- 'trystlaw09.JoinOnce', WHERE WHAT IT READS IS OF BULK AT MOST 1048576: true; the input reads as it did. -/
def joinOnceUptoRow : OpenClaim := { program := "ytcjhccdbgphboaa", sum := "f864d9df751bf6c53b9b8d5442af33c20e2051becf0b5a4d27c05425296d8f36", func := "tryst/trystlaw09.JoinOnce", spec := "joinOnce", unfollowed := true, recurses := true, apart := false, narrowed := true }
def JoinOnceUptoSaid : Prop := joinOnceUptoRow.holds Try.pinned (OpenSpec.upto joinOnceSpec)

/-- 'trystlaw09.JoinWaits', WHERE WHAT IT READS IS OF BULK AT MOST 1048576: true; the input reads as it did. -/
def joinWaitsUptoRow : OpenClaim := { program := "ytcjhccdbgphboaa", sum := "f864d9df751bf6c53b9b8d5442af33c20e2051becf0b5a4d27c05425296d8f36", func := "tryst/trystlaw09.JoinWaits", spec := "joinWaits", unfollowed := true, recurses := true, apart := false, narrowed := true }
def JoinWaitsUptoSaid : Prop := joinWaitsUptoRow.holds Try.pinned (OpenSpec.upto joinWaitsSpec)

/-- 'trystlaw09.JoinLate', WHERE WHAT IT READS IS OF BULK AT MOST 1048576: true; the input reads as it did. -/
def joinLateUptoRow : OpenClaim := { program := "ytcjhccdbgphboaa", sum := "f864d9df751bf6c53b9b8d5442af33c20e2051becf0b5a4d27c05425296d8f36", func := "tryst/trystlaw09.JoinLate", spec := "joinLate", unfollowed := true, recurses := true, apart := false, narrowed := true }
def JoinLateUptoSaid : Prop := joinLateUptoRow.holds Try.pinned (OpenSpec.upto joinLateSpec)

/-- 'trystlaw09.JoinAll', WHERE WHAT IT READS IS OF BULK AT MOST 1048576: true; the input reads as it did. -/
def joinAllUptoRow : OpenClaim := { program := "ytcjhccdbgphboaa", sum := "f864d9df751bf6c53b9b8d5442af33c20e2051becf0b5a4d27c05425296d8f36", func := "tryst/trystlaw09.JoinAll", spec := "joinAll", unfollowed := true, recurses := true, apart := false, narrowed := true }
def JoinAllUptoSaid : Prop := joinAllUptoRow.holds Try.pinned (OpenSpec.upto joinAllSpec)

/-- 'trystlaw09.JoinBound', WHERE WHAT IT READS IS OF BULK AT MOST 1048576: true; the input reads as it did. -/
def joinBoundUptoRow : OpenClaim := { program := "ytcjhccdbgphboaa", sum := "f864d9df751bf6c53b9b8d5442af33c20e2051becf0b5a4d27c05425296d8f36", func := "tryst/trystlaw09.JoinBound", spec := "joinBound", unfollowed := true, recurses := true, apart := false, narrowed := true }
def JoinBoundUptoSaid : Prop := joinBoundUptoRow.holds Try.pinned (OpenSpec.upto joinBoundSpec)

/-- 'trystlaw09.JoinAny', WHERE WHAT IT READS IS OF BULK AT MOST 1048576: true; the input reads as it did. -/
def joinAnyUptoRow : OpenClaim := { program := "ytcjhccdbgphboaa", sum := "f864d9df751bf6c53b9b8d5442af33c20e2051becf0b5a4d27c05425296d8f36", func := "tryst/trystlaw09.JoinAny", spec := "joinAny", unfollowed := true, recurses := true, apart := false, narrowed := true }
def JoinAnyUptoSaid : Prop := joinAnyUptoRow.holds Try.pinned (OpenSpec.upto joinAnySpec)

/-- 'trystlaw10.InstOne', WHERE WHAT IT READS IS OF BULK AT MOST 1048576: true; the input reads as it did. -/
def instOneUptoRow : OpenClaim := { program := "ytcjhccdbgphboaa", sum := "f864d9df751bf6c53b9b8d5442af33c20e2051becf0b5a4d27c05425296d8f36", func := "tryst/trystlaw10.InstOne", spec := "instOne", inPlace := ["internal/bytealg.abigen_runtime_cmpstring"], unfollowed := true, recurses := true, apart := false, narrowed := true }
def InstOneUptoSaid : Prop := instOneUptoRow.holds Try.pinned (OpenSpec.upto instOneSpec)

/-- 'trystlaw10.InstTurns', WHERE WHAT IT READS IS OF BULK AT MOST 1048576: true; the input reads as it did. -/
def instTurnsUptoRow : OpenClaim := { program := "ytcjhccdbgphboaa", sum := "f864d9df751bf6c53b9b8d5442af33c20e2051becf0b5a4d27c05425296d8f36", func := "tryst/trystlaw10.InstTurns", spec := "instTurns", inPlace := ["internal/bytealg.abigen_runtime_cmpstring"], unfollowed := true, recurses := true, apart := false, narrowed := true }
def InstTurnsUptoSaid : Prop := instTurnsUptoRow.holds Try.pinned (OpenSpec.upto instTurnsSpec)

/-- 'trystlaw10.InstFeeds', WHERE WHAT IT READS IS OF BULK AT MOST 1048576: true; the input reads as it did. -/
def instFeedsUptoRow : OpenClaim := { program := "ytcjhccdbgphboaa", sum := "f864d9df751bf6c53b9b8d5442af33c20e2051becf0b5a4d27c05425296d8f36", func := "tryst/trystlaw10.InstFeeds", spec := "instFeeds", inPlace := ["internal/bytealg.abigen_runtime_cmpstring"], unfollowed := true, recurses := true, apart := false, narrowed := true }
def InstFeedsUptoSaid : Prop := instFeedsUptoRow.holds Try.pinned (OpenSpec.upto instFeedsSpec)

/-- 'trystlaw10.InstStays', WHERE WHAT IT READS IS OF BULK AT MOST 1048576: true; the input reads as it did. -/
def instStaysUptoRow : OpenClaim := { program := "ytcjhccdbgphboaa", sum := "f864d9df751bf6c53b9b8d5442af33c20e2051becf0b5a4d27c05425296d8f36", func := "tryst/trystlaw10.InstStays", spec := "instStays", inPlace := ["internal/bytealg.abigen_runtime_cmpstring"], unfollowed := true, recurses := true, apart := false, narrowed := true }
def InstStaysUptoSaid : Prop := instStaysUptoRow.holds Try.pinned (OpenSpec.upto instStaysSpec)

/-- 'trystlaw10.InstExpires', WHERE WHAT IT READS IS OF BULK AT MOST 1048576: true; the input reads as it did. -/
def instExpiresUptoRow : OpenClaim := { program := "ytcjhccdbgphboaa", sum := "f864d9df751bf6c53b9b8d5442af33c20e2051becf0b5a4d27c05425296d8f36", func := "tryst/trystlaw10.InstExpires", spec := "instExpires", inPlace := ["internal/bytealg.abigen_runtime_cmpstring"], unfollowed := true, recurses := true, apart := false, narrowed := true }
def InstExpiresUptoSaid : Prop := instExpiresUptoRow.holds Try.pinned (OpenSpec.upto instExpiresSpec)

/-- 'trystlaw10.InstWaits', WHERE WHAT IT READS IS OF BULK AT MOST 1048576: true; the input reads as it did. -/
def instWaitsUptoRow : OpenClaim := { program := "ytcjhccdbgphboaa", sum := "f864d9df751bf6c53b9b8d5442af33c20e2051becf0b5a4d27c05425296d8f36", func := "tryst/trystlaw10.InstWaits", spec := "instWaits", inPlace := ["internal/bytealg.abigen_runtime_cmpstring"], unfollowed := true, recurses := true, apart := false, narrowed := true }
def InstWaitsUptoSaid : Prop := instWaitsUptoRow.holds Try.pinned (OpenSpec.upto instWaitsSpec)

end Rows
end Go.Proofs.Ytcjhccdbgphboaa
