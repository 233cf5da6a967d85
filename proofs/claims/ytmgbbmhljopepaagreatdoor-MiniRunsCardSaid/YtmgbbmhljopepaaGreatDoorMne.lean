/- A part of the proofs of the seat YtmgbbmhljopepaaGreatDoor: the contracts of functions, each proved out of its code. -/
import Derived.Test.YtmgbbmhljopepaaGreatDoorVh
import Derived.Test.YtmgbbmhljopepaaGreatDoorProg
import Derived.Test.YtmgbbmhljopepaaGreatDoorMnd
import Derived.Test.YtmgbbmhljopepaaGreatDoorVf
import Derived.Test.YtmgbbmhljopepaaGreatDoorRows
import Derived.LaidHandle
import Derived.MakeChecks
namespace Go.Vc
open Go.Proofs
set_option maxRecDepth 100000
end Go.Vc

namespace Go.Vc
open Go.Proofs
set_option linter.unusedSimpArgs false
set_option linter.unusedVariables false
theorem endF_le {d : DI} {lv : List Bool} {cl : List Nat} {n : Nat} (h : ∀ j, (firstL d lv cl j).length ≤ n) : ∀ {f i : Nat}, i ≤ n → endF d lv cl f i ≤ n
 | 0, i, hi => hi
 | f + 1, i, hi => by
  simp only [endF]
  split
  ·exact hi
  ·have := h i
   exact endF_le h (by omega)
theorem leastK_le {d : DI} (hd : d.Ok) (lv : List Bool) (cl : List Nat) : leastK d lv cl ≤ d.next.length :=
 endF_le (fun j => (firstOk hd.rows hd.n0 j).len) (Nat.zero_le _)
theorem sm_least {d : DI} (hd : d.Ok) : (leastR d).Sm := by
 have hk := leastK_le hd (liveL d) (classR d (liveL d))
 have hn := hd.n
 refine small_of hd.signs ?_ ?_ ?_ ?_
 ·show ((List.range _).map _).length ≤ 1000
  rw [List.length_map, List.length_range]; omega
 ·show ((List.range _).map _).length ≤ 1000
  rw [List.length_map, List.length_range]; omega
 ·intro l hl
  obtain ⟨j, hj, rfl⟩ := List.mem_map.1 hl
  unfold waysF
  rw [rowW_len]
  exact hd.width _
 ·intro l hl
  obtain ⟨j, hj, rfl⟩ := List.mem_map.1 hl
  exact hd.ints.len _
end Go.Vc

namespace Go.Vc
open Go.Proofs Go.Proofs.YtmgbbmhljopepaaGreatDoor
set_option maxRecDepth 100000
theorem strs_of {p : PV} (h : ArgOk (false, [.lst false [.str]]) p) : ∃ l : List ByteArray, p = ss l ∧ l.length ≤ 9223372036854775807 := by
 have h1 := OkShs_one h
 simp only [OkSh] at h1
 obtain ⟨xs, rfl, hl, hx⟩ := h1
 obtain ⟨l, rfl⟩ := map_of (f := fun b : ByteArray => pS b) (fun x hx' => by
  have := (hx x hx').2 trivial
  simp only [OkShs, OkSh] at this
  obtain ⟨_, _, e, ⟨n, rfl, _⟩, rfl⟩ := this
  injection e with e1 _
  exact ⟨n, e1⟩)
 exact ⟨l, rfl, by simpa [maxLen] using hl⟩
abbrev laidL : List (String × DataW Unit) := [("math/bits.deBruijn32tab", Rows.laid_math_bits_deBruijn32tab), ("math/bits.deBruijn64tab", Rows.laid_math_bits_deBruijn64tab), ("internal/strconv.uint64pow10", Rows.laid_internal_strconv_uint64pow10), ("unicode/utf8.acceptRanges", Rows.laid_unicode_utf8_acceptRanges), ("unicode/utf8.first", Rows.laid_unicode_utf8_first)]
theorem tab_lt {P : Program} {w : World} {name : String} {k : IntKind} {zs : List Int} {g : Nat} (h : Lib.TabIs P w name k zs) (hg : P.globalNamed name = some g) : g < w.heap.size := by
 unfold Lib.TabIs World.var? at h
 rw [hg] at h
 simp only [Option.bind_some] at h
 rcases Nat.lt_or_ge g w.heap.size with h1 | h1
 ·exact h1
 ·rw [Array.getElem?_eq_none h1] at h; cases h
theorem laidL_tab : (Rows.laid_math_bits_deBruijn64tab : DataW Unit) = Lib.tabData .u8 (Lib.deBruijn64tab.map fun n : Nat => (n : Int)) := by kernel_rfl
theorem laidL_pow : (Rows.laid_internal_strconv_uint64pow10 : DataW Unit) = Lib.tabData .u64 Lib.pow10Tab := by kernel_rfl
theorem laid_sub {P : Program} {w : World} {a : String × DataW Unit} {l : List (String × DataW Unit)} (h : laidMet P (a :: l) w) : laidMet P l w := by
 obtain ⟨ps, ⟨g, t, cs, fuel, p, q, _, _, _, _, hq, rfl⟩, hn, ha⟩ := h
 exact ⟨q, hq, (List.nodup_append.1 hn).2.1, fun b off hm => ha b off (List.mem_append.2 (.inr hm))⟩
theorem tabsTryz (w : World) (h : laidMetH Tryz.prog laidL w) : Tabs Tryz.prog w (fun _ => False) := fun t ht g hg => by
 rw [Go.MakeChecks.laidMetH_plain _ _ _ (by kernel_rfl)] at h
 simp only [tabList, List.mem_cons, List.not_mem_nil, or_false] at ht
 rcases ht with rfl | rfl
 ·have hgn : Tryz.prog.globalNamed "math/bits.deBruijn64tab" = some 0 := by kernel_rfl
  have hT : Lib.TabIs Tryz.prog w "math/bits.deBruijn64tab" .u8 (Lib.deBruijn64tab.map fun n : Nat => (n : Int)) := by
   unfold laidL at h
   rw [laidL_tab] at h
   exact Lib.tabIs_of_head (t := 143) (e := 5) (n := 64) hgn (by kernel_rfl) (by kernel_rfl) (by kernel_rfl) (by kernel_rfl) (by kernel_rfl) (laid_sub h)
  exact ⟨fun h => h, tab_lt hT hg, hT⟩
 ·have hgn : Tryz.prog.globalNamed "internal/strconv.uint64pow10" = some 1 := by kernel_rfl
  have hT : Lib.TabIs Tryz.prog w "internal/strconv.uint64pow10" .u64 Lib.pow10Tab := by
   unfold laidL at h
   rw [laidL_pow] at h
   exact Lib.tabIs_of_head (t := 190) (e := 56) (n := 20) hgn (by kernel_rfl) (by kernel_rfl) (by kernel_rfl) (by kernel_rfl) (by kernel_rfl) (laid_sub (laid_sub h))
  exact ⟨fun h => h, tab_lt hT hg, hT⟩
theorem ownTryz : ownKnob Tryz.prog.godebug = none := by kernel_rfl
theorem laidOutTryz : laidOutB Tryz.prog = true := by kernel_rfl
noncomputable def laidWorld (os : Os) : World := layAt (layAt (layAt (layAt (layAt (World.holding Tryz.prog os ⟨#[], #[], []⟩) 0 (litsOf (Rows.laid_math_bits_deBruijn64tab : DataW Unit))) 1 (litsOf (Rows.laid_internal_strconv_uint64pow10 : DataW Unit))) 3 (litsOf Rows.laid_unicode_utf8_first)) 4 (litsOf (Rows.laid_unicode_utf8_acceptRanges : DataW Unit))) 5 (litsOf (Rows.laid_math_bits_deBruijn32tab : DataW Unit))
theorem laid_met (os : Os) (args : Array Value) : laidMetH Tryz.prog laidL ((laidWorld os).forCall (fun _ _ => 0) ⟨#[], args, []⟩).memory := by
 have h : laidMet Tryz.prog laidL ((laidWorld os).forCall (fun _ _ => 0) ⟨#[], args, []⟩).memory := laidMet_of_run3 8 (by kernel_rfl) (by kernel_rfl) (by kernel_rfl)
 exact laidMetH_of_parts h (by kernel_rfl)
end Go.Vc
