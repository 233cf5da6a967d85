/- A part of the proofs of the seat YtmgbbmhljopepaaGreatDoor: the contracts of functions, each proved out of its code. -/
import Derived.Test.YtmgbbmhljopepaaGreatDoorDj
import Derived.Test.YtmgbbmhljopepaaGreatDoorVh
import Derived.Test.YtmgbbmhljopepaaGreatDoorVf
import Derived.Test.YtmgbbmhljopepaaGreatDoorRows
import Derived.LaidHandle
import Derived.MakeChecks
namespace Go.Vc
open Go.Proofs
set_option linter.unusedSimpArgs false
set_option linter.unusedVariables false

/-! ## The laws of dfa: what they share -/
theorem res_meet {bs : List ByteArray} {t : ByteArray} (hg : ∀ b ∈ bs, globB b = true) : (if topicB t = true then resN (bs.map cutS) (partsB t) else []) = meetN bs t bs.length := by
  unfold meetN resN
  split
  · rename_i ht
    rw [List.length_map, partsB_good (topic_glob ht)]
    refine List.filter_congr fun i hi => ?_
    have hil : i < bs.length := List.mem_range.1 hi
    have h2 := hg bs[i] (List.getElem_mem hil)
    simp [List.getD_eq_getElem?_getD, hil, meetsB, ht, h2]
  · rename_i ht
    rw [eq_comm, List.filter_eq_nil_iff]
    intro i _ h
    simp [meetsB] at h
    exact ht h.2.1
def globs7 (bs : List ByteArray) : List ByteArray := if 6 < (globsS bs).length ∧ (globsS bs).length < 21 then (globsS bs).take 6 else globsS bs
theorem globs7_len (bs : List ByteArray) : (globs7 bs).length ≤ 21 := by
  have := globsS_len bs
  unfold globs7; split
  · simp; omega
  · exact this
theorem globs7_size {bs : List ByteArray} {b : ByteArray} (h : b ∈ globs7 bs) : b.size ≤ 60 := by
  unfold globs7 at h; split at h
  · exact globsS_size (List.mem_of_mem_take h)
  · exact globsS_size h
theorem globs7_good {bs : List ByteArray} (h : goodB (globs7 bs) = true) : (globs7 bs).length ≤ 6 := by
  have h1 := (goodB_iff.1 h).1
  unfold globs7 at h1 ⊢
  split
  · simp; omega
  · rename_i h2
    rw [if_neg h2] at h1
    omega
theorem fn8 (bs : List ByteArray) (hb : bs.length ≤ 9223372036854775807) : Fn Tryz.prog 8 [ss bs] (.pv (ss (globs7 bs))) [] := by
  refine Run8 [] (by simp) ?_
  simp only [go_sem, reduceCtorEq, and_self, M8]
  refine runR_call (by simp only [go_sem, reduceCtorEq, and_self]) rfl (fn21 bs hb) (.inl rfl) trivial ?_
  have hl := globsS_len bs
  unfold globs7
  generalize globsS bs = g at hl
  by_cases h1 : 6 < g.length
  · by_cases h2 : g.length < 21
    · rw [if_pos ⟨h1, h2⟩]
      simp only [go_sem, Nat.reduceEqDiff, reduceCtorEq, Int.reduceToNat, Int.reduceLE, and_self, show (6 : Int) < (g.length : Int) by omega, show (g.length : Int) < 21 by omega]
      exact ⟨⟨by omega, wf_ss g⟩, by show PV.lst _ = PV.lst ((List.take 6 g).map pS); rw [List.map_take]⟩
    · rw [if_neg (by rintro ⟨_, h⟩; exact h2 h)]
      simp only [go_sem, Nat.reduceEqDiff, reduceCtorEq, Int.reduceToNat, Int.reduceLE, and_self, show (6 : Int) < (g.length : Int) by omega, show ¬ (g.length : Int) < 21 by omega]
  · rw [if_neg (by rintro ⟨h, _⟩; exact h1 h)]
    simp only [go_sem, Nat.reduceEqDiff, reduceCtorEq, Int.reduceToNat, Int.reduceLE, and_self, show ¬ (6 : Int) < (g.length : Int) by omega]
structure OfOk (bs : List ByteArray) (most : Int) (k : Nat) : Prop where
  good : goodB bs = true
  e : ofE bs most = 0
  r : ofR bs most = dfaOf (nfaOf (bs.map cutS)) k
  whole : Whole (nfaOf (bs.map cutS)) k
  pos : 1 ≤ k
  le : (k : Int) ≤ most
  fin : dfaK (nfaOf (bs.map cutS)) most.toNat = some k
theorem of_cases (bs : List ByteArray) (most : Int) : (∃ k, OfOk bs most k) ∨ (ofE bs most ≠ 0 ∧ ofR bs most = zDf ∧ (ofE bs most = 1 ∨ ofE bs most = 6)) := by
  cases hg : goodB bs with
  | false => right; unfold ofE ofR; rw [hg]; exact ⟨by simp, rfl, .inl rfl⟩
  | true =>
    by_cases hm : most < 1
    · right
      have h1 : ofE bs most = 1 := by unfold ofE dfaE; rw [hg, if_pos rfl, if_pos hm]
      have h2 : ofR bs most = zDf := by unfold ofR dfaR; rw [hg, if_pos rfl, if_pos hm]
      exact ⟨by omega, h2, .inl h1⟩
    · cases hk : dfaK (nfaOf (bs.map cutS)) most.toNat with
      | none =>
        right
        have h1 : ofE bs most = 6 := by unfold ofE dfaE; rw [hg, if_pos rfl, if_neg hm, hk]; rfl
        have h2 : ofR bs most = zDf := by unfold ofR dfaR; rw [hg, if_pos rfl, if_neg hm, hk]; rfl
        exact ⟨by omega, h2, .inr h1⟩
      | some k =>
        left
        obtain ⟨w, hp, hl⟩ := dfaK_some hk
        exact ⟨k, hg, by unfold ofE dfaE; rw [hg, if_pos rfl, if_neg hm, hk]; rfl, by unfold ofR dfaR; rw [hg, if_pos rfl, if_neg hm, hk]; rfl, w, hp, by omega, hk⟩
theorem sm_z : zDf.Sm := ⟨by simp [zDf, RisB], by simp [zDf], by simp [zDf], by simp [zDf], by simp [zDf], by simp [zDf]⟩
theorem sm_dfa {n : NF} (h : n.Ok) {k : Nat} (hk : k ≤ 1000) : (dfaOf n k).Sm where
  ris := h.ris
  s := by have := h.signs; show n.signs.length ≤ 1000; omega
  n := by rw [next_len]; exact hk
  m := by rw [done_len]; exact hk
  ns := fun l hl => by
    obtain ⟨j, hj, rfl⟩ := List.mem_map.1 hl
    have := h.signs
    rw [rowN_len]; unfold NF.wid; omega
  ds := fun l hl => by
    obtain ⟨j, hj, rfl⟩ := List.mem_map.1 hl
    have h1 := List.length_filter_le (fun g => ((bfsL n j).getD j []).any fun s => decide (g ∈ n.done.getD s [])) (List.range n.beg.length)
    have h2 := h.beg
    unfold doneOf
    rw [List.length_range] at h1
    omega
theorem sm_of (bs : List ByteArray) (most : Int) (hm : most ≤ 1000) : (ofR bs most).Sm := by
  rcases of_cases bs most with ⟨k, h⟩ | ⟨_, h, _⟩
  · rw [h.r]; exact sm_dfa (ok_nfa (gsOk h.good)) (by have := h.le; omega)
  · rw [h]; exact sm_z
theorem resO_z (t : List ByteArray) : resO zDf t = [] := by
  unfold resO
  cases t with
  | nil => rfl
  | cons q t =>
    have : runO zDf (q :: t) = none := by
      unfold runO
      rw [List.foldl_cons]
      have h : stepO zDf (some 0) q = none := by unfold stepO; simp [zDf]
      rw [h, stepO_none]
    rw [this]; rfl
theorem of_res {bs : List ByteArray} {most : Int} {k : Nat} (h : OfOk bs most k) (t : List ByteArray) : resO (ofR bs most) t = resN (bs.map cutS) t := by rw [h.r]; exact resO_nfa h.whole t
theorem of_len {bs : List ByteArray} {most : Int} {k : Nat} (h : OfOk bs most k) : (ofR bs most).next.length = k := by rw [h.r]; exact next_len
/-! ### the chapter's examples -/
abbrev exA : List ByteArray := [⟨#[97]⟩]
abbrev exB : List ByteArray := [⟨#[97, 46, 42]⟩]
theorem exA_9 : ofE exA 9 = 0 ∧ (ofR exA 9).next.length = 2 := by decide +kernel
theorem exA_1 : ofE exA 1 = 6 := by decide +kernel
theorem exB_9 : ofE exB 9 = 0 := by decide +kernel
theorem exB_ab : (if topicB ⟨#[97, 46, 98]⟩ = true then resO (ofR exB 9) (partsB ⟨#[97, 46, 98]⟩) else []) = [0] := by decide +kernel
theorem exB_a : (if topicB ⟨#[97]⟩ = true then resO (ofR exB 9) (partsB ⟨#[97]⟩) else []) = [] := by decide +kernel
theorem fn11 : Fn Tryz.prog 11 [] (.pv (pB true)) [] := by
  have rA := fn9 exA 9 (by decide) (by decide) (by omega)
  have rA1 := fn9 exA 1 (by decide) (by decide) (by omega)
  have rB := fn9 exB 9 (by decide) (by decide) (by omega)
  have r1 := fn27 (ofR exB 9) ⟨#[97, 46, 98]⟩ (sm_of _ _ (by omega)) (by decide)
  have r2 := fn27 (ofR exB 9) ⟨#[97]⟩ (sm_of _ _ (by omega)) (by decide)
  rw [exB_ab] at r1
  rw [exB_a] at r2
  rw [exA_9.1] at rA
  rw [exA_1] at rA1
  rw [exB_9] at rB
  have r3 := fn16 (ofR exA 9)
  rw [exA_9.2] at r3
  generalize ofR exA 9 = dA at *
  generalize ofR exA 1 = dA1 at *
  generalize ofR exB 9 = dB at *
  refine Run11 [] (by simp) ?_
  simp only [go_sem, Nat.reduceLeDiff, and_self, M11]
  refine runR_call (by simp only [go_sem, and_self]) rfl (rA) (.inl rfl) trivial ?_
  simp only [go_sem, Nat.reduceEqDiff, Nat.reduceAdd, Nat.reduceLeDiff, Nat.reduceLT, and_self]
  refine runR_call (by simp only [go_sem, Nat.reduceEqDiff, and_self]) rfl (rA1) (.inl rfl) trivial ?_
  simp only [go_sem, Nat.reduceEqDiff, Nat.reduceBEq, Nat.reduceAdd, Nat.reduceLeDiff, Nat.reduceLT, and_self]
  refine runR_call (by simp only [go_sem, Nat.reduceEqDiff, and_self]) rfl (rB) (.inl rfl) trivial ?_
  simp only [go_sem, Nat.reduceEqDiff, Nat.reduceBEq, Nat.reduceAdd, Nat.reduceLT, and_self]
  refine runR_callf (by simp only [go_sem, Nat.reduceEqDiff, and_self]) (by simp only [go_sem, Nat.reduceEqDiff] <;> rfl) (r3) ⟨rfl, trivial⟩ trivial ?_
  simp only [go_sem, Nat.reduceEqDiff, Nat.reduceAdd, and_self, Int.cast_ofNat_Int]
  refine runR_callg (by simp only [go_sem, Nat.reduceEqDiff]) (by simp only [go_sem, Nat.reduceEqDiff, and_self]) rfl (fun _ => r1) (.inl rfl) ?_
  simp only [go_sem, Nat.reduceEqDiff, Nat.reduceLeDiff, and_self]
  refine runR_callgf (by simp only [go_sem, Nat.reduceEqDiff]) (by simp only [go_sem, Nat.reduceEqDiff, and_self]) (by simp only [go_sem, Nat.reduceEqDiff] <;> rfl) (fun _ => fn26t [0] (by decide)) rfl ?_
  simp only [go_sem, Nat.reduceEqDiff, Nat.reduceAdd, and_self]
  refine runR_callg (by simp only [go_sem, Nat.reduceEqDiff]) (by simp only [go_sem, Nat.reduceEqDiff, and_self]) rfl (fun _ => r2) (.inl rfl) ?_
  simp only [go_sem, Nat.reduceEqDiff, reduceCtorEq, and_self, Int.cast_ofNat_Int, show (toI ([] : List Nat)).length = 0 by rfl]
end Go.Vc

namespace Go.Vc
open Go.Proofs Go.Proofs.YtmgbbmhljopepaaGreatDoor
set_option maxRecDepth 100000
theorem strs_of {p : PV} (h : ArgOk (false, [.lst false [.str]]) p) : ∃ l : List ByteArray, p = ss l ∧ l.length ≤ 9223372036854775807 := by
  have h1 := OkShs_one h
  simp only [OkSh] at h1
  obtain ⟨xs, rfl, hl, hx⟩ := h1
  obtain ⟨l, rfl⟩ := map_of (f := fun b : ByteArray => pS b) (fun x hx' => by
    have := (hx x hx').2 trivial
    simp only [OkShs, OkSh] at this
    obtain ⟨_, _, e, ⟨n, rfl, _⟩, rfl⟩ := this
    injection e with e1 _
    exact ⟨n, e1⟩)
  exact ⟨l, rfl, by simpa [maxLen] using hl⟩
theorem i64s_of {p : PV} (h : ArgOk (false, [.lst false [.int .i64]]) p) : ∃ l : List Int, p = ints l ∧ l.length ≤ 9223372036854775807 := by
  obtain ⟨l, rfl, hl, _⟩ := ints_of (OkShs_one h)
  exact ⟨l, rfl, hl⟩
theorem i64_of {p : PV} (h : ArgOk (false, [.int .i64]) p) : ∃ n : Int, p = pI n := by
  obtain ⟨n, rfl, _⟩ := int_of h
  exact ⟨n, rfl⟩
theorem u8_of {p : PV} (h : ArgOk (false, [.int .u8]) p) : ∃ n : Nat, p = p8 n ∧ n ≤ 255 := by
  obtain ⟨n, rfl, hn⟩ := int_of h
  have := Go.bounds_u8 hn
  obtain ⟨m, rfl⟩ := Int.eq_ofNat_of_zero_le this.1
  exact ⟨m, rfl, by omega⟩
abbrev laidL : List (String × DataW Unit) := [("math/bits.deBruijn64tab", Rows.laid_math_bits_deBruijn64tab), ("unicode/utf8.acceptRanges", Rows.laid_unicode_utf8_acceptRanges), ("unicode/utf8.first", Rows.laid_unicode_utf8_first)]
theorem tab_lt {P : Program} {w : World} {name : String} {k : IntKind} {zs : List Int} {g : Nat} (h : Lib.TabIs P w name k zs) (hg : P.globalNamed name = some g) : g < w.heap.size := by
  unfold Lib.TabIs World.var? at h
  rw [hg] at h
  simp only [Option.bind_some] at h
  rcases Nat.lt_or_ge g w.heap.size with h1 | h1
  · exact h1
  · rw [Array.getElem?_eq_none h1] at h; cases h
theorem laidL_tab : (Rows.laid_math_bits_deBruijn64tab : DataW Unit) = Lib.tabData .u8 (Lib.deBruijn64tab.map fun n : Nat => (n : Int)) := by kernel_rfl
theorem tabsTryz (w : World) (h : laidMetH Tryz.prog laidL w) : Tabs Tryz.prog w (fun _ => False) := fun t ht g hg => by
  simp only [tabList, List.mem_cons, List.not_mem_nil, or_false] at ht
  subst ht
  rw [Go.MakeChecks.laidMetH_plain _ _ _ (by kernel_rfl)] at h
  have hgn : Tryz.prog.globalNamed "math/bits.deBruijn64tab" = some 0 := by kernel_rfl
  have hT : Lib.TabIs Tryz.prog w "math/bits.deBruijn64tab" .u8 (Lib.deBruijn64tab.map fun n : Nat => (n : Int)) := by
    unfold laidL at h
    rw [laidL_tab] at h
    exact Lib.tabIs_of_head (t := 143) (e := 5) (n := 64) hgn (by kernel_rfl) (by kernel_rfl) (by kernel_rfl) (by kernel_rfl) (by kernel_rfl) h
  exact ⟨fun h => h, tab_lt hT hg, hT⟩
theorem ownTryz : ownKnob Tryz.prog.godebug = none := by kernel_rfl
theorem laidOutTryz : laidOutB Tryz.prog = true := by kernel_rfl
/-- a world in which the listed tables lie -/
noncomputable def laidWorld (os : Os) : World := layAt (layAt (layAt (World.holding Tryz.prog os ⟨#[], #[], []⟩) 0 (litsOf (Rows.laid_math_bits_deBruijn64tab : DataW Unit))) 3 (litsOf Rows.laid_unicode_utf8_first)) 4 (litsOf (Rows.laid_unicode_utf8_acceptRanges : DataW Unit))
theorem laid_met (os : Os) (args : Array Value) : laidMetH Tryz.prog laidL ((laidWorld os).forCall (fun _ _ => 0) ⟨#[], args, []⟩).memory := by
  have h : laidMet Tryz.prog laidL ((laidWorld os).forCall (fun _ _ => 0) ⟨#[], args, []⟩).memory := laidMet_of_run3 8 (by kernel_rfl) (by kernel_rfl) (by kernel_rfl)
  exact laidMetH_of_parts h (by kernel_rfl)
end Go.Vc
