/- A part of the proofs of the seat YtmgbbmhljopepaaGreatDoor: the contracts of functions, each proved out of its code. -/
import Derived.Test.YtmgbbmhljopepaaGreatDoorDj
namespace Go.Vc
open Go.Proofs
set_option linter.unusedSimpArgs false
set_option linter.unusedVariables false
theorem res_meet {bs : List ByteArray} {t : ByteArray} (hg : ∀ b ∈ bs, globB b = true) : (if topicB t = true then resN (bs.map cutS) (partsB t) else []) = meetN bs t bs.length := by
 unfold meetN resN
 split
 ·rename_i ht
  rw [List.length_map, partsB_good (topic_glob ht)]
  refine List.filter_congr fun i hi => ?_
  have hil : i < bs.length := List.mem_range.1 hi
  have h2 := hg bs[i] (List.getElem_mem hil)
  simp [List.getD_eq_getElem?_getD, hil, meetsB, ht, h2]
 ·rename_i ht
  rw [eq_comm, List.filter_eq_nil_iff]
  intro i _ h
  simp [meetsB] at h
  exact ht h.2.1
structure OfOk (bs : List ByteArray) (most : Int) (k : Nat) : Prop where
 good : goodB bs = true
 e : ofE bs most = 0
 r : ofR bs most = dfaOf (nfaOf (bs.map cutS)) k
 whole : Whole (nfaOf (bs.map cutS)) k
 pos : 1 ≤ k
 le : (k : Int) ≤ most
 fin : dfaK (nfaOf (bs.map cutS)) most.toNat = some k
theorem of_cases (bs : List ByteArray) (most : Int) : (∃ k, OfOk bs most k) ∨ (ofE bs most ≠ 0 ∧ ofR bs most = zDf ∧ (ofE bs most = 1 ∨ ofE bs most = 6)) := by
 cases hg : goodB bs with
 | false => right; unfold ofE ofR; rw [hg]; exact ⟨by simp, rfl, .inl rfl⟩
 | true =>
  by_cases hm : most < 1
  ·right
   have h1 : ofE bs most = 1 := by unfold ofE dfaE; rw [hg, if_pos rfl, if_pos hm]
   have h2 : ofR bs most = zDf := by unfold ofR dfaR; rw [hg, if_pos rfl, if_pos hm]
   exact ⟨by omega, h2, .inl h1⟩
  ·cases hk : dfaK (nfaOf (bs.map cutS)) most.toNat with
   | none =>
    right
    have h1 : ofE bs most = 6 := by unfold ofE dfaE; rw [hg, if_pos rfl, if_neg hm, hk]; rfl
    have h2 : ofR bs most = zDf := by unfold ofR dfaR; rw [hg, if_pos rfl, if_neg hm, hk]; rfl
    exact ⟨by omega, h2, .inr h1⟩
   | some k =>
    left
    obtain ⟨w, hp, hl⟩ := dfaK_some hk
    exact ⟨k, hg, by unfold ofE dfaE; rw [hg, if_pos rfl, if_neg hm, hk]; rfl, by unfold ofR dfaR; rw [hg, if_pos rfl, if_neg hm, hk]; rfl, w, hp, by omega, hk⟩
theorem sm_z : zDf.Sm := ⟨by simp [zDf, RisB], by simp [zDf], by simp [zDf], by simp [zDf], by simp [zDf], by simp [zDf]⟩
theorem sm_dfa {n : NF} (h : n.Ok) {k : Nat} (hk : k ≤ 1000) : (dfaOf n k).Sm where
 ris := h.ris
 s := by have := h.signs; show n.signs.length ≤ 1000; omega
 n := by rw [next_len]; exact hk
 m := by rw [done_len]; exact hk
 ns := fun l hl => by
  obtain ⟨j, hj, rfl⟩ := List.mem_map.1 hl
  have := h.signs
  rw [rowN_len]; unfold NF.wid; omega
 ds := fun l hl => by
  obtain ⟨j, hj, rfl⟩ := List.mem_map.1 hl
  have h1 := List.length_filter_le (fun g => ((bfsL n j).getD j []).any fun s => decide (g ∈ n.done.getD s [])) (List.range n.beg.length)
  have h2 := h.beg
  unfold doneOf
  rw [List.length_range] at h1
  omega
theorem sm_of (bs : List ByteArray) (most : Int) (hm : most ≤ 1000) : (ofR bs most).Sm := by
 rcases of_cases bs most with ⟨k, h⟩ | ⟨_, h, _⟩
 ·rw [h.r]; exact sm_dfa (ok_nfa (gsOk h.good)) (by have := h.le; omega)
 ·rw [h]; exact sm_z
theorem of_res {bs : List ByteArray} {most : Int} {k : Nat} (h : OfOk bs most k) (t : List ByteArray) : resO (ofR bs most) t = resN (bs.map cutS) t := by rw [h.r]; exact resO_nfa h.whole t
end Go.Vc

namespace Go.Vc
set_option linter.unusedSimpArgs false
set_option linter.unusedVariables false
theorem row_num {n : NF} {j a : Nat} (ha : a < n.wid) : (rowN n ((bfsL n j).getD j []) (bfsL n j) n.wid).getD a 0 = numS (bfsL n (j + 1)) (stepN n (toI ((bfsL n j).getD j [])) (a : Int)) := by
 rw [rowN_at ha]; rfl
theorem row_bounds {n : NF} {k j a : Nat} (h : Whole n k) (hj : j < k) (ha : a < n.wid) : -1 ≤ (rowN n ((bfsL n j).getD j []) (bfsL n j) n.wid).getD a 0 ∧ (rowN n ((bfsL n j).getD j []) (bfsL n j) n.wid).getD a 0 < (k : Int) := by
 rw [row_num ha]
 have hl := (bfsL_pre n (show j + 1 ≤ k by omega)).length_le
 rw [h.len] at hl
 unfold numS
 split
 ·omega
 ·rename_i hne
  have hm : stepN n (toI ((bfsL n j).getD j [])) (a : Int) ∈ bfsL n (j + 1) := rowL_mem.2 (.inr ⟨a, ha, rfl, hne⟩)
  have := List.idxOf_lt_length_of_mem hm
  omega
end Go.Vc
