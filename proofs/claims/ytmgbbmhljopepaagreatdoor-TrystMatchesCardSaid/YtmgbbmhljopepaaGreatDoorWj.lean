/- A part of the proofs of the seat YtmgbbmhljopepaaGreatDoor: the contracts of functions, each proved out of its code. -/
import Derived.Test.YtmgbbmhljopepaaGreatDoorWh
import Derived.Test.YtmgbbmhljopepaaGreatDoorWi
import Derived.Test.YtmgbbmhljopepaaGreatDoorVe
import Derived.Test.YtmgbbmhljopepaaGreatDoorProg
import Derived.Test.YtmgbbmhljopepaaGreatDoorRows
import Derived.Test.YtmgbbmhljopepaaGreatDoorWc
import Derived.LaidHandle
import Derived.MakeChecks
import Derived.Shelf.Strconv.Itoa4
namespace Go.Vc
set_option linter.unusedSimpArgs false
set_option linter.unusedVariables false
def stepO (d : DF) (o : Option Int) (q : ByteArray) : Option Int := match o with
 | none => none
 | some x => if 0 ≤ x ∧ x < d.next.length ∧ letterN d.signs q < (d.next.getD x.toNat []).length then some ((d.next.getD x.toNat []).getD (letterN d.signs q) 0) else none
def runO (d : DF) (t : List ByteArray) : Option Int := t.foldl (stepO d) (some 0)
theorem runO_snoc (d : DF) (t : List ByteArray) (q : ByteArray) : runO d (t ++ [q]) = stepO d (runO d t) q := by simp [runO]
theorem stepO_none (d : DF) : ∀ t : List ByteArray, t.foldl (stepO d) none = none
 | [] => rfl
 | q :: t => by rw [List.foldl_cons]; exact stepO_none d t
theorem runO_none {d : DF} {t : List ByteArray} {k : Nat} (h : runO d (t.take k) = none) : runO d t = none := by
 have : t = t.take k ++ t.drop k := (List.take_append_drop k t).symm
 unfold runO at *
 rw [this, List.foldl_append, h, stepO_none]
def endO (d : DF) : Option Int → List Nat
 | none => []
 | some x => if 0 ≤ x ∧ x < d.next.length ∧ x < d.done.length then d.done.getD x.toNat [] else []
def resO (d : DF) (t : List ByteArray) : List Nat := endO d (runO d t)
theorem idxS_lt {n : NF} {k : Nat} (h : Whole n k) (t : List ByteArray) : idxS n k t = -1 ∨ (0 ≤ idxS n k t ∧ idxS n k t < k) := by
 unfold idxS
 split
 ·exact .inl rfl
 ·rename_i hu
  right
  have hmem : walkN n t ∈ bfsL n k := by
   rcases h.walk t with h1 | h1
   ·obtain rfl : t = [] := by
     by_cases h2 : t = []
     ·exact h2
     ·exact absurd ⟨h1, h2⟩ hu
    refine (bfsL_pre n (Nat.zero_le k)).subset ?_
    simp [bfsL, walkN]
   ·exact h1
  have := List.idxOf_lt_length_of_mem hmem
  rw [h.len] at this
  omega
theorem next_len {n : NF} {k : Nat} : (dfaOf n k).next.length = k := by simp [dfaOf, bfsN]
theorem done_len {n : NF} {k : Nat} : (dfaOf n k).done.length = k := by simp [dfaOf, bfsD]
theorem next_row {n : NF} {k j : Nat} (h : j < k) : ((dfaOf n k).next.getD j []).length = n.wid := by
 simp only [dfaOf, bfsN]
 rw [List.getD_eq_getElem?_getD, List.getElem?_map, List.getElem?_range h]
 simp only [Option.map_some, Option.getD_some]
 exact rowN_len _ _ _ _
theorem runO_whole {n : NF} {k : Nat} (h : Whole n k) (t : List ByteArray) : runO (dfaOf n k) t = some (runD (dfaOf n k) t) ∨ (runO (dfaOf n k) t = none ∧ runD (dfaOf n k) t = -1) := by
 rcases List.eq_nil_or_concat t with rfl | ⟨u, q, rfl⟩
 ·exact .inl rfl
 ·rw [List.concat_eq_append, runO_snoc, runD_snoc]
  have hi := idxS_lt h u
  rw [← runD_idx h u] at hi
  rcases runO_whole h u with h1 | ⟨h1, h2⟩
  ·rw [h1]
   unfold stepO stepD
   rcases hi with hi | ⟨hi1, hi2⟩
   ·rw [hi]
    right
    simp
   ·left
    have hl := next_row (n := n) (k := k) (j := (runD (dfaOf n k) u).toNat) (by omega)
    have hle := letterN_le n.signs q
    have : 0 ≤ runD (dfaOf n k) u ∧ runD (dfaOf n k) u < ((dfaOf n k).next.length : Int) ∧ letterN (dfaOf n k).signs q < ((dfaOf n k).next.getD (runD (dfaOf n k) u).toNat []).length := by
     rw [next_len, hl]
     refine ⟨hi1, hi2, ?_⟩
     show letterN n.signs q < n.signs.length + 1
     omega
    dsimp only
    rw [if_pos this, if_neg (by omega)]
  ·rw [h1, h2]
   right
   exact ⟨rfl, by unfold stepD; simp⟩
termination_by t.length
decreasing_by subst_vars; simp
theorem resO_walk {n : NF} {k : Nat} (h : Whole n k) (t : List ByteArray) : resO (dfaOf n k) t = doneOf n (walkN n t) := by
 rw [← resD_walk h t]
 unfold resO resD
 have hi := idxS_lt h t
 rw [← runD_idx h t] at hi
 rcases runO_whole h t with h1 | ⟨h1, h2⟩
 ·rw [h1]
  unfold endO
  rw [next_len, done_len]
  rcases hi with hi | ⟨hi1, hi2⟩
  ·rw [hi]; simp
  ·dsimp only
   rw [if_pos ⟨hi1, hi2, hi2⟩, if_neg (by omega)]
 ·rw [h1, h2]; rfl
theorem done_res (gs : List (List ByteArray)) (t : List ByteArray) : doneOf (nfaOf gs) (walkN (nfaOf gs) t) = resN gs t := by
 refine risI_ext (range_filter_ris _ _) (resN_ris gs t) fun g => ?_
 rw [resN_mem]
 unfold doneOf
 rw [List.mem_filter, List.mem_range, List.any_eq_true]
 constructor
 ·rintro ⟨_, s, h1, h2⟩
  exact ⟨s, h1, by simpa using h2⟩
 ·rintro ⟨s, h1, h2⟩
  refine ⟨?_, s, h1, by simpa using h2⟩
  have hm : g ∈ resN gs t := resN_mem.2 ⟨s, h1, h2⟩
  have := resN_lt hm
  simp [nfaOf]; exact this
theorem resO_nfa {gs : List (List ByteArray)} {k : Nat} (h : Whole (nfaOf gs) k) (t : List ByteArray) : resO (dfaOf (nfaOf gs) k) t = resN gs t := by rw [resO_walk h, done_res]
end Go.Vc

namespace Go.Vc
open Go.Proofs
set_option linter.unusedSimpArgs false
set_option linter.unusedVariables false
theorem eg_nfa (gs : List (List ByteArray)) : (nfaOf gs).Eg where
 e := fun s e he => by
  rcases Nat.lt_or_ge s (base gs gs.length) with hs | hs
  ·obtain ⟨i, hi, _, k, hk, rfl⟩ := base_split _ (Nat.le_refl _) s hs
   rw [ways_at hi hk] at he
   rw [size_nfa]
   have hb := base_mono (gs := gs) hi (Nat.le_refl _)
   split at he
   ·rename_i p hp
    have hkl : k < gs[i].length := (List.getElem?_eq_some_iff.1 hp).1
    have hlet := letterN_le (signsOf gs) p
    have hsg : (nfaOf gs).signs = signsOf gs := rfl
    rw [hsg]
    unfold wayOf at he
    split at he
    ·rcases List.mem_cons.1 he with rfl | he
     ·exact ⟨.inl rfl, by simp only; omega, by simp only; omega⟩
     ·obtain ⟨s, hs2, rfl⟩ := List.mem_map.1 he
      have := List.mem_range.1 hs2
      exact ⟨.inr ⟨by simp only; omega, by simp only; omega⟩, by simp only; omega, by simp only; omega⟩
    ·split at he
     ·obtain ⟨s, hs2, rfl⟩ := List.mem_map.1 he
      have := List.mem_range.1 hs2
      exact ⟨.inr ⟨by simp only; omega, by simp only; omega⟩, by simp only; omega, by simp only; omega⟩
     ·simp only [List.mem_singleton] at he
      subst he
      exact ⟨.inr ⟨by simp only; omega, by simp only; omega⟩, by simp only; omega, by simp only; omega⟩
   ·cases he
  ·have : (nfaOf gs).ways.getD s [] = [] := by
    have h := size_nfa (gs := gs)
    unfold NF.size at h
    rw [List.getD_eq_getElem?_getD, List.getElem?_eq_none (by omega)]; rfl
   rw [this] at he
   cases he
theorem ok_nfa {gs : List (List ByteArray)} (h : GsOk gs) : (nfaOf gs).Ok where
 good := good_nfa gs
 size := h.size
 ways := fun s => by have := h.ways s; omega
 signs := h.signs
 eg := eg_nfa gs
 dn := dn_nfa gs
 done := by have := h.size; rw [size_nfa] at this; show (doneG 0 gs).length ≤ 1000; rw [doneG_len]; omega
 ris := signsOf_ris gs
 beg := by have := h.n; simp [nfaOf]; omega
def ofR (bs : List ByteArray) (most : Int) : DF := if goodB bs = true then dfaR (nfaOf (bs.map cutS)) most else zDf
def ofE (bs : List ByteArray) (most : Int) : Int := if goodB bs = true then dfaE (nfaOf (bs.map cutS)) most else 1
theorem fn9 (bs : List ByteArray) (most : Int) (hb : bs.length ≤ 30) (hs : ∀ b ∈ bs, b.size ≤ 1000) (hm : most ≤ 1000) : Fn Tryz.prog 9 [ss bs, pI most] (.pv (.tup [pDf (ofR bs most), pI (ofE bs most)])) [] := by
 refine Run9 [] (by simp) ?_
 simp only [go_sem, M9]
 refine runR_call (by simp only [go_sem]) rfl (fn13 bs hb hs) (.inl rfl) trivial ?_
 unfold ofR ofE
 cases hgd : goodB bs with
 | false =>
  simp only [go_sem]
  rfl
 | true =>
  have hbr : buildR bs = nfaOf (bs.map cutS) := by unfold buildR; rw [hgd]; rfl
  have hok := ok_nfa (gsOk hgd)
  rw [hbr]
  generalize nfaOf (bs.map cutS) = n at hok
  simp only [go_sem]
  refine runR_call (by simp only [go_sem]) rfl (fn14 n most hok hm) (.inl rfl) trivial ?_
  simp only [go_sem]
structure DF.Sm (d : DF) : Prop where
 ris : RisB d.signs
 s : d.signs.length ≤ 1000
 n : d.next.length ≤ 1000
 m : d.done.length ≤ 1000
 ns : ∀ l ∈ d.next, l.length ≤ 1000
 ds : ∀ l ∈ d.done, l.length ≤ 1000
theorem fn27 (d : DF) (t : ByteArray) (hd : d.Sm) (ht : t.size ≤ 1000) : Fn Tryz.prog 27 [pDf d, pS t] (.pv (pNs (if topicB t = true then resO d (partsB t) else []))) [] := by
 have hds := hd.s
 have hdn := hd.n
 have hdd := hd.m
 refine Run27 [] (by simp) ?_
 simp only [go_sem, M27]
 refine runR_callf (by simp only [go_sem]) (by simp only [go_sem] <;> rfl) (fn56 t) ⟨rfl, trivial⟩ trivial ?_
 cases htp : topicB t with
 | false => simp only [go_sem]; rfl
 | true =>
  simp only [go_sem]
  refine runR_call (by simp only [go_sem]) rfl (fn41 t ht) (.inl rfl) trivial ?_
  have hpl := partsB_len t
  unfold resO
  generalize partsB t = T at hpl
  simp only [go_sem]
  have hris := hd.ris
  have hnl := hd.ns
  have hdl := hd.ds
  refine run_loopN (T := Nat × Int) [2, 5, 6, 17, 18, 19] [2, 5] (fun t => ⟨[(2, .ptr 2 0), (5, .ptr 5 0), (6, .pv (pI t.2)), (17, .pv (ss T)), (18, .pv (pI T.length)), (19, .pv (pI t.1))],
    [(2, .box [.pv (ss d.signs), .pv (.lst (d.next.map ints)), .pv (.lst (d.done.map pNs))]), (5, .box [.pv (ss d.signs), .e0, .e0, .e0])]⟩)
   (fun t => t.1 ≤ T.length ∧ runO d (T.take t.1) = some t.2) (fun t => T.length - t.1) (0, 0) rfl ⟨Nat.zero_le _, rfl⟩ ?_
  rintro ⟨k, x⟩ ⟨hk, hx⟩
  simp only at hk hx
  by_cases hkl : k < T.length
  ·have hsn : runO d (T.take (k + 1)) = stepO d (some x) T[k] := by rw [List.take_succ_eq_append_getElem hkl, runO_snoc, hx]
   have hlt := letterN_le d.signs T[k]
   have dead : stepO d (some x) T[k] = none → endO d (runO d T) = [] := fun h => by rw [runO_none (k := k + 1) (hsn.trans h)]; rfl
   simp only [go_sem, B27_0, show (k : Int) < (T.length : Int) by omega, wf_ss, getD_map hkl]
   refine runR_callf (by simp only [go_sem]) (by simp only [go_sem] <;> rfl) (fn57 d.signs (.lst []) (.lst []) (.lst []) T[k] hris (by omega)) ⟨rfl, trivial⟩ trivial ?_
   by_cases h0 : x < 0
   ·rw [dead (by unfold stepO; simp only; rw [if_neg (by omega)])]
    simp only [go_sem, h0]
    rfl
   ·obtain ⟨y, rfl⟩ : ∃ y : Nat, x = (y : Int) := ⟨x.toNat, by omega⟩
    by_cases h1 : y < d.next.length
    ·obtain ⟨R, hR⟩ : ∃ R, R = d.next.getD y [] := ⟨_, rfl⟩
     have hRg : d.next[y] = R := by rw [hR]; simp [List.getD_eq_getElem?_getD, h1]
     have hRl := hnl R (by rw [← hRg]; exact List.getElem_mem h1)
     have hst : stepO d (some (y : Int)) T[k] = if letterN d.signs T[k] < R.length then some (R.getD (letterN d.signs T[k]) 0) else none := by
      unfold stepO
      simp only [Int.toNat_natCast, ← hR]
      by_cases h2 : letterN d.signs T[k] < R.length
      ·rw [if_pos h2, if_pos ⟨by omega, by omega, h2⟩]
      ·rw [if_neg h2, if_neg (by rintro ⟨_, _, h3⟩; exact h2 h3)]
     rw [hst] at hsn dead
     generalize hlet : letterN d.signs T[k] = a at hst hsn hlt dead
     by_cases h2 : a < R.length
     ·rw [if_pos h2] at hsn
      have hag : R.getD a 0 = R[a] := by simp [List.getD_eq_getElem?_getD, h2]
      rw [hag] at hsn
      simp only [go_sem, show ¬ (y : Int) < 0 by omega, show ¬ (d.next.length : Int) ≤ (y : Int) by omega, wf_rows, getD_map h1, hRg, show (y : Int) < (d.next.length : Int) by omega, show ¬ (R.length : Int) ≤ (a : Int) by omega, wf_ints, getD_map h2]
      exact ⟨by omega, ⟨by omega, by omega⟩, (k + 1, R[a]), rfl, ⟨hkl, hsn⟩, by simp only; omega⟩
     ·rw [dead (by rw [if_neg h2])]
      simp only [go_sem, show ¬ (y : Int) < 0 by omega, show ¬ (d.next.length : Int) ≤ (y : Int) by omega, wf_rows, getD_map h1, hRg, show (y : Int) < (d.next.length : Int) by omega, show (R.length : Int) ≤ (a : Int) by omega]
      rfl
    ·rw [dead (by unfold stepO; simp only; rw [if_neg (by omega)])]
     simp only [go_sem, show ¬ (y : Int) < 0 by omega, show (d.next.length : Int) ≤ (y : Int) by omega]
     rfl
  ·have hke : k = T.length := by omega
   subst hke
   rw [List.take_length] at hx
   have hen : endO d (some x) = if 0 ≤ x ∧ x < (d.next.length : Int) ∧ x < (d.done.length : Int) then d.done.getD x.toNat [] else [] := rfl
   rw [hx, hen]
   clear hen
   by_cases h0 : x < 0
   ·rw [if_neg (by omega)]
    simp only [go_sem, B27_0, R27_0, show ¬ (T.length : Int) < (T.length : Int) by omega, h0]
    rfl
   ·obtain ⟨y, rfl⟩ : ∃ y : Nat, x = (y : Int) := ⟨x.toNat, by omega⟩
    by_cases h1 : y < d.next.length
    ·by_cases h2 : y < d.done.length
     ·rw [if_pos ⟨by omega, by omega, by omega⟩, Int.toNat_natCast]
      have hDg : d.done.getD y [] = d.done[y] := by simp [List.getD_eq_getElem?_getD, h2]
      have hDl := hdl d.done[y] (List.getElem_mem h2)
      rw [hDg]
      simp only [go_sem, B27_0, R27_0, show ¬ (T.length : Int) < (T.length : Int) by omega, show ¬ (y : Int) < 0 by omega, show ¬ (d.next.length : Int) ≤ (y : Int) by omega, show ¬ (d.done.length : Int) ≤ (y : Int) by omega, wf_pNs, getD_map h2, show (y : Int) < (d.done.length : Int) by omega]
      refine runR_call (by simp only [go_sem]) rfl (fn53 d.done[y] (by omega)) (.inl rfl) trivial ?_
      simp only [go_sem]
     ·rw [if_neg (by omega)]
      simp only [go_sem, B27_0, R27_0, show ¬ (T.length : Int) < (T.length : Int) by omega, show ¬ (y : Int) < 0 by omega, show ¬ (d.next.length : Int) ≤ (y : Int) by omega, show (d.done.length : Int) ≤ (y : Int) by omega]
      rfl
    ·rw [if_neg (by omega)]
     simp only [go_sem, B27_0, R27_0, show ¬ (T.length : Int) < (T.length : Int) by omega, show ¬ (y : Int) < 0 by omega, show (d.next.length : Int) ≤ (y : Int) by omega]
     rfl
end Go.Vc

namespace Go.Vc
open Go.Proofs
set_option linter.unusedSimpArgs false
set_option linter.unusedVariables false
theorem res_meet {bs : List ByteArray} {t : ByteArray} (hg : ∀ b ∈ bs, globB b = true) : (if topicB t = true then resN (bs.map cutS) (partsB t) else []) = meetN bs t bs.length := by
 unfold meetN resN
 split
 ·rename_i ht
  rw [List.length_map, partsB_good (topic_glob ht)]
  refine List.filter_congr fun i hi => ?_
  have hil : i < bs.length := List.mem_range.1 hi
  have h2 := hg bs[i] (List.getElem_mem hil)
  simp [List.getD_eq_getElem?_getD, hil, meetsB, ht, h2]
 ·rename_i ht
  rw [eq_comm, List.filter_eq_nil_iff]
  intro i _ h
  simp [meetsB] at h
  exact ht h.2.1
structure OfOk (bs : List ByteArray) (most : Int) (k : Nat) : Prop where
 good : goodB bs = true
 e : ofE bs most = 0
 r : ofR bs most = dfaOf (nfaOf (bs.map cutS)) k
 whole : Whole (nfaOf (bs.map cutS)) k
 pos : 1 ≤ k
 le : (k : Int) ≤ most
 fin : dfaK (nfaOf (bs.map cutS)) most.toNat = some k
theorem of_cases (bs : List ByteArray) (most : Int) : (∃ k, OfOk bs most k) ∨ (ofE bs most ≠ 0 ∧ ofR bs most = zDf ∧ (ofE bs most = 1 ∨ ofE bs most = 6)) := by
 cases hg : goodB bs with
 | false => right; unfold ofE ofR; rw [hg]; exact ⟨by simp, rfl, .inl rfl⟩
 | true =>
  by_cases hm : most < 1
  ·right
   have h1 : ofE bs most = 1 := by unfold ofE dfaE; rw [hg, if_pos rfl, if_pos hm]
   have h2 : ofR bs most = zDf := by unfold ofR dfaR; rw [hg, if_pos rfl, if_pos hm]
   exact ⟨by omega, h2, .inl h1⟩
  ·cases hk : dfaK (nfaOf (bs.map cutS)) most.toNat with
   | none =>
    right
    have h1 : ofE bs most = 6 := by unfold ofE dfaE; rw [hg, if_pos rfl, if_neg hm, hk]; rfl
    have h2 : ofR bs most = zDf := by unfold ofR dfaR; rw [hg, if_pos rfl, if_neg hm, hk]; rfl
    exact ⟨by omega, h2, .inr h1⟩
   | some k =>
    left
    obtain ⟨w, hp, hl⟩ := dfaK_some hk
    exact ⟨k, hg, by unfold ofE dfaE; rw [hg, if_pos rfl, if_neg hm, hk]; rfl, by unfold ofR dfaR; rw [hg, if_pos rfl, if_neg hm, hk]; rfl, w, hp, by omega, hk⟩
theorem sm_z : zDf.Sm := ⟨by simp [zDf, RisB], by simp [zDf], by simp [zDf], by simp [zDf], by simp [zDf], by simp [zDf]⟩
theorem sm_dfa {n : NF} (h : n.Ok) {k : Nat} (hk : k ≤ 1000) : (dfaOf n k).Sm where
 ris := h.ris
 s := by have := h.signs; show n.signs.length ≤ 1000; omega
 n := by rw [next_len]; exact hk
 m := by rw [done_len]; exact hk
 ns := fun l hl => by
  obtain ⟨j, hj, rfl⟩ := List.mem_map.1 hl
  have := h.signs
  rw [rowN_len]; unfold NF.wid; omega
 ds := fun l hl => by
  obtain ⟨j, hj, rfl⟩ := List.mem_map.1 hl
  have h1 := List.length_filter_le (fun g => ((bfsL n j).getD j []).any fun s => decide (g ∈ n.done.getD s [])) (List.range n.beg.length)
  have h2 := h.beg
  unfold doneOf
  rw [List.length_range] at h1
  omega
theorem sm_of (bs : List ByteArray) (most : Int) (hm : most ≤ 1000) : (ofR bs most).Sm := by
 rcases of_cases bs most with ⟨k, h⟩ | ⟨_, h, _⟩
 ·rw [h.r]; exact sm_dfa (ok_nfa (gsOk h.good)) (by have := h.le; omega)
 ·rw [h]; exact sm_z
theorem of_res {bs : List ByteArray} {most : Int} {k : Nat} (h : OfOk bs most k) (t : List ByteArray) : resO (ofR bs most) t = resN (bs.map cutS) t := by rw [h.r]; exact resO_nfa h.whole t
end Go.Vc

namespace Go.Vc
set_option linter.unusedSimpArgs false
set_option linter.unusedVariables false
theorem row_num {n : NF} {j a : Nat} (ha : a < n.wid) : (rowN n ((bfsL n j).getD j []) (bfsL n j) n.wid).getD a 0 = numS (bfsL n (j + 1)) (stepN n (toI ((bfsL n j).getD j [])) (a : Int)) := by
 rw [rowN_at ha]; rfl
theorem row_bounds {n : NF} {k j a : Nat} (h : Whole n k) (hj : j < k) (ha : a < n.wid) : -1 ≤ (rowN n ((bfsL n j).getD j []) (bfsL n j) n.wid).getD a 0 ∧ (rowN n ((bfsL n j).getD j []) (bfsL n j) n.wid).getD a 0 < (k : Int) := by
 rw [row_num ha]
 have hl := (bfsL_pre n (show j + 1 ≤ k by omega)).length_le
 rw [h.len] at hl
 unfold numS
 split
 ·omega
 ·rename_i hne
  have hm : stepN n (toI ((bfsL n j).getD j [])) (a : Int) ∈ bfsL n (j + 1) := rowL_mem.2 (.inr ⟨a, ha, rfl, hne⟩)
  have := List.idxOf_lt_length_of_mem hm
  omega
end Go.Vc

namespace Go.Vc
open Go.Proofs
set_option linter.unusedSimpArgs false
set_option linter.unusedVariables false
theorem getD_in {α : Type} {l : List α} {i : Nat} {d : α} (h : i < l.length) : l.getD i d = l[i] := by simp [List.getD_eq_getElem?_getD, h]
theorem small_of {d : DI} (h1 : d.signs.length ≤ 1000) (h2 : d.next.length ≤ 1000) (h3 : d.done.length ≤ 1000) (h4 : ∀ l ∈ d.next, l.length ≤ 1000) (h5 : ∀ l ∈ d.done, l.length ≤ 1000) : d.Sm := by
 refine ⟨h1, h2, h3, fun i => ?_, fun i => ?_⟩
 ·by_cases hi : i < d.next.length
  ·rw [getD_in hi]; exact h4 _ (List.getElem_mem hi)
  ·rw [List.getD_eq_getElem?_getD, List.getElem?_eq_none (by omega)]; simp
 ·by_cases hi : i < d.done.length
  ·rw [getD_in hi]; exact h5 _ (List.getElem_mem hi)
  ·rw [List.getD_eq_getElem?_getD, List.getElem?_eq_none (by omega)]; simp
theorem I64_of {d : DI} (h : ∀ l ∈ d.done, ∀ n ∈ l, I64 n) : ∀ i, ∀ n ∈ d.done.getD i [], I64 n := fun i n hn => by
 by_cases hi : i < d.done.length
 ·rw [getD_in hi] at hn; exact h _ (List.getElem_mem hi) n hn
 ·rw [List.getD_eq_getElem?_getD, List.getElem?_eq_none (by omega)] at hn; cases hn
def DF.toDI (d : DF) : DI := ⟨d.signs, d.next, d.done.map toI⟩
theorem pDf_toDI (d : DF) : pDf d = pDi d.toDI := by
 show PV.agg _ = PV.agg _
 rw [DF.toDI, List.map_map]
 rfl
theorem sm_toDI {d : DF} (h : d.Sm) : d.toDI.Sm := small_of h.s h.n (by simp only [DF.toDI, List.length_map]; exact h.m) h.ns fun l hl => by
 obtain ⟨m, hm, rfl⟩ := List.mem_map.1 hl
 rw [toI_len]; exact h.ds m hm
theorem ris_adj {l : List ByteArray} (h : RisB l) : risS l = true := risS_iff.2 fun k hk => by
 rw [getD_in (show k < l.length by omega), getD_in hk]
 exact List.pairwise_iff_getElem.1 h k (k + 1) (by omega) hk (by omega)
theorem ris_toI {l : List Nat} (h : l.Pairwise (· < ·)) : risI (toI l) = true := risI_iff.2 fun k hk => by
 have hl := toI_len l
 rw [getD_in (show k < (toI l).length by omega), getD_in hk]
 have := List.pairwise_iff_getElem.1 h k (k + 1) (by omega) (by omega) (by omega)
 simp only [toI, List.getElem_map]
 omega
theorem may_of {bs : List ByteArray} {most : Int} {k : Nat} (h : OfOk bs most k) : mayB (ofR bs most).toDI = true := by
 rw [h.r]
 have hnl : (dfaOf (nfaOf (bs.map cutS)) k).toDI.next.length = k := next_len
 have hdl : (dfaOf (nfaOf (bs.map cutS)) k).toDI.done.length = k := by simp only [DF.toDI, List.length_map]; exact done_len
 have hw := h.whole
 have hp := h.pos
 have hok := ok_nfa (gsOk h.good)
 generalize nfaOf (bs.map cutS) = n at hnl hdl hw hok
 unfold mayB
 rw [hnl, hdl, decide_eq_true (by omega), decide_eq_true rfl, show risS (dfaOf n k).toDI.signs = true from ris_adj hok.ris]
 simp only [Bool.true_and]
 rw [List.all_eq_true]
 intro i hi
 have hik : i < k := List.mem_range.1 hi
 have hr : (dfaOf n k).toDI.next.getD i [] = rowN n ((bfsL n i).getD i []) (bfsL n i) n.wid := by
  rw [getD_in (by rw [hnl]; exact hik)]
  simp [DF.toDI, dfaOf, bfsN]
 have hd : (dfaOf n k).toDI.done.getD i [] = toI (doneOf n ((bfsL n i).getD i [])) := by
  rw [getD_in (by rw [hdl]; exact hik)]
  simp [DF.toDI, dfaOf, bfsD]
 unfold okRow
 rw [hr, hd, hnl, rowN_len, decide_eq_true (show n.wid = (dfaOf n k).toDI.signs.length + 1 from rfl), show risI (toI (doneOf n ((bfsL n i).getD i []))) = true from ris_toI (range_filter_ris _ _)]
 simp only [Bool.true_and]
 rw [Bool.and_eq_true, List.all_eq_true]
 refine ⟨fun t ht => ?_, ?_⟩
 ·obtain ⟨a, ha, rfl⟩ := List.getElem_of_mem ht
  rw [rowN_len] at ha
  have := row_bounds hw hik ha
  rw [getD_in (by rw [rowN_len]; exact ha)] at this
  exact decide_eq_true this
 ·rw [Bool.or_eq_true]
  by_cases h0 : (toI (doneOf n ((bfsL n i).getD i []))).length = 0
  ·exact .inl (decide_eq_true h0)
  ·right
   rw [getD_in (by omega)]
   simp [toI]
theorem I64_toDI {d : DF} (h : ∀ l ∈ d.done, ∀ n ∈ l, n ≤ 1000) : ∀ i, ∀ n ∈ d.toDI.done.getD i [], I64 n := I64_of fun l hl n hn => by
 obtain ⟨m, hm, rfl⟩ := List.mem_map.1 hl
 obtain ⟨q, hq, rfl⟩ := List.mem_map.1 hn
 have := h m hm q hq
 unfold I64; omega
theorem I64_ofR (bs : List ByteArray) (most : Int) : ∀ i, ∀ n ∈ (ofR bs most).toDI.done.getD i [], I64 n := by
 rcases of_cases bs most with ⟨k, h⟩ | ⟨_, h, _⟩
 ·rw [h.r]
  have hok := ok_nfa (gsOk h.good)
  refine I64_toDI fun l hl q hq => ?_
  obtain ⟨j, hj, rfl⟩ := List.mem_map.1 hl
  have h1 := (List.mem_filter.1 hq).1
  have h2 := hok.beg
  have := List.mem_range.1 h1
  omega
 ·rw [h]; exact I64_toDI (by simp [zDf])
theorem fn19 (bs : List ByteArray) (most : Int) (hb : bs.length ≤ 30) (hs : ∀ b ∈ bs, b.size ≤ 1000) (hm : most ≤ 1000) : Fn Tryz.prog 19 [ss bs, pI most] (.pv (.tup [pDi (if ofE bs most = 0 then leastR (ofR bs most).toDI else zDi), pI (ofE bs most)])) [] := by
 have h9 := fn9 bs most hb hs hm
 rw [pDf_toDI] at h9
 have h22 := fn22 _ (sm_toDI (sm_of bs most hm)) (I64_ofR bs most)
 refine Run19 [] (by simp) ?_
 simp only [go_sem, M19]
 refine runR_call (by simp only [go_sem]) rfl (h9) (.inl rfl) trivial ?_
 rcases of_cases bs most with ⟨k, h⟩ | ⟨h0, h, hv⟩
 ·rw [may_of h, if_pos rfl, if_pos rfl] at h22
  rw [h.e, if_pos rfl]
  generalize (ofR bs most).toDI = d at h22
  simp only [go_sem]
  refine runR_call (by simp only [go_sem]) rfl (h22) (.inl rfl) trivial ?_
  simp only [go_sem]
  done
 ·rw [if_neg h0]
  generalize (ofR bs most).toDI = d
  simp only [go_sem, h0]
  rfl
end Go.Vc

namespace Go.Vc
open Go.Proofs
set_option maxRecDepth 100000
end Go.Vc

namespace Go.Vc
open Go.Proofs
set_option linter.unusedSimpArgs false
set_option linter.unusedVariables false
theorem endF_le {d : DI} {lv : List Bool} {cl : List Nat} {n : Nat} (h : ∀ j, (firstL d lv cl j).length ≤ n) : ∀ {f i : Nat}, i ≤ n → endF d lv cl f i ≤ n
 | 0, i, hi => hi
 | f + 1, i, hi => by
  simp only [endF]
  split
  ·exact hi
  ·have := h i
   exact endF_le h (by omega)
theorem leastK_le {d : DI} (hd : d.Ok) (lv : List Bool) (cl : List Nat) : leastK d lv cl ≤ d.next.length :=
 endF_le (fun j => (firstOk hd.rows hd.n0 j).len) (Nat.zero_le _)
theorem sm_least {d : DI} (hd : d.Ok) : (leastR d).Sm := by
 have hk := leastK_le hd (liveL d) (classR d (liveL d))
 have hn := hd.n
 refine small_of hd.signs ?_ ?_ ?_ ?_
 ·show ((List.range _).map _).length ≤ 1000
  rw [List.length_map, List.length_range]; omega
 ·show ((List.range _).map _).length ≤ 1000
  rw [List.length_map, List.length_range]; omega
 ·intro l hl
  obtain ⟨j, hj, rfl⟩ := List.mem_map.1 hl
  unfold waysF
  rw [rowW_len]
  exact hd.width _
 ·intro l hl
  obtain ⟨j, hj, rfl⟩ := List.mem_map.1 hl
  exact hd.ints.len _
end Go.Vc

namespace Go.Vc
open Go.Proofs Go.Proofs.YtmgbbmhljopepaaGreatDoor
set_option maxRecDepth 100000
theorem strs_of {p : PV} (h : ArgOk (false, [.lst false [.str]]) p) : ∃ l : List ByteArray, p = ss l ∧ l.length ≤ 9223372036854775807 := by
 have h1 := OkShs_one h
 simp only [OkSh] at h1
 obtain ⟨xs, rfl, hl, hx⟩ := h1
 obtain ⟨l, rfl⟩ := map_of (f := fun b : ByteArray => pS b) (fun x hx' => by
  have := (hx x hx').2 trivial
  simp only [OkShs, OkSh] at this
  obtain ⟨_, _, e, ⟨n, rfl, _⟩, rfl⟩ := this
  injection e with e1 _
  exact ⟨n, e1⟩)
 exact ⟨l, rfl, by simpa [maxLen] using hl⟩
abbrev laidL : List (String × DataW Unit) := [("math/bits.deBruijn32tab", Rows.laid_math_bits_deBruijn32tab), ("math/bits.deBruijn64tab", Rows.laid_math_bits_deBruijn64tab), ("internal/strconv.uint64pow10", Rows.laid_internal_strconv_uint64pow10), ("unicode/utf8.acceptRanges", Rows.laid_unicode_utf8_acceptRanges), ("unicode/utf8.first", Rows.laid_unicode_utf8_first)]
theorem tab_lt {P : Program} {w : World} {name : String} {k : IntKind} {zs : List Int} {g : Nat} (h : Lib.TabIs P w name k zs) (hg : P.globalNamed name = some g) : g < w.heap.size := by
 unfold Lib.TabIs World.var? at h
 rw [hg] at h
 simp only [Option.bind_some] at h
 rcases Nat.lt_or_ge g w.heap.size with h1 | h1
 ·exact h1
 ·rw [Array.getElem?_eq_none h1] at h; cases h
theorem laidL_tab : (Rows.laid_math_bits_deBruijn64tab : DataW Unit) = Lib.tabData .u8 (Lib.deBruijn64tab.map fun n : Nat => (n : Int)) := by kernel_rfl
theorem laidL_pow : (Rows.laid_internal_strconv_uint64pow10 : DataW Unit) = Lib.tabData .u64 Lib.pow10Tab := by kernel_rfl
theorem laid_sub {P : Program} {w : World} {a : String × DataW Unit} {l : List (String × DataW Unit)} (h : laidMet P (a :: l) w) : laidMet P l w := by
 obtain ⟨ps, ⟨g, t, cs, fuel, p, q, _, _, _, _, hq, rfl⟩, hn, ha⟩ := h
 exact ⟨q, hq, (List.nodup_append.1 hn).2.1, fun b off hm => ha b off (List.mem_append.2 (.inr hm))⟩
theorem tabsTryz (w : World) (h : laidMetH Tryz.prog laidL w) : Tabs Tryz.prog w (fun _ => False) := fun t ht g hg => by
 rw [Go.MakeChecks.laidMetH_plain _ _ _ (by kernel_rfl)] at h
 simp only [tabList, List.mem_cons, List.not_mem_nil, or_false] at ht
 rcases ht with rfl | rfl
 ·have hgn : Tryz.prog.globalNamed "math/bits.deBruijn64tab" = some 0 := by kernel_rfl
  have hT : Lib.TabIs Tryz.prog w "math/bits.deBruijn64tab" .u8 (Lib.deBruijn64tab.map fun n : Nat => (n : Int)) := by
   unfold laidL at h
   rw [laidL_tab] at h
   exact Lib.tabIs_of_head (t := 143) (e := 5) (n := 64) hgn (by kernel_rfl) (by kernel_rfl) (by kernel_rfl) (by kernel_rfl) (by kernel_rfl) (laid_sub h)
  exact ⟨fun h => h, tab_lt hT hg, hT⟩
 ·have hgn : Tryz.prog.globalNamed "internal/strconv.uint64pow10" = some 1 := by kernel_rfl
  have hT : Lib.TabIs Tryz.prog w "internal/strconv.uint64pow10" .u64 Lib.pow10Tab := by
   unfold laidL at h
   rw [laidL_pow] at h
   exact Lib.tabIs_of_head (t := 190) (e := 56) (n := 20) hgn (by kernel_rfl) (by kernel_rfl) (by kernel_rfl) (by kernel_rfl) (by kernel_rfl) (laid_sub (laid_sub h))
  exact ⟨fun h => h, tab_lt hT hg, hT⟩
theorem ownTryz : ownKnob Tryz.prog.godebug = none := by kernel_rfl
theorem laidOutTryz : laidOutB Tryz.prog = true := by kernel_rfl
noncomputable def laidWorld (os : Os) : World := layAt (layAt (layAt (layAt (layAt (World.holding Tryz.prog os ⟨#[], #[], []⟩) 0 (litsOf (Rows.laid_math_bits_deBruijn64tab : DataW Unit))) 1 (litsOf (Rows.laid_internal_strconv_uint64pow10 : DataW Unit))) 3 (litsOf Rows.laid_unicode_utf8_first)) 4 (litsOf (Rows.laid_unicode_utf8_acceptRanges : DataW Unit))) 5 (litsOf (Rows.laid_math_bits_deBruijn32tab : DataW Unit))
theorem laid_met (os : Os) (args : Array Value) : laidMetH Tryz.prog laidL ((laidWorld os).forCall (fun _ _ => 0) ⟨#[], args, []⟩).memory := by
 have h : laidMet Tryz.prog laidL ((laidWorld os).forCall (fun _ _ => 0) ⟨#[], args, []⟩).memory := laidMet_of_run3 8 (by kernel_rfl) (by kernel_rfl) (by kernel_rfl)
 exact laidMetH_of_parts h (by kernel_rfl)
end Go.Vc

namespace Go.Vc
open Go.Proofs
set_option maxRecDepth 100000
def M62 : MC := (.seq (.reg [⟨some 1,none,.box (.t 0)⟩,qi 2 (.mv (.c (.bool false)))] [] [1] [1]) (.seq (.seq (.reg [qi 3 (.fa (.t 1) 0),qi 4 (.ld (.t 3) 1 false)] [] [1,4] [1]) (.cond (.t 4) (.seq (.reg [qi 5 (.fa (.t 1) 2),qi 6 (.ld (.t 5) 1 false),qi 7 (.bin .eql (.t 6) (.c (.string ⟨#[]⟩))),mi 2 7] [] [2] []) .ret) .skip)) (.seq (.reg [qi 8 (.fa (.t 1) 1),qi 9 (.ld (.t 8) 1 false),qi 10 (.bin .eql (.t 9) (ic 0)),mi 11 10,gi 12 11 true (.fa (.t 1) 2),gi 13 11 true (.ld (.t 12) 1 false),gi 14 11 true (.len (.t 13) true),gi 15 11 true (.bin .leq (.t 14) (ic 60)),qi 16 (.pick (.t 11) (.t 15) (.c (.bool false))),mi 2 16] [] [2] []) .ret)))
theorem mc62 : ofCode Tryz.prog [] Tryz.f62.ntmps [(0, ⟨[1], [1], [], 0, [], none⟩),
  (1, ⟨[1, 4], [1], [], 0, [], none⟩),
  (2, ⟨[2], [], [], 0, [], none⟩),
  (3, ⟨[2], [], [], 0, [], none⟩)] (Tryz.f62.body.getD .skip) = some M62 := by kernel_rfl
theorem Run62 {args : List PV} {v : AV} {rs : List (Nat × List PV)} (ids : List Bool) (h : args.length ≤ 17) (hv : run Tryz.prog (retK [RV.tmp 2] ids v rs) M62 [] ⟨entry 0 args, []⟩) : Fn Tryz.prog 62 args v rs :=
 Fn_run ids (by kernel_rfl) Tryz.func62 (by decide) rfl mc62 (by kernel_rfl) (by rw [Tryz.ntmps62]; exact h) (by rw [Tryz.ntmps62]; decide) hv
def M61 : MC := (.seq (.reg [qi 2 (.mv (.c (.bool false)))] [] [0] []) (.seq (.reg [mi 3 0,qi 4 (.len (.t 3) true),qi 5 (.bin .leq (.t 4) (ic 16)),mi 6 5,gi 7 6 true (.mv (.t 0)),⟨some 8,some (6,true),.call (.f 90) [.t 7,.c (.string ⟨#[46]⟩)]⟩,gi 9 6 true (.not (.t 8)),qi 10 (.pick (.t 6) (.t 9) (.c (.bool false))),mi 11 10,gi 12 11 true (.mv (.t 0)),⟨some 13,some (11,true),.call (.f 56) [.t 12]⟩,qi 14 (.pick (.t 11) (.t 13) (.c (.bool false))),mi 2 14] [] [2] [1008,1013]) .ret))
theorem mc61 : ofCode Tryz.prog [] Tryz.f61.ntmps [(0, ⟨[0], [], [], 0, [], none⟩),
  (1, ⟨[2], [1008, 1013], [], 0, [], none⟩)] (Tryz.f61.body.getD .skip) = some M61 := by kernel_rfl
theorem Run61 {args : List PV} {v : AV} {rs : List (Nat × List PV)} (ids : List Bool) (h : args.length ≤ 15) (hv : run Tryz.prog (retK [RV.tmp 2] ids v rs) M61 [] ⟨entry 0 args, []⟩) : Fn Tryz.prog 61 args v rs :=
 Fn_run ids (by kernel_rfl) Tryz.func61 (by decide) rfl mc61 (by kernel_rfl) (by rw [Tryz.ntmps61]; exact h) (by rw [Tryz.ntmps61]; decide) hv
def M90 : MC := (.seq (.reg [qi 4 (.mv (.c (.bool false)))] [] [0,1] []) (.seq (.reg [mi 5 0,mi 6 1,⟨some 7,none,.call (.f 111) [.t 5,.t 6]⟩,qi 8 (.bin .geq (.t 7) (ic 0)),mi 4 8] [] [4] [1007]) .ret))
theorem mc90 : ofCode Tryz.prog [] Tryz.f90.ntmps [(0, ⟨[0, 1], [], [], 0, [], none⟩),
  (1, ⟨[4], [1007], [], 0, [], none⟩)] (Tryz.f90.body.getD .skip) = some M90 := by kernel_rfl
theorem Run90 {args : List PV} {v : AV} {rs : List (Nat × List PV)} (ids : List Bool) (h : args.length ≤ 9) (hv : run Tryz.prog (retK [RV.tmp 4] ids v rs) M90 [] ⟨entry 0 args, []⟩) : Fn Tryz.prog 90 args v rs :=
 Fn_run ids (by kernel_rfl) Tryz.func90 (by decide) rfl mc90 (by kernel_rfl) (by rw [Tryz.ntmps90]; exact h) (by rw [Tryz.ntmps90]; decide) hv
def B60_0 : MC := (.seq (.seq (.reg [mi 5 0,qi 6 (.bin .geq (.t 5) (.c (.int .u64 128)))] [] [0,3,6] [4,12]) (.cond (.t 6) .skip (.exit 0))) (.block 1 (.seq (.reg [mi 7 3,mi 8 0,qi 9 (.cvw .u8 (.t 8)),qi 10 (.bin .or (.t 9) (.c (.int .u8 128))),⟨some 11,none,.lits [.t 10] 1⟩,⟨some 12,none,.app (.t 7) (.t 11) 1 1⟩,mi 3 12] [] [0,3] [4,12]) (.reg [mi 13 0,qi 14 (.shf false (.t 13) (.c (.int .u64 7))),mi 0 14] [] [0,3] [4,12]))))
def R60_0 : MC := (.seq (.reg [mi 15 3,mi 16 0,qi 17 (.cvw .u8 (.t 16)),⟨some 18,none,.lits [.t 17] 1⟩,⟨some 19,none,.app (.t 15) (.t 18) 1 1⟩,qi 20 (.sob (.t 19)),mi 2 20] [] [2] [4,12,19]) .ret)
def M60 : MC := (.seq (.reg [qi 2 (.mv (.c (.string ⟨#[]⟩)))] [] [0] []) (.seq (.reg [⟨some 4,none,.mks (ic 0) (ic 10) 1 1 (.sc (.int .u8 0))⟩,mi 3 4] [] [0,3] [4,12]) (.seq (.block 0 (.loop B60_0)) R60_0)))
theorem mc60 : ofCode Tryz.prog [9, 17] Tryz.f60.ntmps [(0, ⟨[0], [], [], 0, [], none⟩),
  (1, ⟨[0, 3], [4, 12], [], 0, [], none⟩),
  (2, ⟨[0, 3, 6], [4, 12], [], 0, [], none⟩),
  (3, ⟨[0, 3], [4, 12], [], 0, [], none⟩),
  (4, ⟨[0, 3], [4, 12], [], 0, [], none⟩),
  (5, ⟨[2], [4, 12, 19], [], 0, [], none⟩)] (Tryz.f60.body.getD .skip) = some M60 := by kernel_rfl
theorem Run60 {args : List PV} {v : AV} {rs : List (Nat × List PV)} (ids : List Bool) (h : args.length ≤ 21) (hv : run Tryz.prog (retK [RV.tmp 2] ids v rs) M60 [] ⟨entry 0 args, []⟩) : Fn Tryz.prog 60 args v rs :=
 Fn_run ids (by kernel_rfl) Tryz.func60 (by decide) rfl mc60 (by kernel_rfl) (by rw [Tryz.ntmps60]; exact h) (by rw [Tryz.ntmps60]; decide) hv
def B59_0 : MC := (.seq (.reg [qi 19 (.bin .lss (.t 18) (.t 17))] [] [1,4,17,18,19] [1,35,42]) (.seq (.cond (.t 19) .skip (.exit 0)) (.seq (.block 1 (.seq (.reg [mi 20 18,mi 5 20] [] [1,4,5,17,18] [1,35,42]) (.seq (.seq (.reg [qi 21 (.fa (.t 1) 2),qi 22 (.ld (.t 21) 1 false),mi 23 5,qi 24 (.idx (.t 22) (.t 23)),qi 25 (.bin .eql (.t 24) (.c (.int .u8 34))),mi 26 25,gi 27 26 false (.fa (.t 1) 2),gi 28 26 false (.ld (.t 27) 1 false),gi 29 26 false (.mv (.t 5)),gi 30 26 false (.idx (.t 28) (.t 29)),gi 31 26 false (.bin .eql (.t 30) (.c (.int .u8 92))),qi 32 (.pick (.t 26) (.c (.bool true)) (.t 31))] [] [1,4,5,17,18,32] [1,35,42]) (.cond (.t 32) (.reg [mi 33 4,⟨some 34,none,.lits [.c (.int .u8 92)] 1⟩,⟨some 35,none,.app (.t 33) (.t 34) 1 1⟩,mi 4 35] [] [1,4,5,17,18] [1,35,42]) .skip)) (.reg [mi 36 4,qi 37 (.fa (.t 1) 2),qi 38 (.ld (.t 37) 1 false),mi 39 5,qi 40 (.idx (.t 38) (.t 39)),⟨some 41,none,.lits [.t 40] 1⟩,⟨some 42,none,.app (.t 36) (.t 41) 1 1⟩,mi 4 42] [] [1,4,17,18] [1,35,42])))) (.reg [qi 43 (.bin .add (.t 18) (ic 1)),mi 18 43] [] [1,4,17,18] [1,35,42]))))
def R59_0 : MC := (.seq (.reg [mi 44 4,⟨some 45,none,.lits [.c (.int .u8 34)] 1⟩,⟨some 46,none,.app (.t 44) (.t 45) 1 1⟩,qi 47 (.sob (.t 46)),mi 2 47,qi 3 (.mv (ic 0))] [] [2,3] [35,42,46,1013]) .ret)
def M59 : MC := (.seq (.reg [⟨some 1,none,.box (.t 0)⟩,qi 2 (.mv (.c (.string ⟨#[]⟩))),qi 3 (.mv (ic 0))] [] [1] [1]) (.seq (.seq (.reg [qi 6 (.ld (.t 1) 3 true),⟨some 7,none,.call (.f 62) [.t 6]⟩,qi 8 (.not (.t 7))] [] [1,8] [1,1007]) (.cond (.t 8) (.seq (.reg [qi 2 (.mv (.c (.string ⟨#[]⟩))),qi 3 (.mv (ic 1))] [] [2,3] [35,42,46,1013]) .ret) .skip)) (.seq (.seq (.reg [qi 9 (.fa (.t 1) 0),qi 10 (.ld (.t 9) 1 false)] [] [1,10] [1]) (.cond (.t 10) (.seq (.reg [qi 11 (.fa (.t 1) 1),qi 12 (.ld (.t 11) 1 false),⟨some 13,none,.call (.f 89) [.t 12,.c (.int .i64 10)]⟩,mi 2 13,qi 3 (.mv (ic 0))] [] [2,3] [35,42,46,1013]) .ret) .skip)) (.seq (.reg [⟨some 14,none,.lits [.c (.int .u8 34)] 1⟩,mi 4 14] [] [1,4] [1,35,42]) (.seq (.seq (.reg [qi 15 (.fa (.t 1) 2),qi 16 (.ld (.t 15) 1 false),qi 17 (.len (.t 16) true),qi 18 (.mv (ic 0))] [] [1,4,17,18] [1,35,42]) (.block 0 (.loop B59_0))) R59_0)))))
theorem mc59 : ofCode Tryz.prog [] Tryz.f59.ntmps [(0, ⟨[1], [1], [], 0, [], none⟩),
  (1, ⟨[1, 8], [1, 1007], [], 0, [], none⟩),
  (2, ⟨[2, 3], [35, 42, 46, 1013], [], 0, [], none⟩),
  (3, ⟨[1, 10], [1], [], 0, [], none⟩),
  (4, ⟨[2, 3], [35, 42, 46, 1013], [], 0, [], none⟩),
  (5, ⟨[1, 4], [1, 35, 42], [], 0, [], none⟩),
  (6, ⟨[1, 4, 17, 18], [1, 35, 42], [], 0, [], none⟩),
  (7, ⟨[1, 4, 17, 18, 19], [1, 35, 42], [], 0, [], none⟩),
  (8, ⟨[1, 4, 5, 17, 18], [1, 35, 42], [], 0, [], none⟩),
  (9, ⟨[1, 4, 5, 17, 18, 32], [1, 35, 42], [], 0, [], none⟩),
  (10, ⟨[1, 4, 5, 17, 18], [1, 35, 42], [], 0, [], none⟩),
  (11, ⟨[1, 4, 17, 18], [1, 35, 42], [], 0, [], none⟩),
  (12, ⟨[1, 4, 17, 18], [1, 35, 42], [], 0, [], none⟩),
  (13, ⟨[2, 3], [35, 42, 46, 1013], [], 0, [], none⟩)] (Tryz.f59.body.getD .skip) = some M59 := by kernel_rfl
theorem Run59 {args : List PV} {v : AV} {rs : List (Nat × List PV)} (ids : List Bool) (h : args.length ≤ 48) (hv : run Tryz.prog (retK [RV.tmp 2, RV.tmp 3] ids v rs) M59 [] ⟨entry 0 args, []⟩) : Fn Tryz.prog 59 args v rs :=
 Fn_run ids (by kernel_rfl) Tryz.func59 (by decide) rfl mc59 (by kernel_rfl) (by rw [Tryz.ntmps59]; exact h) (by rw [Tryz.ntmps59]; decide) hv
def M29 : MC := (.seq (.reg [qi 0 (.mv (.c (.bool false)))] [] [] []) (.seq (.reg [qi 4 (.mk [.pv (.sc (.bool false)),.pv (.sc (.int .i64 0)),.pv (.sc (.string ⟨#[]⟩))] [(0,1,(.c (.bool true))),(1,1,(.c (.int .i64 (-7))))]),⟨some 5,none,.call (.f 59) [.t 4]⟩,mi 3 5,qi 6 (.ext (.t 3) 0),qi 7 (.ext (.t 3) 1),mi 1 6,mi 2 7] [] [1,2] [1005]) (.seq (.reg [⟨some 8,none,.call (.f 60) [.c (.int .u64 300)]⟩,qi 9 (.bin .eql (.t 8) (.c (.string ⟨#[172,2]⟩))),mi 10 9,gi 11 10 true (.mv (.t 1)),gi 12 10 true (.bin .eql (.t 11) (.c (.string ⟨#[45,55]⟩))),qi 13 (.pick (.t 10) (.t 12) (.c (.bool false))),mi 14 13,gi 15 14 true (.mv (.t 2)),gi 16 14 true (.bin .eql (.t 15) (ic 0)),qi 17 (.pick (.t 14) (.t 16) (.c (.bool false))),mi 18 17,⟨some 19,some (18,true),.call (.f 31) [.c (.string ⟨#[97,46,42,42]⟩),.c (.string ⟨#[97,46,98]⟩)]⟩,qi 20 (.pick (.t 18) (.t 19) (.c (.bool false))),mi 0 20] [] [0] [1005,1008,1019]) .ret)))
theorem mc29 : ofCode Tryz.prog [] Tryz.f29.ntmps [(0, ⟨[], [], [], 0, [], none⟩),
  (1, ⟨[1, 2], [1005], [], 0, [], none⟩),
  (2, ⟨[0], [1005, 1008, 1019], [], 0, [], none⟩)] (Tryz.f29.body.getD .skip) = some M29 := by kernel_rfl
theorem Run29 {args : List PV} {v : AV} {rs : List (Nat × List PV)} (ids : List Bool) (h : args.length ≤ 21) (hv : run Tryz.prog (retK [RV.tmp 0] ids v rs) M29 [] ⟨entry 0 args, []⟩) : Fn Tryz.prog 29 args v rs :=
 Fn_run ids (by kernel_rfl) Tryz.func29 (by decide) rfl mc29 (by kernel_rfl) (by rw [Tryz.ntmps29]; exact h) (by rw [Tryz.ntmps29]; decide) hv
def B30_0 : MC := (.seq (.reg [qi 30 (.bin .lss (.t 29) (.t 28))] [] [1,27,28,29,30] [1]) (.seq (.cond (.t 30) .skip (.exit 0)) (.seq (.block 1 (.seq (.reg [mi 31 29,qi 32 (.ia (.t 27) (.t 29) 4),qi 33 (.ld (.t 32) 4 true),⟨some 4,none,.alloc [.pv (.sc (.string ⟨#[]⟩)),.pv (.sc (.bool false)),.pv (.sc (.int .i64 0)),.pv (.sc (.string ⟨#[]⟩))]⟩,mi 3 31,⟨none,none,.st (.t 4) (.t 33) 4⟩] [] [1,3,4,27,28,29] [1,4]) (.seq (.reg [qi 34 (.fa (.t 4) 0),qi 35 (.ld (.t 34) 1 false),⟨some 36,none,.call (.f 61) [.t 35]⟩,qi 37 (.not (.t 36)),mi 38 37,gi 39 38 false (.fa (.t 4) 1),gi 40 38 false (.ld (.t 39) 3 true),⟨some 41,some (38,false),.call (.f 62) [.t 40]⟩,gi 42 38 false (.not (.t 41)),qi 43 (.pick (.t 38) (.c (.bool true)) (.t 42)),mi 44 43,gi 45 44 false (.mv (.t 3)),gi 46 44 false (.bin .gtr (.t 45) (ic 0)),gi 47 44 false (.mv (.t 46)),gi 48 47 true (.fa (.t 1) 3),gi 49 47 true (.ld (.t 48) 1 false),gi 50 47 true (.mv (.t 3)),gi 51 47 true (.bin .sub (.t 50) (ic 1)),gi 52 47 true (.ia (.t 49) (.t 51) 4),gi 53 47 true (.fa (.t 52) 0),gi 54 47 true (.ld (.t 53) 1 false),gi 55 47 true (.fa (.t 4) 0),gi 56 47 true (.ld (.t 55) 1 false),gi 57 47 true (.bin .geq (.t 54) (.t 56)),gi 58 44 false (.pick (.t 47) (.t 57) (.c (.bool false))),qi 59 (.pick (.t 44) (.c (.bool true)) (.t 58))] [] [1,27,28,29,59] [1,1036,1041]) (.cond (.t 59) (.seq (.reg [qi 2 (.mv (.c (.bool false)))] [] [2] []) .ret) .skip)))) (.reg [qi 60 (.bin .add (.t 29) (ic 1)),mi 29 60] [] [1,27,28,29] [1]))))
def R30_0 : MC := (.seq (.reg [qi 2 (.mv (.c (.bool true)))] [] [2] []) .ret)
def M30 : MC := (.seq (.reg [⟨some 1,none,.box (.t 0)⟩,qi 2 (.mv (.c (.bool false)))] [] [1] [1]) (.seq (.seq (.reg [qi 5 (.fa (.t 1) 0),qi 6 (.ld (.t 5) 1 false),⟨some 7,none,.call (.f 56) [.t 6]⟩,qi 8 (.not (.t 7)),mi 9 8,gi 10 9 false (.fa (.t 1) 1),gi 11 9 false (.ld (.t 10) 1 false),⟨some 12,some (9,false),.call (.f 61) [.t 11]⟩,gi 13 9 false (.not (.t 12)),qi 14 (.pick (.t 9) (.c (.bool true)) (.t 13)),mi 15 14,gi 16 15 false (.fa (.t 1) 2),gi 17 15 false (.ld (.t 16) 1 false),gi 18 15 false (.bin .lss (.t 17) (.c (.int .u64 1))),qi 19 (.pick (.t 15) (.c (.bool true)) (.t 18)),mi 20 19,gi 21 20 false (.fa (.t 1) 3),gi 22 20 false (.ld (.t 21) 1 false),gi 23 20 false (.len (.t 22) false),gi 24 20 false (.bin .gtr (.t 23) (ic 8)),qi 25 (.pick (.t 20) (.c (.bool true)) (.t 24))] [] [1,25] [1,1007,1012]) (.cond (.t 25) (.seq (.reg [qi 2 (.mv (.c (.bool false)))] [] [2] []) .ret) .skip)) (.seq (.seq (.reg [qi 26 (.fa (.t 1) 3),qi 27 (.ld (.t 26) 1 false),qi 28 (.len (.t 27) false),qi 29 (.mv (ic 0))] [] [1,27,28,29] [1]) (.block 0 (.loop B30_0))) R30_0)))
theorem mc30 : ofCode Tryz.prog [] Tryz.f30.ntmps [(0, ⟨[1], [1], [], 0, [], none⟩),
  (1, ⟨[1, 25], [1, 1007, 1012], [], 0, [], none⟩),
  (2, ⟨[2], [], [], 0, [], none⟩),
  (3, ⟨[1, 27, 28, 29], [1], [], 0, [], none⟩),
  (4, ⟨[1, 27, 28, 29, 30], [1], [], 0, [], none⟩),
  (5, ⟨[1, 3, 4, 27, 28, 29], [1, 4], [], 0, [], none⟩),
  (6, ⟨[1, 27, 28, 29, 59], [1, 1036, 1041], [(0, 67108863), (1, 67108862), (2, 0), (3, 67108856), (4, 67108848), (5, 67108832), (6, 67108800), (7, 0), (8, 67108608), (9, 67108352), (10, 67107840), (11, 67106816), (12, 67104768), (13, 67100672), (14, 60604416), (15, 60588032), (16, 60751872), (17, 60686336), (18, 60555264), (19, 60293120), (20, 59768832), (21, 65011712), (22, 62914560), (23, 58720256), (24, 50331648), (25, 33554432)], 67108863, [], none⟩),
  (7, ⟨[2], [], [], 0, [], none⟩),
  (8, ⟨[1, 27, 28, 29], [1], [], 0, [], none⟩),
  (9, ⟨[2], [], [], 0, [], none⟩)] (Tryz.f30.body.getD .skip) = some M30 := by kernel_rfl
theorem Run30 {args : List PV} {v : AV} {rs : List (Nat × List PV)} (ids : List Bool) (h : args.length ≤ 61) (hv : run Tryz.prog (retK [RV.tmp 2] ids v rs) M30 [] ⟨entry 0 args, []⟩) : Fn Tryz.prog 30 args v rs :=
 Fn_run ids (by kernel_rfl) Tryz.func30 (by decide) rfl mc30 (by kernel_rfl) (by rw [Tryz.ntmps30]; exact h) (by rw [Tryz.ntmps30]; decide) hv
def M115 : MC := (.seq (.reg [⟨some 1,none,.box (.t 0)⟩,qi 2 (.mv (.c (.bool false)))] [] [1] [1]) (.seq (.reg [qi 6 (.fa (.t 1) 1),qi 7 (.ld (.t 6) 1 false),qi 8 (.bin .eql (.t 7) (.c (.string ⟨#[]⟩))),mi 3 8] [] [1,3] [1,1021,1026,1032]) (.seq (.reg [qi 4 (.mv (ic 0))] [] [1,3,4] [1,1021,1026,1032]) (.seq (.reg [qi 9 (.fa (.t 1) 2),qi 10 (.ld (.t 9) 3 true),qi 11 (.mk [.pv (.sc (.bool false)),.pv (.sc (.int .i64 0)),.pv (.sc (.string ⟨#[]⟩))] []),qi 12 (.seq false [2,0,1] (.t 10) (.t 11)),mi 5 12] [] [1,3,4,5] [1,1021,1026,1032,1035]) (.seq (.seq (.reg [qi 13 (.fa (.t 1) 0),qi 14 (.ld (.t 13) 1 false)] [] [1,3,4,5,14] [1,1021,1026,1032,1035]) (.block 0 (.seq (.reg [qi 16 (.bin .eql (.t 14) (.c (.string ⟨#[97,108,108]⟩))),mi 15 16] [] [1,3,4,5,14,15] [1,1021,1026,1032,1035]) (.cond (.t 15) .skip (.seq (.reg [qi 18 (.bin .eql (.t 14) (.c (.string ⟨#[116,111,112,105,99]⟩))),mi 17 18] [] [1,3,4,5,14,17] [1,1021,1026,1032,1035]) (.cond (.t 17) (.reg [qi 19 (.fa (.t 1) 1),qi 20 (.ld (.t 19) 1 false),⟨some 21,none,.call (.f 39) [.t 20]⟩,mi 3 21] [] [1,3,4,5] [1,1021,1026,1032,1035]) (.seq (.reg [qi 23 (.bin .eql (.t 14) (.c (.string ⟨#[104,97,115]⟩))),mi 22 23] [] [1,3,4,5,14,22] [1,1021,1026,1032,1035]) (.cond (.t 22) (.reg [qi 24 (.fa (.t 1) 1),qi 25 (.ld (.t 24) 1 false),⟨some 26,none,.call (.f 61) [.t 25]⟩,mi 3 26] [] [1,3,4,5] [1,1021,1026,1032,1035]) (.seq (.seq (.reg [qi 28 (.bin .eql (.t 14) (.c (.string ⟨#[101,113]⟩))),mi 27 28] [] [1,3,4,5,14,27] [1,1021,1026,1032,1035]) (.cond (.t 27) .skip (.reg [qi 29 (.bin .eql (.t 14) (.c (.string ⟨#[108,116]⟩))),mi 27 29] [] [1,3,4,5,14,27] [1,1021,1026,1032,1035]))) (.cond (.t 27) (.reg [qi 30 (.fa (.t 1) 1),qi 31 (.ld (.t 30) 1 false),qi 33 (.fa (.t 1) 2),qi 34 (.ld (.t 33) 3 true),⟨some 32,none,.call (.f 61) [.t 31]⟩,⟨some 35,none,.call (.f 62) [.t 34]⟩,mi 3 32,mi 5 35] [] [1,3,4,5] [1,1021,1026,1032,1035]) (.seq (.reg [qi 37 (.bin .eql (.t 14) (.c (.string ⟨#[110,111,116]⟩))),mi 36 37] [] [1,3,5,14,36] [1,1021,1026,1032,1035]) (.cond (.t 36) (.reg [qi 4 (.mv (ic 1))] [] [1,3,4,5] [1,1021,1026,1032,1035]) (.seq (.seq (.reg [qi 39 (.bin .eql (.t 14) (.c (.string ⟨#[97,110,100]⟩))),mi 38 39] [] [1,3,5,14,38] [1,1021,1026,1032,1035]) (.cond (.t 38) .skip (.reg [qi 40 (.bin .eql (.t 14) (.c (.string ⟨#[111,114]⟩))),mi 38 40] [] [1,3,5,38] [1,1021,1026,1032,1035]))) (.cond (.t 38) (.reg [qi 4 (.mv (ic 2))] [] [1,3,4,5] [1,1021,1026,1032,1035]) (.seq (.reg [qi 2 (.mv (.c (.bool false)))] [] [2] [1021,1026,1032,1035]) .ret))))))))))))))) (.seq (.reg [mi 41 3,mi 42 41,gi 43 42 true (.mv (.t 5)),qi 44 (.pick (.t 42) (.t 43) (.c (.bool false))),mi 45 44,gi 46 45 true (.fa (.t 1) 5),gi 47 45 true (.ld (.t 46) 1 false),gi 48 45 true (.len (.t 47) false),gi 49 45 true (.mv (.t 4)),gi 50 45 true (.bin .eql (.t 48) (.t 49)),qi 51 (.pick (.t 45) (.t 50) (.c (.bool false))),mi 2 51] [] [2] [1021,1026,1032,1035]) .ret))))))
theorem mc115 : ofCode Tryz.prog [] Tryz.f115.ntmps [(0, ⟨[1], [1], [], 0, [], none⟩),
  (1, ⟨[1, 3], [1, 1021, 1026, 1032], [], 0, [], none⟩),
  (2, ⟨[1, 3, 4], [1, 1021, 1026, 1032], [], 0, [], none⟩),
  (3, ⟨[1, 3, 4, 5], [1, 1021, 1026, 1032, 1035], [], 0, [], none⟩),
  (4, ⟨[1, 3, 4, 5, 14], [1, 1021, 1026, 1032, 1035], [], 0, [], none⟩),
  (5, ⟨[2], [1021, 1026, 1032, 1035], [], 0, [], none⟩),
  (6, ⟨[1, 3, 4, 5, 14, 15], [1, 1021, 1026, 1032, 1035], [], 0, [], none⟩),
  (7, ⟨[1, 3, 4, 5, 14, 17], [1, 1021, 1026, 1032, 1035], [], 0, [], none⟩),
  (8, ⟨[1, 3, 4, 5], [1, 1021, 1026, 1032, 1035], [], 0, [], none⟩),
  (9, ⟨[1, 3, 4, 5, 14, 22], [1, 1021, 1026, 1032, 1035], [], 0, [], none⟩),
  (10, ⟨[1, 3, 4, 5], [1, 1021, 1026, 1032, 1035], [], 0, [], none⟩),
  (11, ⟨[1, 3, 4, 5, 14, 27], [1, 1021, 1026, 1032, 1035], [], 0, [], none⟩),
  (12, ⟨[1, 3, 4, 5, 14, 27], [1, 1021, 1026, 1032, 1035], [], 0, [], none⟩),
  (13, ⟨[1, 3, 4, 5], [1, 1021, 1026, 1032, 1035], [(0, 231), (1, 230), (3, 248), (4, 240), (2, 0), (5, 0), (6, 192), (7, 128)], 255, [], none⟩),
  (14, ⟨[1, 3, 5, 14, 36], [1, 1021, 1026, 1032, 1035], [], 0, [], none⟩),
  (15, ⟨[1, 3, 4, 5], [1, 1021, 1026, 1032, 1035], [], 0, [], none⟩),
  (16, ⟨[1, 3, 5, 14, 38], [1, 1021, 1026, 1032, 1035], [], 0, [], none⟩),
  (17, ⟨[1, 3, 5, 38], [1, 1021, 1026, 1032, 1035], [], 0, [], none⟩),
  (18, ⟨[1, 3, 4, 5], [1, 1021, 1026, 1032, 1035], [], 0, [], none⟩),
  (19, ⟨[2], [1021, 1026, 1032, 1035], [], 0, [], none⟩)] (Tryz.f115.body.getD .skip) = some M115 := by kernel_rfl
theorem Run115 {args : List PV} {v : AV} {rs : List (Nat × List PV)} (ids : List Bool) (h : args.length ≤ 52) (hv : run Tryz.prog (retK [RV.tmp 2] ids v rs) M115 [] ⟨entry 0 args, []⟩) : Fn Tryz.prog 115 args v rs :=
 Fn_run ids (by kernel_rfl) Tryz.func115 (by decide) rfl mc115 (by kernel_rfl) (by rw [Tryz.ntmps115]; exact h) (by rw [Tryz.ntmps115]; decide) hv
end Go.Vc

namespace Go.Vc
open Go Go.Proofs Go.Shelf Go.RowKit Go.Sort Go.Lib
set_option linter.unusedSimpArgs false
set_option linter.unusedVariables false
set_option maxRecDepth 100000
def ren173 : Ren := ⟨fun n => if n = 173 then 89 else if n = 246 then 110 else ren176.f n, ren176.t, ren176.g⟩
theorem lays173 : Lays.n173 Tryz.prog ren173 where
 mixed := by kernel_rfl
 f129 := by kernel_rfl
 f173 := by kernel_rfl
 f246 := by kernel_rfl
 f283 := by kernel_rfl
 f284 := by kernel_rfl
 f285 := by kernel_rfl
 f286 := by kernel_rfl
 f317 := by kernel_rfl
 f318 := by kernel_rfl
 f319 := by kernel_rfl
 f320 := by kernel_rfl
 f337 := by kernel_rfl
 f338 := by kernel_rfl
 t0 := by kernel_rfl
 a0 := fun w => by kernel_rfl
 z0 := fun w => by kernel_rfl
 v0 := fun w => by kernel_rfl
 t2 := by kernel_rfl
 a2 := fun w => by kernel_rfl
 z2 := fun w => by kernel_rfl
 v2 := fun w => by kernel_rfl
 t3 := by kernel_rfl
 a3 := fun w => by kernel_rfl
 z3 := fun w => by kernel_rfl
 v3 := fun w => by kernel_rfl
 t4 := by kernel_rfl
 a4 := fun w => by kernel_rfl
 z4 := fun w => by kernel_rfl
 v4 := fun w => by kernel_rfl
 t5 := by kernel_rfl
 a5 := fun w => by kernel_rfl
 z5 := fun w => by kernel_rfl
 v5 := fun w => by kernel_rfl
 t9 := by kernel_rfl
 a9 := fun w => by kernel_rfl
 z9 := fun w => by kernel_rfl
 v9 := fun w => by kernel_rfl
 t20 := by kernel_rfl
 a20 := fun w => by kernel_rfl
 z20 := fun w => by kernel_rfl
 v20 := fun w => by kernel_rfl
 t37 := by kernel_rfl
 a37 := fun w => by kernel_rfl
 z37 := fun w => by kernel_rfl
 v37 := fun w => by kernel_rfl
 t46 := by kernel_rfl
 a46 := fun w => by kernel_rfl
 z46 := fun w => by kernel_rfl
 v46 := fun w => by kernel_rfl
 t51 := by kernel_rfl
 a51 := fun w => by kernel_rfl
 z51 := fun w => by kernel_rfl
 v51 := fun w => by kernel_rfl
 t53 := by kernel_rfl
 a53 := fun w => by kernel_rfl
 z53 := fun w => by kernel_rfl
 v53 := fun w => by kernel_rfl
 t171 := by kernel_rfl
 a171 := fun w => by kernel_rfl
 z171 := fun w => by kernel_rfl
 v171 := fun w => by kernel_rfl
 t173 := by kernel_rfl
 a173 := fun w => by kernel_rfl
 z173 := fun w => by kernel_rfl
 v173 := fun w => by kernel_rfl
 t212 := by kernel_rfl
 a212 := fun w => by kernel_rfl
 z212 := fun w => by kernel_rfl
 v212 := fun w => by kernel_rfl
 t213 := by kernel_rfl
 a213 := fun w => by kernel_rfl
 z213 := fun w => by kernel_rfl
 t232 := by kernel_rfl
 a232 := fun w => by kernel_rfl
 z232 := fun w => by kernel_rfl
 v232 := fun w => by kernel_rfl
 t233 := by kernel_rfl
 a233 := fun w => by kernel_rfl
 z233 := fun w => by kernel_rfl
 v233 := fun w => by kernel_rfl
 g17 := by kernel_rfl
 g18 := by kernel_rfl
 g19 := by kernel_rfl
theorem laysM173 : LaysM.n173 Tryz.prog ren173 where
 ton173 := lays173
 i0 := by kernel_rfl
 i2 := by kernel_rfl
 i3 := by kernel_rfl
 i4 := by kernel_rfl
 i5 := by kernel_rfl
 i9 := by kernel_rfl
 i20 := by kernel_rfl
 i37 := by kernel_rfl
 i46 := by kernel_rfl
 i51 := by kernel_rfl
 i53 := by kernel_rfl
 i171 := by kernel_rfl
 i173 := by kernel_rfl
 i212 := by kernel_rfl
 i232 := by kernel_rfl
 i233 := by kernel_rfl
 m17 := by kernel_rfl
 m18 := by kernel_rfl
 m19 := by kernel_rfl
theorem fn89 (n : Int) (h0 : -9223372036854775808 ≤ n) (h1 : n ≤ 9223372036854775807) : Fn Tryz.prog 89 [pI n, pI 10] (.pv (pS ⟨(Lib.itoa n).toArray⟩)) [] := by
 refine ⟨enters_of (fn := Tryz.f89) Tryz.func89 (by decide) rfl, fun w F vs hF htb hv => ?_⟩
 simp only [PRels, PRel] at hv
 obtain ⟨u, r, rfl, rfl, u', r', rfl, rfl, rfl⟩ := hv
 have hg : Tryz.prog.globalNamed "internal/strconv.uint64pow10" = some 1 := by kernel_rfl
 obtain ⟨t1, t2, t3⟩ := htb ("internal/strconv.uint64pow10", .u64, Lib.pow10Tab) (by simp [tabList]) 1 hg
 have := Any.strconv_FormatInt_10 laysM173 n h0 h1 w t3
 refine this.mono fun en w' ⟨e1, k, os, e2⟩ => ?_
 subst e1; subst e2
 refine ⟨_, ⟨grow (w.drewN k) os, F, fun _ => default⟩, rfl, rfl, ⟨⟨rfl, rfl, rfl, Lib.size_grow w k os, fun g hg => Lib.heap_grow_old w k os g hg, by show w.drawn ≤ w.drawn + k; omega⟩, by simp [VRel, PRel], fun i s xs h => by simp at h, fun i j hi => by simp at hi, fun i hi => by simp at hi, fun b => by simp⟩⟩
end Go.Vc

namespace Go.Vc
open Go.Proofs
set_option maxRecDepth 100000
def M64 : MC := (.seq (.reg [⟨some 3,none,.box (.t 0)⟩] [] [1,2,3] [3,20,150000,200000,200001,200002]) (.seq (.reg [qi 7 (.ld (.t 1) 1 false),qi 8 (.ld (.t 3) 2 true),qi 9 (.mget (.t 7) (.t 8) true (Kk.st [0,0]) (.pv (.agg []))),mi 6 9,qi 10 (.ext (.t 6) 0),qi 11 (.ext (.t 6) 1),⟨some 4,none,.alloc []⟩,⟨none,none,.st (.t 4) (.t 10) 0⟩,mi 5 11] [] [1,2,3,5] [3,20,150000,200000,200001,200002]) (.seq (.reg [mi 12 5,qi 13 (.not (.t 12))] [] [1,2,3,13] [3,20,150000,200000,200001,200002]) (.cond (.t 13) (.seq (.reg [qi 14 (.ld (.t 1) 1 false),qi 15 (.ld (.t 3) 2 true),qi 16 (.mk [] []),⟨none,none,.mset (.t 14) (.t 15) (.t 16) (Kk.st [0,0])⟩] [] [2,3] [3,20,150000,200000,200001,200002]) (.reg [qi 17 (.ld (.t 2) 1 false),qi 18 (.ld (.t 3) 2 true),⟨some 19,none,.lits [.t 18] 2⟩,⟨some 20,none,.app (.t 17) (.t 19) 2 16⟩,⟨none,none,.st (.t 2) (.t 20) 1⟩] [] [] [20,150000,200000,200001,200002])) .skip))))
theorem mc64 : ofCode Tryz.prog [] Tryz.f64.ntmps [(0, ⟨[1, 2, 3], [3, 20, 150000, 200000, 200001, 200002], [], 0, [], none⟩),
  (1, ⟨[1, 2, 3, 5], [3, 20, 150000, 200000, 200001, 200002], [], 0, [], none⟩),
  (2, ⟨[1, 2, 3, 13], [3, 20, 150000, 200000, 200001, 200002], [], 0, [], none⟩),
  (3, ⟨[2, 3], [3, 20, 150000, 200000, 200001, 200002], [], 0, [], none⟩),
  (4, ⟨[], [20, 150000, 200000, 200001, 200002], [], 0, [], none⟩)] (Tryz.f64.body.getD .skip) = some M64 := by kernel_rfl
theorem RunS64 {args : List AV} {st st' : List (Nat × Row)} {v : AV} (h : args.length ≤ 21) (hk : (st'.map (·.1)).Nodup) (hv : run Tryz.prog (retS [] v st') M64 [] ⟨entryA 0 args, st⟩) : FnS Tryz.prog 64 args st v st' :=
 FnS_run (by kernel_rfl) Tryz.func64 (by decide) rfl mc64 (by kernel_rfl) (by rw [Tryz.ntmps64]; exact h) (by rw [Tryz.ntmps64]; decide) hk hv
def B31_0 : MC := (.seq (.seq (.reg [qi 34 (.ld (.t 8) 1 false),qi 35 (.len (.t 34) false),qi 36 (.bin .gtr (.t 35) (ic 0))] [] [5,6,7,8,9,36] [7,8,27,32,1024,1026,1072,1081,1104]) (.cond (.t 36) .skip (.exit 0))) (.block 1 (.seq (.reg [qi 37 (.ld (.t 8) 1 false),qi 38 (.ld (.t 8) 1 false),qi 39 (.len (.t 38) false),qi 40 (.bin .sub (.t 39) (ic 1)),qi 41 (.ia (.t 37) (.t 40) 2),qi 42 (.ld (.t 41) 2 true),⟨some 10,none,.alloc [.pv (.sc (.int .i64 0)),.pv (.sc (.int .i64 0))]⟩,⟨none,none,.st (.t 10) (.t 42) 2⟩] [] [5,6,7,8,9,10] [7,8,10,27,32,1024,1026,1072,1081,1104]) (.seq (.reg [qi 43 (.ld (.t 8) 1 false),qi 44 (.ld (.t 8) 1 false),qi 45 (.len (.t 44) false),qi 46 (.bin .sub (.t 45) (ic 1)),qi 47 (.slc (.t 43) none (some (.t 46)) 2 false),⟨none,none,.st (.t 8) (.t 47) 1⟩] [] [5,6,7,8,9,10] [7,8,10,27,32,1024,1026,1072,1081,1104]) (.seq (.seq (.reg [qi 48 (.fa (.t 10) 0),qi 49 (.ld (.t 48) 1 false),mi 50 5,qi 51 (.len (.t 50) false),qi 52 (.bin .eql (.t 49) (.t 51))] [] [5,6,7,8,9,10,52] [7,8,10,27,32,1024,1026,1072,1081,1104]) (.cond (.t 52) (.exit 1) .skip)) (.seq (.reg [mi 53 5,qi 54 (.fa (.t 10) 0),qi 55 (.ld (.t 54) 1 false),qi 56 (.ia (.t 53) (.t 55) 1),qi 57 (.ld (.t 56) 1 false),qi 58 (.fa (.t 10) 1),qi 59 (.ld (.t 58) 1 false),mi 60 6,qi 61 (.len (.t 60) false),qi 62 (.bin .lss (.t 59) (.t 61)),mi 11 57,mi 12 62] [] [5,6,7,8,9,10,11,12] [7,8,10,27,32,1024,1026,1072,1081,1104]) (.seq (.reg [mi 63 11,qi 64 (.bin .eql (.t 63) (.c (.string ⟨#[42,42]⟩)))] [] [5,6,7,8,9,10,11,12,64] [7,8,10,27,32,1024,1026,1072,1081,1104]) (.cond (.t 64) (.seq (.reg [mi 65 9,qi 66 (.fa (.t 10) 0),qi 67 (.ld (.t 66) 1 false),qi 68 (.bin .add (.t 67) (ic 1)),qi 69 (.fa (.t 10) 1),qi 70 (.ld (.t 69) 1 false),qi 71 (.mk [.pv (.sc (.int .i64 0)),.pv (.sc (.int .i64 0))] [(0,1,(.t 68)),(1,1,(.t 70))]),⟨some 72,none,.calls (.t 65) [.t 71]⟩] [] [5,6,7,8,9,10,12] [7,8,10,27,32,1024,1026,1072,1081,1104]) (.seq (.reg [mi 73 12] [] [5,6,7,8,9,10,73] [7,8,10,27,32,1024,1026,1072,1081,1104]) (.cond (.t 73) (.reg [mi 74 9,qi 75 (.fa (.t 10) 0),qi 76 (.ld (.t 75) 1 false),qi 77 (.fa (.t 10) 1),qi 78 (.ld (.t 77) 1 false),qi 79 (.bin .add (.t 78) (ic 1)),qi 80 (.mk [.pv (.sc (.int .i64 0)),.pv (.sc (.int .i64 0))] [(0,1,(.t 76)),(1,1,(.t 79))]),⟨some 81,none,.calls (.t 74) [.t 80]⟩] [] [5,6,7,8,9] [7,8,27,32,1024,1026,1072,1081,1104]) .skip))) (.seq (.reg [mi 82 12,mi 83 82,gi 84 83 true (.mv (.t 11)),gi 85 83 true (.bin .eql (.t 84) (.c (.string ⟨#[42]⟩))),gi 86 83 true (.mv (.t 85)),gi 87 86 false (.mv (.t 11)),gi 88 86 false (.mv (.t 6)),gi 89 86 false (.fa (.t 10) 1),gi 90 86 false (.ld (.t 89) 1 false),gi 91 86 false (.ia (.t 88) (.t 90) 1),gi 92 86 false (.ld (.t 91) 1 false),gi 93 86 false (.bin .eql (.t 87) (.t 92)),gi 94 83 true (.pick (.t 86) (.c (.bool true)) (.t 93)),qi 95 (.pick (.t 83) (.t 94) (.c (.bool false)))] [] [5,6,7,8,9,10,95] [7,8,10,27,32,1024,1026,1072,1081,1104]) (.cond (.t 95) (.reg [mi 96 9,qi 97 (.fa (.t 10) 0),qi 98 (.ld (.t 97) 1 false),qi 99 (.bin .add (.t 98) (ic 1)),qi 100 (.fa (.t 10) 1),qi 101 (.ld (.t 100) 1 false),qi 102 (.bin .add (.t 101) (ic 1)),qi 103 (.mk [.pv (.sc (.int .i64 0)),.pv (.sc (.int .i64 0))] [(0,1,(.t 99)),(1,1,(.t 102))]),⟨some 104,none,.calls (.t 96) [.t 103]⟩] [] [5,6,7,8,9] [7,8,27,32,1024,1026,1072,1081,1104]) .skip))))))))))
def R31_0 : MC := (.seq (.reg [qi 106 (.ld (.t 7) 1 false),mi 107 5,qi 108 (.len (.t 107) false),mi 109 6,qi 110 (.len (.t 109) false),qi 111 (.mk [.pv (.sc (.int .i64 0)),.pv (.sc (.int .i64 0))] [(0,1,(.t 108)),(1,1,(.t 110))]),qi 112 (.mget (.t 106) (.t 111) true (Kk.st [0,0]) (.pv (.agg []))),mi 105 112,qi 113 (.ext (.t 105) 0),qi 114 (.ext (.t 105) 1),⟨some 13,none,.alloc []⟩,⟨none,none,.st (.t 13) (.t 113) 0⟩,mi 14 114] [] [14] [27,1072,1081,1104]) (.seq (.reg [mi 115 14,mi 4 115] [] [4] [27,1072,1081,1104]) .ret))
def M31 : MC := (.seq (.reg [qi 4 (.mv (.c (.bool false)))] [] [0,1] []) (.seq (.seq (.reg [mi 15 0,⟨some 16,none,.call (.f 39) [.t 15]⟩,qi 17 (.not (.t 16)),mi 18 17,gi 19 18 false (.mv (.t 1)),⟨some 20,some (18,false),.call (.f 56) [.t 19]⟩,gi 21 18 false (.not (.t 20)),qi 22 (.pick (.t 18) (.c (.bool true)) (.t 21))] [] [0,1,22] [1016,1020]) (.cond (.t 22) (.seq (.reg [qi 4 (.mv (.c (.bool false)))] [] [4] [27,1072,1081,1104]) .ret) .skip)) (.seq (.reg [mi 23 0,⟨some 24,none,.call (.f 63) [.t 23,.c (.string ⟨#[46]⟩)]⟩,mi 25 1,⟨some 26,none,.call (.f 63) [.t 25,.c (.string ⟨#[46]⟩)]⟩,mi 5 24,mi 6 26] [] [5,6] [1024,1026]) (.seq (.reg [⟨some 27,none,.mkm⟩,qi 28 (.mk [.pv (.sc (.int .i64 0)),.pv (.sc (.int .i64 0))] [(0,1,(ic 0)),(1,1,(ic 0))]),qi 29 (.mk [] []),⟨none,none,.mset (.t 27) (.t 28) (.t 29) (Kk.st [0,0])⟩,mi 30 27,⟨some 7,none,.alloc [.pv (.sc (.map none))]⟩,⟨none,none,.st (.t 7) (.t 30) 1⟩] [] [5,6,7] [7,27,1024,1026,1072,1081,1104]) (.seq (.reg [qi 31 (.mk [.pv (.sc (.int .i64 0)),.pv (.sc (.int .i64 0))] [(0,1,(ic 0)),(1,1,(ic 0))]),⟨some 32,none,.own [.t 31] 2⟩,⟨some 8,none,.alloc [.e0]⟩,⟨none,none,.st (.t 8) (.t 32) 1⟩] [] [5,6,7,8] [7,8,27,32,1024,1026,1072,1081,1104]) (.seq (.reg [qi 33 (.clo 64 [.t 7,.t 8]),mi 9 33] [] [5,6,7,8,9] [7,8,27,32,1024,1026,1072,1081,1104]) (.seq (.block 0 (.loop B31_0)) R31_0)))))))
theorem mc31 : ofCode Tryz.prog [32, 72, 81, 104] Tryz.f31.ntmps [(0, ⟨[0, 1], [], [], 0, [], none⟩),
  (1, ⟨[0, 1, 22], [1016, 1020], [], 0, [], none⟩),
  (2, ⟨[4], [27, 1072, 1081, 1104], [], 0, [], none⟩),
  (3, ⟨[5, 6], [1024, 1026], [], 0, [], none⟩),
  (4, ⟨[5, 6, 7], [7, 27, 1024, 1026, 1072, 1081, 1104], [], 0, [], none⟩),
  (5, ⟨[5, 6, 7, 8], [7, 8, 27, 32, 1024, 1026, 1072, 1081, 1104], [], 0, [], none⟩),
  (6, ⟨[5, 6, 7, 8, 9], [7, 8, 27, 32, 1024, 1026, 1072, 1081, 1104], [], 0, [], none⟩),
  (7, ⟨[5, 6, 7, 8, 9, 36], [7, 8, 27, 32, 1024, 1026, 1072, 1081, 1104], [], 0, [], none⟩),
  (8, ⟨[5, 6, 7, 8, 9, 10], [7, 8, 10, 27, 32, 1024, 1026, 1072, 1081, 1104], [], 0, [], none⟩),
  (9, ⟨[5, 6, 7, 8, 9, 10], [7, 8, 10, 27, 32, 1024, 1026, 1072, 1081, 1104], [], 0, [], none⟩),
  (10, ⟨[5, 6, 7, 8, 9, 10, 52], [7, 8, 10, 27, 32, 1024, 1026, 1072, 1081, 1104], [], 0, [], none⟩),
  (11, ⟨[5, 6, 7, 8, 9, 10, 11, 12], [7, 8, 10, 27, 32, 1024, 1026, 1072, 1081, 1104], [(0, 3097), (1, 3102), (2, 3100), (3, 3096), (4, 3088), (5, 2656), (6, 2624), (7, 2944), (8, 2816), (9, 2560), (10, 3072), (11, 2048)], 4095, [], none⟩),
  (12, ⟨[5, 6, 7, 8, 9, 10, 11, 12, 64], [7, 8, 10, 27, 32, 1024, 1026, 1072, 1081, 1104], [], 0, [], none⟩),
  (13, ⟨[5, 6, 7, 8, 9, 10, 12], [7, 8, 10, 27, 32, 1024, 1026, 1072, 1081, 1104], [], 0, [], none⟩),
  (14, ⟨[5, 6, 7, 8, 9, 10, 73], [7, 8, 10, 27, 32, 1024, 1026, 1072, 1081, 1104], [], 0, [], none⟩),
  (15, ⟨[5, 6, 7, 8, 9], [7, 8, 27, 32, 1024, 1026, 1072, 1081, 1104], [], 0, [], none⟩),
  (16, ⟨[5, 6, 7, 8, 9, 10, 95], [7, 8, 10, 27, 32, 1024, 1026, 1072, 1081, 1104], [], 0, [], none⟩),
  (17, ⟨[5, 6, 7, 8, 9], [7, 8, 27, 32, 1024, 1026, 1072, 1081, 1104], [], 0, [], none⟩),
  (18, ⟨[14], [27, 1072, 1081, 1104], [], 0, [], none⟩),
  (19, ⟨[4], [27, 1072, 1081, 1104], [], 0, [], none⟩)] (Tryz.f31.body.getD .skip) = some M31 := by kernel_rfl
theorem Run31 {args : List PV} {v : AV} {rs : List (Nat × List PV)} (ids : List Bool) (h : args.length ≤ 116) (hv : run Tryz.prog (retK [RV.tmp 4] ids v rs) M31 [] ⟨entry 0 args, []⟩) : Fn Tryz.prog 31 args v rs :=
 Fn_run ids (by kernel_rfl) Tryz.func31 (by decide) rfl mc31 (by kernel_rfl) (by rw [Tryz.ntmps31]; exact h) (by rw [Tryz.ntmps31]; decide) hv
end Go.Vc
