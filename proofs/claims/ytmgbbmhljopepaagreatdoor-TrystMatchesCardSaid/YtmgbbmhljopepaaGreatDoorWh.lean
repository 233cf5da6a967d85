/- A part of the proofs of the seat YtmgbbmhljopepaaGreatDoor: the contracts of functions, each proved out of its code. -/
import Derived.Test.YtmgbbmhljopepaaGreatDoorWb
import Derived.Test.YtmgbbmhljopepaaGreatDoorWg
import Derived.Test.YtmgbbmhljopepaaGreatDoorVe
import Derived.Test.YtmgbbmhljopepaaGreatDoorProg
namespace Go.Vc
set_option linter.unusedSimpArgs false
set_option linter.unusedVariables false
structure DF where
 signs : List ByteArray
 next : List (List Int)
 done : List (List Nat)
 deriving Inhabited
def addS (L : List (List Nat)) (T : List Nat) : List (List Nat) := if T = [] ∨ T ∈ L then L else L ++ [T]
def numS (L : List (List Nat)) (T : List Nat) : Int := if T = [] then -1 else (L.idxOf T : Int)
def rowL (n : NF) (S : List Nat) (L : List (List Nat)) : Nat → List (List Nat)
 | 0 => L
 | k + 1 => addS (rowL n S L k) (stepN n (toI S) (k : Int))
def rowN (n : NF) (S : List Nat) (L : List (List Nat)) : Nat → List Int
 | 0 => []
 | k + 1 => rowN n S L k ++ [numS (rowL n S L k) (stepN n (toI S) (k : Int))]
def doneOf (n : NF) (S : List Nat) : List Nat := (List.range n.beg.length).filter fun g => S.any fun s => decide (g ∈ n.done.getD s [])
def NF.wid (n : NF) : Nat := n.signs.length + 1
def bfsL (n : NF) : Nat → List (List Nat)
 | 0 => [closeN n (begI n)]
 | i + 1 => rowL n ((bfsL n i).getD i []) (bfsL n i) n.wid
def bfsN (n : NF) (k : Nat) : List (List Int) := (List.range k).map fun i => rowN n ((bfsL n i).getD i []) (bfsL n i) n.wid
def bfsD (n : NF) (k : Nat) : List (List Nat) := (List.range k).map fun i => doneOf n ((bfsL n i).getD i [])
def endD (n : NF) (most : Nat) : Nat → Nat → Option Nat
 | 0, _ => none
 | f + 1, i => if (bfsL n i).length ≤ i then some i else if most < (bfsL n (i + 1)).length then none else endD n most f (i + 1)
def dfaK (n : NF) (most : Nat) : Option Nat := endD n most (most + 2) 0
def dfaOf (n : NF) (k : Nat) : DF := ⟨n.signs, bfsN n k, bfsD n k⟩
theorem addS_pre (L : List (List Nat)) (T : List Nat) : L <+: addS L T := by
 unfold addS; split
 ·exact List.prefix_refl _
 ·exact List.prefix_append _ _
theorem rowL_pre (n : NF) (S : List Nat) (L : List (List Nat)) : ∀ {j k : Nat}, j ≤ k → rowL n S L j <+: rowL n S L k
 | j, 0, h => by
  obtain rfl : j = 0 := by omega
  exact List.prefix_refl _
 | j, k + 1, h => by
  rcases Nat.lt_or_ge j (k + 1) with h1 | h1
  ·exact (rowL_pre n S L (by omega : j ≤ k)).trans (addS_pre _ _)
  ·obtain rfl : j = k + 1 := by omega
   exact List.prefix_refl _
theorem bfsL_pre (n : NF) : ∀ {i j : Nat}, i ≤ j → bfsL n i <+: bfsL n j
 | i, 0, h => by
  obtain rfl : i = 0 := by omega
  exact List.prefix_refl _
 | i, j + 1, h => by
  rcases Nat.lt_or_ge i (j + 1) with h1 | h1
  ·exact (bfsL_pre n (by omega : i ≤ j)).trans (rowL_pre n _ _ (Nat.zero_le n.wid))
  ·obtain rfl : i = j + 1 := by omega
   exact List.prefix_refl _
theorem pre_get {α : Type} {L M : List α} {d : α} (h : L <+: M) {i : Nat} (hi : i < L.length) : M.getD i d = L.getD i d := by
 obtain ⟨X, rfl⟩ := h
 simp [List.getD_eq_getElem?_getD, List.getElem?_append_left hi]
theorem addS_mem {L : List (List Nat)} {T U : List Nat} : U ∈ addS L T ↔ U ∈ L ∨ (U = T ∧ T ≠ []) := by
 unfold addS; split
 ·rename_i h
  constructor
  ·exact .inl
  ·rintro (h1 | ⟨rfl, h1⟩)
   ·exact h1
   ·exact h.resolve_left h1
 ·rename_i h
  rw [not_or] at h
  simp only [List.mem_append, List.mem_singleton]
  constructor
  ·rintro (h1 | h1)
   ·exact .inl h1
   ·exact .inr ⟨h1, h.1⟩
  ·rintro (h1 | h1)
   ·exact .inl h1
   ·exact .inr h1.1
theorem rowL_mem {n : NF} {S : List Nat} {L : List (List Nat)} {U : List Nat} : ∀ {k : Nat}, U ∈ rowL n S L k ↔ U ∈ L ∨ ∃ a, a < k ∧ U = stepN n (toI S) (a : Int) ∧ U ≠ []
 | 0 => by simp [rowL]
 | k + 1 => by
  simp only [rowL]
  rw [addS_mem, rowL_mem]
  constructor
  ·rintro ((h | ⟨a, h1, h2⟩) | ⟨h1, h2⟩)
   ·exact .inl h
   ·exact .inr ⟨a, by omega, h2⟩
   ·exact .inr ⟨k, by omega, h1, h1 ▸ h2⟩
  ·rintro (h | ⟨a, h1, h2, h3⟩)
   ·exact .inl (.inl h)
   ·rcases Nat.lt_or_ge a k with h4 | h4
    ·exact .inl (.inr ⟨a, h4, h2, h3⟩)
    ·obtain rfl : a = k := by omega
     exact .inr ⟨h2, h2 ▸ h3⟩
theorem rowN_len (n : NF) (S : List Nat) (L : List (List Nat)) : ∀ k, (rowN n S L k).length = k
 | 0 => rfl
 | k + 1 => by simp [rowN, rowN_len n S L k]
theorem numS_pre {L M : List (List Nat)} {T : List Nat} (h : L <+: M) (hT : T = [] ∨ T ∈ L) : numS M T = numS L T := by
 unfold numS
 split
 ·rfl
 ·rename_i h1
  have h2 := hT.resolve_left h1
  obtain ⟨X, rfl⟩ := h
  rw [List.idxOf_append, if_pos h2]
theorem numS_add (L : List (List Nat)) (T : List Nat) : numS (addS L T) T = numS L T := by
 unfold numS
 split
 ·rfl
 ·rename_i h1
  unfold addS
  by_cases h2 : T ∈ L
  ·rw [if_pos (.inr h2)]
  ·rw [if_neg (by rw [not_or]; exact ⟨h1, h2⟩), List.idxOf_append, if_neg h2, List.idxOf_eq_length h2]; simp
theorem rowN_at {n : NF} {S : List Nat} {L : List (List Nat)} : ∀ {k a : Nat}, a < k → (rowN n S L k).getD a 0 = numS (rowL n S L k) (stepN n (toI S) (a : Int))
 | 0, a, h => by omega
 | k + 1, a, h => by
  have hl := rowN_len n S L k
  rcases Nat.lt_or_ge a k with h1 | h1
  ·rw [rowN, List.getD_eq_getElem?_getD, List.getElem?_append_left (by omega), ← List.getD_eq_getElem?_getD, rowN_at h1]
   have hmem : stepN n (toI S) (a : Int) = [] ∨ stepN n (toI S) (a : Int) ∈ rowL n S L k := by
    by_cases he : stepN n (toI S) (a : Int) = []
    ·exact .inl he
    ·exact .inr (rowL_mem.2 (.inr ⟨a, h1, rfl, he⟩))
   exact (numS_pre (rowL_pre n S L (Nat.le_succ k)) hmem).symm
  ·obtain rfl : a = k := by omega
   rw [rowN, List.getD_eq_getElem?_getD, List.getElem?_append_right (by omega), hl, Nat.sub_self]
   simp only [List.getElem?_cons_zero, Option.getD_some]
   exact (numS_add _ _).symm
theorem endD_spec {n : NF} {most : Nat} : ∀ {f i k : Nat}, endD n most f i = some k → i ≤ k ∧ (bfsL n k).length ≤ k ∧ (∀ j, i ≤ j → j < k → j < (bfsL n j).length ∧ (bfsL n (j + 1)).length ≤ most)
 | 0, _, _, h => by cases h
 | f + 1, i, k, h => by
  simp only [endD] at h
  split at h
  ·rename_i h1
   injection h with h; subst h
   exact ⟨Nat.le_refl _, h1, fun j h2 h3 => by omega⟩
  ·rename_i h1
   split at h
   ·cases h
   ·rename_i h2
    obtain ⟨h3, h4, h5⟩ := endD_spec h
    refine ⟨by omega, h4, fun j h6 h7 => ?_⟩
    rcases Nat.lt_or_ge i j with h8 | h8
    ·exact h5 j h8 h7
    ·obtain rfl : j = i := by omega
     exact ⟨by omega, by omega⟩
theorem bfsL_pos (n : NF) (i : Nat) : 0 < (bfsL n i).length := by
 exact Nat.lt_of_lt_of_le (by simp [bfsL]) (bfsL_pre n (Nat.zero_le i)).length_le
structure Whole (n : NF) (k : Nat) : Prop where
 len : (bfsL n k).length = k
 row : ∀ j, j < k → j < (bfsL n j).length
theorem dfaK_some {n : NF} {most k : Nat} (h : dfaK n most = some k) : Whole n k ∧ 1 ≤ k ∧ k ≤ most := by
 obtain ⟨_, h2, h3⟩ := endD_spec h
 have hp := bfsL_pos n k
 have h1 : 1 ≤ k := by omega
 obtain ⟨h5, h6⟩ := h3 (k - 1) (Nat.zero_le _) (by omega)
 have h7 := (bfsL_pre n (show k - 1 ≤ k by omega)).length_le
 rw [show k - 1 + 1 = k by omega] at h6
 exact ⟨⟨by omega, fun j hj => (h3 j (Nat.zero_le _) hj).1⟩, h1, by omega⟩
theorem Whole.get {n : NF} {k i j : Nat} (h : Whole n k) (hj : j < k) (hi : j ≤ i) (hik : i ≤ k) : (bfsL n i).getD j [] = (bfsL n k).getD j [] := by
 have h1 := h.row j hj
 have h2 := (bfsL_pre n hi).length_le
 exact (pre_get (bfsL_pre n hik) (by omega)).symm
theorem Whole.shut {n : NF} {k : Nat} (h : Whole n k) {S : List Nat} (hS : S ∈ bfsL n k) {a : Nat} (ha : a < n.wid) : stepN n (toI S) (a : Int) = [] ∨ stepN n (toI S) (a : Int) ∈ bfsL n k := by
 by_cases he : stepN n (toI S) (a : Int) = []
 ·exact .inl he
 ·right
  obtain ⟨j, hj, rfl⟩ := List.mem_iff_getElem.1 hS
  rw [h.len] at hj
  have hg := h.get hj (Nat.le_refl j) (by omega)
  have hg2 : (bfsL n k).getD j [] = (bfsL n k)[j] := by simp [List.getD_eq_getElem?_getD, h.len, hj]
  refine (bfsL_pre n (show j + 1 ≤ k by omega)).subset ?_
  simp only [bfsL]
  rw [hg, hg2]
  exact rowL_mem.2 (.inr ⟨a, ha, rfl, he⟩)
theorem Whole.walk {n : NF} {k : Nat} (h : Whole n k) (w : List ByteArray) : walkN n w = [] ∨ walkN n w ∈ bfsL n k := by
 rcases List.eq_nil_or_concat w with rfl | ⟨u, q, rfl⟩
 ·right
  refine (bfsL_pre n (Nat.zero_le k)).subset ?_
  simp [bfsL, walkN]
 ·rw [List.concat_eq_append, walkN_snoc]
  rcases Whole.walk h u with h1 | h1
  ·left
   rw [h1]
   unfold stepN
   split
   ·rfl
   ·exact closeN_nil n
  ·exact h.shut h1 (by unfold NF.wid; have := letterN_le n.signs q; omega)
termination_by w.length
decreasing_by subst_vars; simp
def stepD (d : DF) (at_ : Int) (q : ByteArray) : Int := if at_ < 0 then -1 else (d.next.getD at_.toNat []).getD (letterN d.signs q) 0
def runD (d : DF) (t : List ByteArray) : Int := t.foldl (stepD d) 0
theorem runD_snoc (d : DF) (t : List ByteArray) (q : ByteArray) : runD d (t ++ [q]) = stepD d (runD d t) q := by simp [runD]
def idxS (n : NF) (k : Nat) (t : List ByteArray) : Int := if walkN n t = [] ∧ t ≠ [] then -1 else ((bfsL n k).idxOf (walkN n t) : Int)
theorem walk_nil_step {n : NF} {t : List ByteArray} {q : ByteArray} (h : walkN n t = []) : walkN n (t ++ [q]) = [] := by
 rw [walkN_snoc, h]
 unfold stepN
 split
 ·rfl
 ·exact closeN_nil n
theorem idx_zero {n : NF} {k : Nat} : (bfsL n k).idxOf (walkN n []) = 0 := by
 obtain ⟨X, hX⟩ := bfsL_pre n (Nat.zero_le k)
 rw [← hX]
 simp [bfsL, walkN]
theorem runD_idx {n : NF} {k : Nat} (h : Whole n k) (t : List ByteArray) : runD (dfaOf n k) t = idxS n k t := by
 rcases List.eq_nil_or_concat t with rfl | ⟨u, q, rfl⟩
 ·unfold idxS
  rw [if_neg (by simp), idx_zero]; rfl
 ·rw [List.concat_eq_append, runD_snoc, runD_idx h u]
  unfold stepD
  by_cases hu : walkN n u = [] ∧ u ≠ []
  ·unfold idxS
   rw [if_pos hu, if_pos (by omega), if_pos ⟨walk_nil_step hu.1, by simp⟩]
  ·have hmem : walkN n u ∈ bfsL n k := by
    rcases h.walk u with h1 | h1
    ·obtain rfl : u = [] := by
      by_cases h2 : u = []
      ·exact h2
      ·exact absurd ⟨h1, h2⟩ hu
     refine (bfsL_pre n (Nat.zero_le k)).subset ?_
     simp [bfsL, walkN]
    ·exact h1
   have hj : (bfsL n k).idxOf (walkN n u) < k := by have := List.idxOf_lt_length_of_mem hmem; rwa [h.len] at this
   have hget : (bfsL n k).getD ((bfsL n k).idxOf (walkN n u)) [] = walkN n u := by
    rw [List.getD_eq_getElem?_getD, List.getElem?_eq_getElem (by rw [h.len]; exact hj)]
    simp
   have e1 : idxS n k u = ((bfsL n k).idxOf (walkN n u) : Int) := by unfold idxS; rw [if_neg hu]
   rw [e1, if_neg (by omega), Int.toNat_natCast]
   generalize hJ : (bfsL n k).idxOf (walkN n u) = j at hj hget
   have ha : letterN n.signs q < n.wid := by unfold NF.wid; have := letterN_le n.signs q; omega
   have hrow : (dfaOf n k).next.getD j [] = rowN n (walkN n u) (bfsL n j) n.wid := by
    have hg := h.get hj (Nat.le_refl j) (by omega)
    simp only [dfaOf, bfsN]
    rw [List.getD_eq_getElem?_getD, List.getElem?_map, List.getElem?_range hj]
    simp only [Option.map_some, Option.getD_some]
    rw [hg, hget]
   rw [hrow]
   show (rowN n (walkN n u) (bfsL n j) n.wid).getD (letterN n.signs q) 0 = _
   rw [rowN_at ha, ← walkN_snoc]
   have hpre : rowL n (walkN n u) (bfsL n j) n.wid <+: bfsL n k := by
    have e2 : rowL n (walkN n u) (bfsL n j) n.wid = bfsL n (j + 1) := by
     have hg := h.get hj (Nat.le_refl j) (by omega)
     simp only [bfsL]
     rw [hg, hget]
    rw [e2]
    exact bfsL_pre n (by omega)
   have hin : walkN n (u ++ [q]) = [] ∨ walkN n (u ++ [q]) ∈ rowL n (walkN n u) (bfsL n j) n.wid := by
    by_cases he : walkN n (u ++ [q]) = []
    ·exact .inl he
    ·exact .inr (rowL_mem.2 (.inr ⟨_, ha, by rw [walkN_snoc], he⟩))
   rw [← numS_pre hpre hin]
   unfold numS idxS
   by_cases he : walkN n (u ++ [q]) = []
   ·rw [if_pos he, if_pos ⟨he, by simp⟩]
   ·rw [if_neg he, if_neg (by rintro ⟨h1, _⟩; exact he h1)]
termination_by t.length
decreasing_by subst_vars; simp
def resD (d : DF) (t : List ByteArray) : List Nat := if runD d t < 0 then [] else d.done.getD (runD d t).toNat []
theorem resD_walk {n : NF} {k : Nat} (h : Whole n k) (t : List ByteArray) : resD (dfaOf n k) t = doneOf n (walkN n t) := by
 unfold resD
 rw [runD_idx h t]
 by_cases ht : walkN n t = [] ∧ t ≠ []
 ·unfold idxS
  rw [if_pos ht, if_pos (by omega), ht.1]
  simp [doneOf]
 ·have hmem : walkN n t ∈ bfsL n k := by
   rcases h.walk t with h1 | h1
   ·obtain rfl : t = [] := by
     by_cases h2 : t = []
     ·exact h2
     ·exact absurd ⟨h1, h2⟩ ht
    refine (bfsL_pre n (Nat.zero_le k)).subset ?_
    simp [bfsL, walkN]
   ·exact h1
  have hj : (bfsL n k).idxOf (walkN n t) < k := by have := List.idxOf_lt_length_of_mem hmem; rwa [h.len] at this
  have hget : (bfsL n k).getD ((bfsL n k).idxOf (walkN n t)) [] = walkN n t := by
   rw [List.getD_eq_getElem?_getD, List.getElem?_eq_getElem (by rw [h.len]; exact hj)]
   simp
  have e1 : idxS n k t = ((bfsL n k).idxOf (walkN n t) : Int) := by unfold idxS; rw [if_neg ht]
  rw [e1, if_neg (by omega), Int.toNat_natCast]
  generalize (bfsL n k).idxOf (walkN n t) = j at hj hget
  have hg := h.get hj (Nat.le_refl j) (by omega)
  simp only [dfaOf, bfsD]
  rw [List.getD_eq_getElem?_getD, List.getElem?_map, List.getElem?_range hj]
  simp only [Option.map_some, Option.getD_some]
  rw [hg, hget]
end Go.Vc

namespace Go.Vc
open Go.Proofs
set_option linter.unusedSimpArgs false
set_option linter.unusedVariables false
structure NF.Dn (n : NF) : Prop where
 lt : ∀ s s' g g', s < s' → g ∈ n.done.getD s [] → g' ∈ n.done.getD s' [] → g < g'
 one : ∀ s, (n.done.getD s []).length ≤ 1
 glob : ∀ s g, g ∈ n.done.getD s [] → g < n.beg.length
theorem done_at {gs : List (List ByteArray)} {s g : Nat} (h : g ∈ (nfaOf gs).done.getD s []) : ∃ hg : g < gs.length, s = base gs g + gs[g].length := by
 have hd : (nfaOf gs).done = doneG 0 gs := rfl
 rw [hd] at h
 rcases Nat.lt_or_ge s (base gs gs.length) with hs | hs
 ·obtain ⟨i, hi, _, k, hk, rfl⟩ := base_split _ (Nat.le_refl _) s hs
  rw [doneG_at gs 0 i k hi hk] at h
  split at h
  ·rename_i he
   simp only [Nat.zero_add, List.mem_singleton] at h
   subst h
   exact ⟨hi, by rw [he]⟩
  ·cases h
 ·rw [List.getD_eq_getElem?_getD, List.getElem?_eq_none (by rw [doneG_len]; omega)] at h
  cases h
theorem dn_nfa (gs : List (List ByteArray)) : (nfaOf gs).Dn where
 lt := fun s s' g g' hlt h h' => by
  obtain ⟨h1, e1⟩ := done_at h
  obtain ⟨h2, e2⟩ := done_at h'
  rcases Nat.lt_trichotomy g g' with h3 | h3 | h3
  ·exact h3
  ·subst h3; omega
  ·have := base_mono (gs := gs) h3 (by omega)
   omega
 one := fun s => by
  have hd : (nfaOf gs).done = doneG 0 gs := rfl
  rw [hd]
  rcases Nat.lt_or_ge s (base gs gs.length) with hs | hs
  ·obtain ⟨i, hi, _, k, hk, rfl⟩ := base_split _ (Nat.le_refl _) s hs
   rw [doneG_at gs 0 i k hi hk]
   split <;> simp
  ·rw [List.getD_eq_getElem?_getD, List.getElem?_eq_none (by rw [doneG_len]; omega)]; simp
 glob := fun s g h => by
  obtain ⟨h1, _⟩ := done_at h
  simp [nfaOf]; exact h1
def flatD (n : NF) (S : List Nat) : List Nat := S.flatMap fun s => n.done.getD s []
theorem flatD_ris {n : NF} (hn : n.Dn) {S : List Nat} (h : S.Pairwise (· < ·)) : (flatD n S).Pairwise (· < ·) := by
 unfold flatD
 rw [List.pairwise_flatMap]
 refine ⟨fun s _ => ?_, h.imp fun {a b} hab x hx y hy => hn.lt a b x y hab hx hy⟩
 have := hn.one s
 match hD : n.done.getD s [], this with
 | [], _ => simp
 | [x], _ => simp
 | x :: y :: r, h => simp at h
theorem flatD_eq {n : NF} (hn : n.Dn) {S : List Nat} (h : S.Pairwise (· < ·)) : flatD n S = doneOf n S := by
 refine risI_ext (flatD_ris hn h) (range_filter_ris _ _) fun g => ?_
 unfold flatD doneOf
 rw [List.mem_flatMap, List.mem_filter, List.mem_range, List.any_eq_true]
 constructor
 ·rintro ⟨s, h1, h2⟩
  exact ⟨hn.glob s g h2, s, h1, by simpa using h2⟩
 ·rintro ⟨_, s, h1, h2⟩
  exact ⟨s, h1, by simpa using h2⟩
theorem flatD_len {n : NF} (hn : n.Dn) : ∀ S : List Nat, (flatD n S).length ≤ S.length
 | [] => by simp [flatD]
 | s :: S => by
  have := flatD_len hn S
  have h2 := hn.one s
  unfold flatD at *
  rw [List.flatMap_cons, List.length_append, List.length_cons]
  omega
theorem fnS81 (d : List Nat) (hd : d.length ≤ 100000) (hr : d.Pairwise (· < ·)) :
  FnS Tryz.prog 81 [.row 200000 0 d.length] [(200000, .sl 1 ((toI d).map fun n => pI n))] (.row 200000 0 d.length) [(200000, .sl 1 ((toI d).map fun n => pI n))] := by
 refine RunS81 (by simp) (by simp) ?_
 simp only [go_sem, M81]
 intro h2
 refine run_loop (T := Nat) (fun k => ⟨[(0, .row 200000 0 d.length), (3, .pv (pI k))], [(200000, .sl 1 ((toI d).map fun n => pI n))]⟩) (fun k => 1 ≤ k ∧ k ≤ d.length) (fun k => d.length - k) 1 rfl ⟨by omega, by omega⟩ ?_
 rintro k ⟨h1, hk⟩
 by_cases hlt : k < d.length
 ·have e1 : ((k : Int) - 1).toNat = k - 1 := by omega
  have hA : (toI d)[k]'(by simp [toI]; exact hlt) = (d[k] : Int) := by simp [toI]
  have hB : (toI d)[k - 1]'(by simp [toI]; omega) = (d[k - 1] : Int) := by simp [toI]
  have hne := List.pairwise_iff_getElem.1 hr (k - 1) k (by omega) hlt (by omega)
  simp only [go_sem, B81_0, R81_0, show (k : Int) < (d.length : Int) by omega, show (toI d).length = d.length by simp [toI], e1, getD_map (show k < (toI d).length by simp [toI]; exact hlt), getD_map (show k - 1 < (toI d).length by simp [toI]; omega), hA, hB, show ¬ ((d[k] : Int) = (d[k - 1] : Int)) by omega]
  exact ⟨hlt, ⟨by omega, by omega⟩, by omega, by omega, ⟨by omega, by omega⟩, k + 1, rfl, ⟨by omega, by omega⟩, by omega⟩
 ·simp only [go_sem, B81_0, R81_0, show ¬ (k : Int) < (d.length : Int) by omega]
theorem flatD_take {n : NF} {S : List Nat} {i : Nat} (h : i < S.length) : flatD n (S.take (i + 1)) = flatD n (S.take i) ++ n.done.getD S[i] [] := by
 unfold flatD
 rw [List.take_succ_eq_append_getElem h, List.flatMap_append]
 simp
theorem fn49 (n : NF) (S : List Nat) (hn : n.Dn) (hS : S.Pairwise (· < ·)) (hl : S.length ≤ 1000) (hd : n.done.length ≤ 1000) : Fn Tryz.prog 49 [pNf n, pNs S] (.pv (pNs (doneOf n S))) [] := by
 refine Run49 [] (by simp) ?_
 simp only [go_sem, M49]
 refine run_loopN (T := Nat) [2, 5, 8, 9, 10] [2, 2005] (fun i => ⟨[(2, .ptr 2 0), (5, .row 2005 0 (flatD n (S.take i)).length), (8, .pv (pNs S)), (9, .pv (pI S.length)), (10, .pv (pI i))], [(2, .box (nBox n)), (2005, .sl 1 ((toI (flatD n (S.take i))).map fun n => pI n))]⟩)
  (fun i => i ≤ S.length) (fun i => S.length - i) 0 ?_ (Nat.zero_le _) ?_
 ·simp only [go_sem]
  simp [toI, flatD]
 intro i hi
 have hfl := flatD_len hn (S.take i)
 rw [List.length_take] at hfl
 by_cases hlt : i < S.length
 ·have hx : (toI S)[i]'(by simp [toI]; exact hlt) = (S[i] : Int) := by simp [toI]
  have hft := flatD_take (n := n) hlt
  have tk : List.take (flatD n (S.take i)).length ((toI (flatD n (S.take i))).map fun n => pI n) = (toI (flatD n (S.take i))).map fun n => pI n := List.take_of_length_le (by simp [toI])
  have h1 := hn.one S[i]
  generalize S[i] = s at hx hft h1
  by_cases hin : s < n.done.length
  ·obtain ⟨D, hD⟩ : ∃ D, D = n.done.getD s [] := ⟨_, rfl⟩
   have hDg : n.done[s] = D := by rw [hD]; simp [List.getD_eq_getElem?_getD, hin]
   rw [← hD] at h1 hft
   simp only [go_sem, B49_0, show (i : Int) < (S.length : Int) by omega, show (toI S).length = S.length by simp [toI], wf_ints, getD_map (show i < (toI S).length by simp [toI]; exact hlt), hx, show (s : Int) < (n.done.length : Int) by omega, getD_map hin, wf_pNs, hDg, tk]
   have hdl : (toI D).length = D.length := by simp [toI]
   rw [hdl]
   refine ⟨⟨by omega, by omega⟩, ⟨by omega, by omega⟩, i + 1, ?_, hlt, by omega⟩
   rw [hft, toI_app, List.map_append, List.length_append]; rfl
  ·have h0 : n.done.getD s [] = [] := by rw [List.getD_eq_getElem?_getD, List.getElem?_eq_none (by omega)]; rfl
   rw [h0, List.append_nil] at hft
   simp only [go_sem, B49_0, show (i : Int) < (S.length : Int) by omega, show (toI S).length = S.length by simp [toI], wf_ints, getD_map (show i < (toI S).length by simp [toI]; exact hlt), hx, show ¬ (s : Int) < (n.done.length : Int) by omega]
   exact ⟨⟨by omega, by omega⟩, i + 1, by rw [hft]; rfl, hlt, by omega⟩
 ·have hie : i = S.length := by omega
  subst hie
  rw [List.take_length, flatD_eq hn hS]
  rw [List.take_length, flatD_eq hn hS] at hfl
  have hr : (doneOf n S).Pairwise (· < ·) := range_filter_ris _ _
  generalize doneOf n S = D at hfl hr
  simp only [go_sem, B49_0, R49_0, show ¬ (S.length : Int) < (S.length : Int) by omega]
  have hS2 := fnS80 (toI D) (by simp [toI]; omega) 200001
  rw [show srtI (toI D) = toI D from sort_ris (hr.imp fun h => by omega) hr (fun _ => Iff.rfl), show (toI D).length = D.length by simp [toI]] at hS2
  refine runR_calls (fun n => if n = 200001 then 2005 else n) (by simp only [go_sem]) (by simp only [go_sem] <;> rfl) hS2 rfl (by intro e he; simp only [List.mem_cons, List.not_mem_nil, or_false] at he; rcases he with rfl <;> simp only [go_sem]) (by simp) (by simp) (by simp) (by intro e he h9; simp only [List.mem_cons, List.not_mem_nil, or_false] at he; rcases he with rfl <;> simp) ?_
  simp only [go_sem]
  refine runR_calls (fun n => if n = 200000 then 2005 else n) (by simp only [go_sem]) (by simp only [go_sem] <;> rfl) (fnS81 D (by omega) hr) rfl (by intro e he; simp only [List.mem_cons, List.not_mem_nil, or_false] at he; rcases he with rfl <;> simp only [go_sem]) (by simp) (by simp) (by simp) (by intro e he h9; simp only [List.mem_cons, List.not_mem_nil, or_false] at he; rcases he with rfl <;> simp) ?_
  simp only [go_sem]
  rw [List.take_of_length_le (by simp [toI])]
end Go.Vc

namespace Go.Vc
open Go.Proofs
set_option maxRecDepth 100000
def B43_0 : MC := (.seq (.reg [qi 17 (.bin .lss (.t 16) (.t 15))] [] [1,3,15,16,17] [1,13,1025]) (.seq (.cond (.t 17) .skip (.exit 0)) (.seq (.block 1 (.seq (.reg [mi 18 16,mi 4 18] [] [1,3,4,15,16] [1,13,1025]) (.reg [mi 19 3,mi 20 4,qi 21 (.ld (.t 1) 4 true),mi 22 4,⟨some 23,none,.lits [.t 22] 1⟩,⟨some 24,none,.call (.f 45) [.t 21,.t 23]⟩,⟨some 25,none,.call (.f 44) [.t 24]⟩,qi 26 (.ia (.t 19) (.t 20) 3),⟨none,none,.st (.t 26) (.t 25) 3⟩] [] [1,3,15,16] [1,13,1025]))) (.reg [qi 27 (.bin .add (.t 16) (ic 1)),mi 16 27] [] [1,3,15,16] [1,13,1025]))))
def B43_2 : MC := (.seq (.reg [qi 51 (.bin .lss (.t 50) (.t 49))] [] [1,3,5,6,33,34,35,48,49,50,51] [1,13,31,46,1025,1096]) (.seq (.cond (.t 51) .skip (.exit 4)) (.seq (.block 5 (.seq (.reg [qi 52 (.ia (.t 48) (.t 50) 2),qi 53 (.ld (.t 52) 2 true),⟨some 9,none,.alloc [.pv (.sc (.int .i64 0)),.pv (.sc (.int .i64 0))]⟩,⟨none,none,.st (.t 9) (.t 53) 2⟩] [] [1,3,5,6,9,33,34,35,48,49,50] [1,9,13,31,46,1025,1096]) (.seq (.reg [qi 54 (.fa (.t 9) 0),qi 55 (.ld (.t 54) 1 false),qi 56 (.bin .geq (.t 55) (ic 0)),mi 57 56,gi 58 57 true (.fa (.t 9) 0),gi 59 57 true (.ld (.t 58) 1 false),gi 60 57 true (.fa (.t 1) 0),gi 61 57 true (.ld (.t 60) 1 false),gi 62 57 true (.len (.t 61) false),gi 63 57 true (.bin .leq (.t 59) (.t 62)),qi 64 (.pick (.t 57) (.t 63) (.c (.bool false))),mi 65 64,gi 66 65 true (.fa (.t 9) 1),gi 67 65 true (.ld (.t 66) 1 false),gi 68 65 true (.bin .geq (.t 67) (ic 0)),qi 69 (.pick (.t 65) (.t 68) (.c (.bool false))),mi 70 69,gi 71 70 true (.fa (.t 9) 1),gi 72 70 true (.ld (.t 71) 1 false),gi 73 70 true (.mv (.t 3)),gi 74 70 true (.len (.t 73) false),gi 75 70 true (.bin .lss (.t 72) (.t 74)),qi 76 (.pick (.t 70) (.t 75) (.c (.bool false)))] [] [1,3,5,6,9,33,34,35,48,49,50,76] [1,9,13,31,46,1025,1096]) (.cond (.t 76) (.reg [mi 77 5,mi 78 6,qi 79 (.ia (.t 77) (.t 78) 1),qi 80 (.ld (.t 79) 1 false),qi 81 (.fa (.t 9) 0),qi 82 (.ld (.t 81) 1 false),mi 83 5,mi 84 6,qi 85 (.ia (.t 83) (.t 84) 1),qi 86 (.ld (.t 85) 1 false),qi 87 (.fa (.t 9) 0),qi 88 (.ld (.t 87) 1 false),qi 89 (.ia (.t 86) (.t 88) 3),qi 90 (.ld (.t 89) 3 true),mi 91 3,qi 92 (.fa (.t 9) 1),qi 93 (.ld (.t 92) 1 false),qi 94 (.ia (.t 91) (.t 93) 3),qi 95 (.ld (.t 94) 3 true),⟨some 96,none,.call (.f 48) [.t 90,.t 95]⟩,qi 97 (.ia (.t 80) (.t 82) 3),⟨none,none,.st (.t 97) (.t 96) 3⟩] [] [1,3,5,6,33,34,35,48,49,50] [1,13,31,46,1025,1096]) .skip)))) (.reg [qi 98 (.bin .add (.t 50) (ic 1)),mi 50 98] [] [1,3,5,6,33,34,35,48,49,50] [1,13,31,46,1025,1096]))))
def B43_1 : MC := (.seq (.reg [qi 36 (.bin .lss (.t 35) (.t 34))] [] [1,3,5,33,34,35,36] [1,13,31,46,1025,1096]) (.seq (.cond (.t 36) .skip (.exit 2)) (.seq (.block 3 (.seq (.reg [mi 37 35,qi 38 (.ia (.t 33) (.t 35) 1),qi 39 (.ld (.t 38) 1 false),mi 6 37,mi 7 39] [] [1,3,5,6,7,33,34,35] [1,13,31,46,1025,1096]) (.seq (.reg [mi 40 5,mi 41 6,qi 42 (.fa (.t 1) 0),qi 43 (.ld (.t 42) 1 false),qi 44 (.len (.t 43) false),qi 45 (.bin .add (.t 44) (ic 1)),⟨some 46,none,.mks (.t 45) (.t 45) 3 24 (.agg [.sc (.int .u64 0),.sc (.int .u64 0),.sc (.int .u64 0)])⟩,qi 47 (.ia (.t 40) (.t 41) 1),⟨none,none,.st (.t 47) (.t 46) 1⟩] [] [1,3,5,6,7,33,34,35] [1,13,31,46,1025,1096]) (.seq (.reg [mi 48 7,qi 49 (.len (.t 48) false),qi 50 (.mv (ic 0))] [] [1,3,5,6,33,34,35,48,49,50] [1,13,31,46,1025,1096]) (.block 4 (.loop B43_2)))))) (.reg [qi 99 (.bin .add (.t 35) (ic 1)),mi 35 99] [(46,46,0)] [1,3,5,33,34,35] [1,13,31,46,1025,1096]))))
def R43_1 : MC := (.seq (.reg [mi 100 5,mi 2 100] [(31,31,0)] [2] [31,46,1096]) .ret)
def R43_0 : MC := (.seq (.reg [qi 28 (.fa (.t 1) 1),qi 29 (.ld (.t 28) 1 false),qi 30 (.len (.t 29) false),⟨some 31,none,.mkx (.t 30) (.t 30) 24 .e0⟩,mi 5 31] [(13,13,0)] [1,3,5] [1,13,31,46,1025,1096]) (.seq (.seq (.reg [qi 32 (.fa (.t 1) 1),qi 33 (.ld (.t 32) 1 false),qi 34 (.len (.t 33) false),qi 35 (.mv (ic 0))] [] [1,3,5,33,34,35] [1,13,31,46,1025,1096]) (.block 2 (.loop B43_1))) R43_1))
def M43 : MC := (.seq (.reg [⟨some 1,none,.box (.t 0)⟩,qi 2 (.mv .nil)] [] [1] [1]) (.seq (.reg [qi 10 (.fa (.t 1) 1),qi 11 (.ld (.t 10) 1 false),qi 12 (.len (.t 11) false),⟨some 13,none,.mks (.t 12) (.t 12) 3 24 (.agg [.sc (.int .u64 0),.sc (.int .u64 0),.sc (.int .u64 0)])⟩,mi 3 13] [] [1,3] [1,13,1025]) (.seq (.seq (.reg [mi 14 3,qi 15 (.len (.t 14) false),qi 16 (.mv (ic 0))] [] [1,3,15,16] [1,13,1025]) (.block 0 (.loop B43_0))) R43_0)))
theorem mc43 : ofCode Tryz.prog [31] Tryz.f43.ntmps [(0, ⟨[1], [1], [], 0, [], none⟩),
  (1, ⟨[1, 3], [1, 13, 1025], [], 0, [], none⟩),
  (2, ⟨[1, 3, 15, 16], [1, 13, 1025], [], 0, [], none⟩),
  (3, ⟨[1, 3, 15, 16, 17], [1, 13, 1025], [], 0, [], none⟩),
  (4, ⟨[1, 3, 4, 15, 16], [1, 13, 1025], [], 0, [], none⟩),
  (5, ⟨[1, 3, 15, 16], [1, 13, 1025], [], 0, [], none⟩),
  (6, ⟨[1, 3, 15, 16], [1, 13, 1025], [], 0, [], none⟩),
  (7, ⟨[1, 3, 5], [1, 13, 31, 46, 1025, 1096], [], 0, [(13, 13, 0)], none⟩),
  (8, ⟨[1, 3, 5, 33, 34, 35], [1, 13, 31, 46, 1025, 1096], [], 0, [], none⟩),
  (9, ⟨[1, 3, 5, 33, 34, 35, 36], [1, 13, 31, 46, 1025, 1096], [], 0, [], none⟩),
  (10, ⟨[1, 3, 5, 6, 7, 33, 34, 35], [1, 13, 31, 46, 1025, 1096], [], 0, [], none⟩),
  (11, ⟨[1, 3, 5, 6, 7, 33, 34, 35], [1, 13, 31, 46, 1025, 1096], [], 0, [], none⟩),
  (12, ⟨[1, 3, 5, 6, 33, 34, 35, 48, 49, 50], [1, 13, 31, 46, 1025, 1096], [], 0, [], none⟩),
  (13, ⟨[1, 3, 5, 6, 33, 34, 35, 48, 49, 50, 51], [1, 13, 31, 46, 1025, 1096], [], 0, [], none⟩),
  (14, ⟨[1, 3, 5, 6, 9, 33, 34, 35, 48, 49, 50], [1, 9, 13, 31, 46, 1025, 1096], [], 0, [], none⟩),
  (15, ⟨[1, 3, 5, 6, 9, 33, 34, 35, 48, 49, 50, 76], [1, 9, 13, 31, 46, 1025, 1096], [], 0, [], none⟩),
  (16, ⟨[1, 3, 5, 6, 33, 34, 35, 48, 49, 50], [1, 13, 31, 46, 1025, 1096], [(0, 3145741), (1, 3145742), (2, 3145740), (3, 3145736), (4, 3145776), (5, 3145760), (6, 3683136), (7, 3683200), (8, 3683072), (9, 3682816), (10, 3685376), (11, 3684352), (12, 3682304), (13, 3678208), (14, 4079616), (15, 4161536), (16, 4128768), (17, 4063232), (18, 3932160), (19, 0), (20, 3145728), (21, 0)], 2097151, [], none⟩),
  (17, ⟨[1, 3, 5, 6, 33, 34, 35, 48, 49, 50], [1, 13, 31, 46, 1025, 1096], [], 0, [], none⟩),
  (18, ⟨[1, 3, 5, 33, 34, 35], [1, 13, 31, 46, 1025, 1096], [], 0, [(46, 46, 0)], none⟩),
  (19, ⟨[2], [31, 46, 1096], [], 0, [(31, 31, 0)], none⟩)] (Tryz.f43.body.getD .skip) = some M43 := by kernel_rfl
theorem Run43 {args : List PV} {v : AV} {rs : List (Nat × List PV)} (ids : List Bool) (h : args.length ≤ 101) (hv : run Tryz.prog (retK [RV.tmp 2] ids v rs) M43 [] ⟨entry 0 args, []⟩) : Fn Tryz.prog 43 args v rs :=
 Fn_run ids (by kernel_rfl) Tryz.func43 (by decide) rfl mc43 (by kernel_rfl) (by rw [Tryz.ntmps43]; exact h) (by rw [Tryz.ntmps43]; decide) hv
end Go.Vc

namespace Go.Vc
set_option linter.unusedSimpArgs false
set_option linter.unusedVariables false
def resN (gs : List (List ByteArray)) (t : List ByteArray) : List Nat := (List.range gs.length).filter fun i => matchL (gs.getD i []) t
theorem resN_mem {gs : List (List ByteArray)} {t : List ByteArray} {g : Nat} : g ∈ resN gs t ↔ ∃ s, s ∈ walkN (nfaOf gs) t ∧ g ∈ (nfaOf gs).done.getD s [] := by
 have hd : (nfaOf gs).done = doneG 0 gs := rfl
 unfold resN
 rw [List.mem_filter, List.mem_range, hd]
 constructor
 ·rintro ⟨hg, hm⟩
  have hgg : gs.getD g [] = gs[g] := by simp [List.getD_eq_getElem?_getD, hg]
  rw [hgg, matchL_iff] at hm
  refine ⟨base gs g + gs[g].length, (walk_at t _).2 ⟨g, hg, gs[g].length, Nat.le_refl _, rfl, Sk_end.2 hm⟩, ?_⟩
  rw [doneG_at gs 0 g _ hg (Nat.le_refl _), if_pos rfl]; simp
 ·rintro ⟨s, hs, hgs⟩
  obtain ⟨i, hi, k, hk, rfl, hS⟩ := (walk_at t s).1 hs
  rw [doneG_at gs 0 i k hi hk] at hgs
  split at hgs
  ·rename_i hke
   subst hke
   simp only [Nat.zero_add, List.mem_singleton] at hgs
   subst hgs
   refine ⟨hi, ?_⟩
   rw [show gs.getD g [] = gs[g] by simp [List.getD_eq_getElem?_getD, hi], matchL_iff]
   exact Sk_end.1 hS
  ·cases hgs
theorem resN_ris (gs : List (List ByteArray)) (t : List ByteArray) : (resN gs t).Pairwise (· < ·) := range_filter_ris _ _
theorem walkN_lt {gs : List (List ByteArray)} {t : List ByteArray} {s : Nat} (h : s ∈ walkN (nfaOf gs) t) : s < (nfaOf gs).size := by
 obtain ⟨i, hi, k, hk, rfl, _⟩ := (walk_at t s).1 h
 exact in_size hi hk
theorem closeN_len (n : NF) (l : List Int) : (closeN n l).length ≤ n.size := by
 have := List.length_filter_le (cl n.eps (inI l)) (List.range n.size)
 simpa [closeN] using this
theorem stepN_len (n : NF) (l : List Int) (x : Int) : (stepN n l x).length ≤ n.size := by
 unfold stepN
 split
 ·simp
 ·exact closeN_len _ _
theorem walkN_len (n : NF) (t : List ByteArray) : (walkN n t).length ≤ n.size := by
 rcases List.eq_nil_or_concat t with rfl | ⟨u, q, rfl⟩
 ·exact closeN_len _ _
 ·rw [List.concat_eq_append, walkN_snoc]; exact stepN_len _ _ _
theorem resN_lt {gs : List (List ByteArray)} {t : List ByteArray} {g : Nat} (h : g ∈ resN gs t) : g < gs.length := by
 unfold resN at h
 exact List.mem_range.1 (List.mem_filter.1 h).1
end Go.Vc

namespace Go.Vc
open Go.Proofs
set_option linter.unusedSimpArgs false
set_option linter.unusedVariables false
def tabL {α : Type} (n : Nat) (f : Nat → α) : List α := (List.range n).map f
theorem tabL_len {α : Type} (n : Nat) (f : Nat → α) : (tabL n f).length = n := by simp [tabL]
theorem tabL_get {α : Type} {n : Nat} {f : Nat → α} {i : Nat} {d : α} (h : i < n) : (tabL n f).getD i d = f i := by simp [tabL, List.getD_eq_getElem?_getD, h]
theorem tabL_set {α : Type} {n : Nat} {f : Nat → α} {i : Nat} {v : α} (h : i < n) : (tabL n f).set i v = tabL n (fun j => if j = i then v else f j) := by
 refine List.ext_getElem (by simp [tabL]) fun j h1 h2 => ?_
 rw [List.getElem_set]
 simp only [tabL, List.getElem_map, List.getElem_range]
 by_cases hj : j = i
 ·subst hj; simp
 ·rw [if_neg (Ne.symm hj), if_neg hj]
theorem tabL_ext {α : Type} {n : Nat} {f g : Nat → α} (h : ∀ i, i < n → f i = g i) : tabL n f = tabL n g := by
 unfold tabL
 exact List.map_congr_left fun i hi => h i (List.mem_range.1 hi)
theorem tabL_rep {α : Type} (n : Nat) (v : α) : List.replicate n v = tabL n (fun _ => v) := by simp [tabL, List.map_const']
abbrev zSet : PV := .agg [pU 0, pU 0, pU 0]
def shutP (n : NF) (x : Int) : Nat → Bool := inN (closeN n [x])
def wayP (n : NF) (W : List (Int × Int)) (a : Nat) (j : Nat) : Bool := W.any fun e => decide (e.1 = (a : Int)) && (isSt n e.2 && shutP n e.2 j)
abbrev rowPV (n : NF) (s : Nat) : PV := .lst (tabL n.wid fun a => pSet (wayP n (n.ways.getD s []) a))
abbrev pSteps (n : NF) : PV := .lst (tabL n.size fun s => rowPV n s)
abbrev shutL (n : NF) (i : Nat) : List PV := tabL n.size fun s => if s < i then pSet (shutP n (s : Int)) else zSet
theorem shut_at {n : NF} {i : Nat} (h : i < n.size) : (shutL n i).getD i default = zSet := by rw [tabL_get h, if_neg (by omega)]
theorem shut_set {n : NF} {i : Nat} (h : i < n.size) : (shutL n i).set i (pSet (shutP n (i : Int))) = shutL n (i + 1) := by
 rw [tabL_set h]
 refine tabL_ext fun j hj => ?_
 by_cases h1 : j = i
 ·subst h1; rw [if_pos rfl, if_pos (by omega)]
 ·rw [if_neg h1]
  by_cases h2 : j < i
  ·rw [if_pos h2, if_pos (by omega)]
  ·rw [if_neg h2, if_neg (by omega)]
theorem frzs_map (r : Nat) (row : Row) : ∀ l : List AV, AV.frzs r row l = l.map (AV.frz r row)
 | [] => rfl
 | v :: l => by simp only [AV.frzs, List.map_cons, frzs_map r row l]
theorem tabL_map {α β : Type} {n : Nat} {f : Nat → α} (g : α → β) : (tabL n f).map g = tabL n (fun i => g (f i)) := by simp [tabL]
theorem clips_map (D : Nat → Bool) : ∀ l : List AV, AV.clips D l = l.map (AV.clip D)
 | [] => rfl
 | v :: l => by simp only [AV.clips, List.map_cons, clips_map D l]
abbrev rowAt (n : NF) (i : Nat) (v : AV) : List AV := tabL n.size fun s => if s < i then .pv (rowPV n s) else if s = i then v else .e0
abbrev nowL (n : NF) (W : List (Int × Int)) (k : Nat) : List PV := tabL n.wid fun a => pSet (wayP n (W.take k) a)
theorem clips_rowAt (D : Nat → Bool) (n : NF) (i : Nat) : AV.clips D (rowAt n i .e0) = rowAt n i .e0 := by
 rw [clips_map, tabL_map]
 refine tabL_ext fun j _ => ?_
 by_cases h : j < i
 ·simp only [if_pos h, AV.clip]
 ·simp only [if_neg h, ite_self, AV.clip]
theorem rowAt_set {n : NF} {i : Nat} (h : i < n.size) (v u : AV) : (rowAt n i u).set i v = rowAt n i v := by
 rw [tabL_set h]
 refine tabL_ext fun j _ => ?_
 by_cases h1 : j = i
 ·subst h1; simp
 ·simp [h1]
theorem rowAt_get {n : NF} {i : Nat} (h : i < n.size) (v : AV) : (rowAt n i v).getD i .un = v := by rw [tabL_get h]; simp
theorem rowAt_len (n : NF) (i : Nat) (v : AV) : (rowAt n i v).length = n.size := tabL_len _ _
theorem clips_rowAtR (n : NF) (i w : Nat) : AV.clips (only 9) (rowAt n i (.row 46 0 w)) = rowAt n i (.row 46 0 w) := by
 rw [clips_map, tabL_map]
 refine tabL_ext fun j _ => ?_
 by_cases h : j < i
 ·simp only [if_pos h, AV.clip]
 ·by_cases h2 : j = i
  ·simp only [if_neg h, if_pos h2, AV.clip]; rfl
  ·simp only [if_neg h, if_neg h2, AV.clip]
structure NF.Eg (n : NF) : Prop where
 e : ∀ s, ∀ e ∈ n.ways.getD s [], (e.1 = -1 ∨ (0 ≤ e.1 ∧ e.1 ≤ (n.signs.length : Int))) ∧ 0 ≤ e.2 ∧ e.2 < (n.size : Int)
theorem pSet_false : pSet (fun _ => false) = zSet := by
 have h0 := wd_zero 0
 have h1 := wd_zero 1
 have h2 := wd_zero 2
 show PV.agg [pU (wd (fun _ => false) 0 : Nat), pU (wd (fun _ => false) 1 : Nat), pU (wd (fun _ => false) 2 : Nat)] = zSet
 rw [h0, h1, h2]; rfl
theorem wf_sets {α : Type} (f : α → Nat → Bool) (l : List α) : WfL 3 (l.map fun a => pSet (f a)) := wf_map (f := fun a => pSet (f a)) (s := 3) (fun a => ⟨rfl, fun c hc => by
 simp only [PV.cells, List.mem_cons, List.not_mem_nil, or_false] at hc
 rcases hc with rfl | rfl | rfl <;> rfl⟩) l
theorem wayP_skip {n : NF} {W : List (Int × Int)} {k : Nat} (h : k < W.length) (he : W[k].1 = -1) (a : Nat) : wayP n (W.take (k + 1)) a = wayP n (W.take k) a := funext fun j => by
 unfold wayP
 rw [List.take_succ_eq_append_getElem h, List.any_append]
 have : ¬ ((-1 : Int) = (a : Int)) := by omega
 simp [he, this]
theorem wayP_one {n : NF} {W : List (Int × Int)} {k a b : Nat} (h : k < W.length) (h1 : W[k].1 = (a : Int)) (h2 : W[k].2 = (b : Int)) (hb : b < n.size) : wayP n (W.take (k + 1)) a = fun j => wayP n (W.take k) a j || shutP n (b : Int) j := funext fun j => by
 have hs : isSt n (b : Int) = true := isSt_iff.2 ⟨b, rfl, hb⟩
 unfold wayP
 rw [List.take_succ_eq_append_getElem h, List.any_append]
 simp [h1, h2, hs]
theorem wayP_other {n : NF} {W : List (Int × Int)} {k a c : Nat} (h : k < W.length) (h1 : W[k].1 = (a : Int)) (hc : c ≠ a) : wayP n (W.take (k + 1)) c = wayP n (W.take k) c := funext fun j => by
 unfold wayP
 rw [List.take_succ_eq_append_getElem h, List.any_append]
 have : ¬ ((a : Int) = (c : Int)) := by omega
 simp [h1, this]
theorem fn43 (n : NF) (hg : n.Good) (hsz : n.size ≤ 180) (hwl : ∀ s, (n.ways.getD s []).length ≤ 1000) (hsg : n.signs.length ≤ 1000) (heg : n.Eg) : Fn Tryz.prog 43 [pNf n] (.pv (pSteps n)) [] := by
 refine Run43 [] (by simp) ?_
 simp only [go_sem, M43]
 have hil : n.ways.length = n.size := rfl
 rw [hil]
 refine ⟨⟨by omega, by omega, by omega⟩, ?_⟩
 refine run_loopN (T := Nat) [1, 3, 15, 16] [1, 13] (fun i => ⟨[(1, .ptr 1 0), (3, .row 13 0 n.size), (15, .pv (pI n.size)), (16, .pv (pI i))], [(1, .box (nBox n)), (13, .sl 3 (shutL n i))]⟩)
  (fun i => i ≤ n.size) (fun i => n.size - i) 0 ?_ (Nat.zero_le _) ?_
 ·have hz : shutL n 0 = List.replicate n.size zSet := by
   rw [tabL_rep]
   exact tabL_ext fun i _ => by simp
  rw [hz]
  simp only [go_sem]
 intro i hi
 by_cases hlt : i < n.size
 ·simp only [go_sem, B43_0, show (i : Int) < (n.size : Int) by omega]
  refine runR_call (by simp only [go_sem]) rfl (fn45 n [(i : Int)] hg (by omega) (fun s => by have := hwl s; omega) (by simp)) (.inl rfl) trivial ?_
  simp only [go_sem]
  have hcl := closeN_len n [(i : Int)]
  refine runR_callf (by simp only [go_sem]) (by simp only [go_sem] <;> rfl) (fn44 (closeN n [(i : Int)]) (fun x hx => by have := (closeN_mem.1 hx).1; omega) (by omega)) ⟨rfl, trivial⟩ trivial ?_
  simp only [go_sem, tabL_len, shut_at hlt]
  refine ⟨by omega, hlt, ⟨by omega, by omega⟩, i + 1, ?_, hlt, by omega⟩
  rw [← shut_set hlt]
  rfl
 ·have hie : i = n.size := by omega
  subst hie
  have hsh : shutL n n.size = tabL n.size fun s => pSet (shutP n (s : Int)) := tabL_ext fun j hj => by rw [if_pos hj]
  rw [hsh]
  have hz0 : ∀ row : Row, AV.frzs 13 row (List.replicate n.size AV.e0) = rowAt n 0 .e0 := fun row => by
   rw [frzs_map, tabL_rep, tabL_map]
   exact tabL_ext fun i _ => by simp [AV.frz]
  have tk : List.take n.size (tabL n.size fun s => pSet (shutP n (s : Int))) = tabL n.size fun s => pSet (shutP n (s : Int)) := List.take_of_length_le (by rw [tabL_len]; exact Nat.le_refl _)
  simp only [go_sem, B43_0, R43_0, hil, show ¬ (n.size : Int) < (n.size : Int) by omega, hz0, tk]
  refine ⟨⟨by omega, by omega⟩, ?_⟩
  clear hsh hi hlt hz0 tk
  obtain ⟨SH, hSH⟩ : ∃ SH, SH = tabL n.size fun s => pSet (shutP n (s : Int)) := ⟨_, rfl⟩
  rw [← hSH]
  refine run_loopN (T := Nat) [1, 3, 5, 33, 34, 35] [1, 31] (fun i => ⟨[(1, .ptr 1 0), (3, .pv (.lst SH)), (5, .row 31 0 n.size), (33, .pv (.lst (n.ways.map pWs))), (34, .pv (pI n.size)), (35, .pv (pI i))], [(1, .box (nBox n)), (31, .bxs (rowAt n i .e0))]⟩)
   (fun i => i ≤ n.size) (fun i => n.size - i) 0 ?_ (Nat.zero_le _) ?_
  ·simp only [go_sem]
  intro i hi
  by_cases hlt : i < n.size
  ·have hiw : i < n.ways.length := hlt
   obtain ⟨W, hW⟩ : ∃ W, W = n.ways.getD i [] := ⟨_, rfl⟩
   have hWg : n.ways[i] = W := by rw [hW]; simp [List.getD_eq_getElem?_getD, hiw]
   have hWl := hwl i
   rw [← hW] at hWl
   have hwid : ((n.signs.length : Int) + 1).toNat = n.wid := by unfold NF.wid; omega
   simp only [go_sem, B43_1, hil, show (i : Int) < (n.size : Int) by omega, getD_map hiw, hWg, tabL_len, clips_rowAt, hwid, rowAt_set hlt]
   refine ⟨wf_pWs n.ways, ⟨by omega, by omega⟩, ⟨by omega, by omega, by omega, by omega⟩, hlt, ?_⟩
   refine run_loopN (T := Nat) [1, 3, 5, 6, 33, 34, 35, 48, 49, 50] [1, 31, 46] (fun k => ⟨[(1, .ptr 1 0), (3, .pv (.lst SH)), (5, .row 31 0 n.size), (6, .pv (pI i)), (33, .pv (.lst (n.ways.map pWs))), (34, .pv (pI n.size)), (35, .pv (pI i)), (48, .pv (pWs W)), (49, .pv (pI W.length)), (50, .pv (pI k))],
    [(1, .box (nBox n)), (31, .bxs (rowAt n i (.row 46 0 n.wid))), (46, .sl 3 (nowL n W k))]⟩) (fun k => k ≤ W.length) (fun k => W.length - k) 0 ?_ (Nat.zero_le _) ?_
   ·have hz : nowL n W 0 = List.replicate n.wid zSet := by
     rw [tabL_rep]
     refine tabL_ext fun a _ => ?_
     have : wayP n (W.take 0) a = fun _ => false := funext fun j => by simp [wayP]
     rw [this, pSet_false]
    simp only [go_sem, hz]
   intro k hk
   by_cases hkl : k < W.length
   ·obtain ⟨he, hb0, hb1⟩ := heg.e i W[k] (by rw [← hW]; exact List.getElem_mem hkl)
    by_cases hm : W[k].1 = -1
    ·simp only [go_sem, B43_2, show (k : Int) < (W.length : Int) by omega, wf_pE, getD_map hkl, hm, clips_rowAtR]
     refine ⟨⟨by omega, by omega⟩, k + 1, ?_, hkl, by omega⟩
     have : nowL n W (k + 1) = nowL n W k := tabL_ext fun a _ => by rw [wayP_skip hkl hm]
     rw [this]; rfl
    ·obtain ⟨a, ha⟩ : ∃ a : Nat, W[k].1 = (a : Int) := ⟨W[k].1.toNat, by omega⟩
     obtain ⟨b, hb⟩ : ∃ b : Nat, W[k].2 = (b : Int) := ⟨W[k].2.toNat, by omega⟩
     have haw : a < n.wid := by unfold NF.wid; omega
     have hbs : b < n.size := by omega
     have hn := wayP_one hkl ha hb hbs
     have ho := fun c (hc : c ≠ a) => wayP_other (n := n) hkl ha hc
     have hSHb : SH.getD b default = pSet (shutP n (b : Int)) := by rw [hSH, tabL_get hbs]
     have hSHl : SH.length = n.size := by rw [hSH, tabL_len]
     have hSHw : WfL 3 SH := by rw [hSH]; exact wf_sets _ _
     have hnw : WfL 3 (nowL n W k) := wf_sets _ _
     have hnl : (nowL n W k).length = n.wid := tabL_len _ _
     have hna : (nowL n W k).getD a default = pSet (wayP n (W.take k) a) := tabL_get haw
     have hrg := rowAt_get hlt (.row 46 0 n.wid)
     simp only [go_sem, B43_2, show (k : Int) < (W.length : Int) by omega, wf_pE, getD_map hkl, ha, hb, clips_rowAtR, show (a : Int) ≤ (n.signs.length : Int) by omega, hSHl, show (b : Int) < (n.size : Int) by omega, rowAt_len, hrg, show (i : Int) < (n.size : Int) by omega, show (a : Int) < (n.wid : Int) by omega, hna, hSHb, hnl]
     refine ⟨hlt, hlt, haw, hSHw, ?_⟩
     refine runR_callf (by simp only [go_sem]) (by simp only [go_sem] <;> rfl) (fn48 (wayP n (W.take k) a) (shutP n (b : Int))) ⟨rfl, trivial⟩ trivial ?_
     have hset : (nowL n W k).set a (pSet (wayP n (W.take (k + 1)) a)) = nowL n W (k + 1) := by
      rw [tabL_set haw]
      refine tabL_ext fun c _ => ?_
      by_cases hc : c = a
      ·subst hc; rw [if_pos rfl]
      ·rw [if_neg hc, ho c hc]
     simp only [go_sem, hna, hnl, show (a : Int) < (n.wid : Int) by omega]
     refine ⟨haw, ⟨by omega, by omega⟩, k + 1, ?_, hkl, by omega⟩
     rw [← hset, hn]
     rfl
   ·have hke : k = W.length := by omega
    subst hke
    have hfr : AV.frzs 46 (.sl 3 (nowL n W W.length)) (rowAt n i (.row 46 0 n.wid)) = rowAt n (i + 1) .e0 := by
     rw [frzs_map, tabL_map]
     refine tabL_ext fun j _ => ?_
     by_cases h1 : j < i
     ·simp only [if_pos h1, if_pos (show j < i + 1 by omega), AV.frz]
     ·by_cases h2 : j = i
      ·subst h2
       have hl : (nowL n W W.length).length = n.wid := tabL_len _ _
       simp only [if_neg h1, if_true, if_pos (show j < j + 1 by omega), AV.frz, frzRow, List.drop_zero]
       rw [List.take_of_length_le (by omega), show nowL n W W.length = tabL n.wid fun a => pSet (wayP n W a) from tabL_ext fun a _ => by rw [List.take_length], hW]
      ·simp only [if_neg h1, if_neg h2, if_neg (show ¬ j < i + 1 by omega), ite_self, AV.frz]
    simp only [go_sem, B43_2, show ¬ (W.length : Int) < (W.length : Int) by omega, hfr]
    exact ⟨⟨by omega, by omega⟩, i + 1, rfl, hlt, by omega⟩
  ·have hie : i = n.size := by omega
   subst hie
   have hall : allPv (rowAt n n.size .e0) = some (tabL n.size fun s => rowPV n s) := by
    have e : rowAt n n.size .e0 = (tabL n.size fun s => rowPV n s).map AV.pv := by
     rw [tabL_map]
     exact tabL_ext fun j hj => by rw [if_pos hj]
    rw [e]
    generalize (tabL n.size fun s => rowPV n s) = l
    induction l with
    | nil => rfl
    | cons p l ih => simp only [List.map_cons, allPv, ih]
   have hones : onesP (tabL n.size fun s => rowPV n s) = true := by
    unfold tabL
    generalize List.range n.size = l
    induction l with
    | nil => rfl
    | cons p l ih => simp only [List.map_cons, onesP, ih]; rfl
   have tk : List.take n.size (tabL n.size fun s => rowPV n s) = tabL n.size fun s => rowPV n s := List.take_of_length_le (by rw [tabL_len]; exact Nat.le_refl _)
   simp only [go_sem, B43_1, R43_1, show ¬ (n.size : Int) < (n.size : Int) by omega, hall, hones, tk]
end Go.Vc

namespace Go.Vc
open Go.Proofs
set_option maxRecDepth 100000
def B14_2 : MC := (.seq (.reg [qi 75 (.bin .lss (.t 74) (.t 73))] [] [1,2,4,6,7,8,9,10,11,12,13,14,68,69,72,73,74,75] [2,4,9,14,41,42,66,119,129,137,1035,1049,1061,1086]) (.seq (.cond (.t 75) .skip (.exit 4)) (.seq (.block 5 (.seq (.reg [qi 76 (.ia (.t 72) (.t 74) 1),qi 77 (.ld (.t 76) 1 false),mi 16 77] [] [1,2,4,6,7,8,9,10,11,12,13,14,16,68,69,72,73,74] [2,4,9,14,41,42,66,119,129,137,1035,1049,1061,1086]) (.reg [qi 78 (.ld (.t 14) 3 true),mi 79 6,mi 80 16,qi 81 (.ia (.t 79) (.t 80) 1),qi 82 (.ld (.t 81) 1 false),mi 83 13,qi 84 (.ia (.t 82) (.t 83) 3),qi 85 (.ld (.t 84) 3 true),⟨some 86,none,.call (.f 48) [.t 78,.t 85]⟩,⟨none,none,.st (.t 14) (.t 86) 3⟩] [] [1,2,4,6,7,8,9,10,11,12,13,14,68,69,72,73,74] [2,4,9,14,41,42,66,119,129,137,1035,1049,1061,1086]))) (.reg [qi 87 (.bin .add (.t 74) (ic 1)),mi 74 87] [] [1,2,4,6,7,8,9,10,11,12,13,14,68,69,72,73,74] [2,4,9,14,41,42,66,119,129,137,1035,1049,1061,1086]))))
def R14_2 : MC := (.seq (.reg [mi 89 8,qi 90 (.ld (.t 14) 3 true),qi 91 (.mget (.t 89) (.t 90) true (Kk.st [0,0,0]) (.pv (.sc (.int .i64 0)))),mi 88 91,qi 92 (.ext (.t 88) 0),qi 93 (.ext (.t 88) 1),mi 17 92,mi 18 93] [] [1,2,4,6,7,8,9,10,11,12,13,14,17,18,68,69] [2,4,9,14,41,42,66,119,129,137,1035,1049,1061,1086]) (.seq (.block 6 (.seq (.reg [qi 95 (.ld (.t 14) 3 true),qi 96 (.mk [.pv (.sc (.int .u64 0)),.pv (.sc (.int .u64 0)),.pv (.sc (.int .u64 0))] []),qi 97 (.seq false [0,0,0] (.t 95) (.t 96)),mi 94 97] [] [1,2,4,6,7,8,9,10,11,12,13,14,17,18,68,69,94] [2,4,9,14,41,42,66,119,129,137,1035,1049,1061,1086]) (.cond (.t 94) (.reg [qi 17 (.mv (.c (.int .i64 (-1))))] [] [1,2,4,6,7,8,9,10,11,12,13,17,68,69] [2,4,9,41,42,66,119,129,137,1035,1049,1061,1086]) (.seq (.reg [mi 99 18,qi 100 (.not (.t 99)),mi 101 100,gi 102 101 true (.mv (.t 7)),gi 103 101 true (.len (.t 102) false),gi 104 101 true (.mv (.t 1)),gi 105 101 true (.bin .eql (.t 103) (.t 104)),qi 106 (.pick (.t 101) (.t 105) (.c (.bool false))),mi 98 106] [] [1,2,4,6,7,8,9,10,11,12,13,14,17,18,68,69,98] [2,4,9,14,41,42,66,119,129,137,1035,1049,1061,1086]) (.cond (.t 98) (.seq (.reg [qi 107 (.mk [.e0,.e0,.e0] []),⟨none,none,.st (.t 4) (.t 107) 3⟩,qi 5 (.mv (ic 6))] [] [4,5] [4,129,137,1049]) .ret) (.seq (.reg [mi 109 18,qi 110 (.not (.t 109)),mi 108 110] [] [1,2,4,6,7,8,9,10,11,12,13,14,17,68,69,108] [2,4,9,14,41,42,66,119,129,137,1035,1049,1061,1086]) (.cond (.t 108) (.seq (.reg [mi 111 7,qi 112 (.len (.t 111) false),mi 17 112] [] [1,2,4,6,7,8,9,10,11,12,13,14,17,68,69] [2,4,9,14,41,42,66,119,129,137,1035,1049,1061,1086]) (.seq (.reg [mi 113 8,qi 114 (.ld (.t 14) 3 true),mi 115 17,⟨none,none,.mset (.t 113) (.t 114) (.t 115) (Kk.st [0,0,0])⟩] [] [1,2,4,6,7,8,9,10,11,12,13,14,17,68,69] [2,4,9,14,41,42,66,119,129,137,1035,1049,1061,1086]) (.reg [mi 116 7,qi 117 (.ld (.t 14) 3 true),⟨some 118,none,.lits [.t 117] 3⟩,⟨some 119,none,.app (.t 116) (.t 118) 3 24⟩,mi 7 119] [] [1,2,4,6,7,8,9,10,11,12,13,17,68,69] [2,4,9,41,42,66,119,129,137,1035,1049,1061,1086]))) .skip))))))) (.reg [mi 120 12,mi 121 13,mi 122 17,qi 123 (.ia (.t 120) (.t 121) 1),⟨none,none,.st (.t 123) (.t 122) 1⟩] [] [1,2,4,6,7,8,9,10,11,12,68,69] [2,4,9,41,42,66,119,129,137,1035,1049,1061,1086])))
def B14_1 : MC := (.seq (.reg [qi 70 (.bin .lss (.t 69) (.t 68))] [] [1,2,4,6,7,8,9,10,11,12,68,69,70] [2,4,9,41,42,66,119,129,137,1035,1049,1061,1086]) (.seq (.cond (.t 70) .skip (.exit 2)) (.seq (.block 3 (.seq (.reg [mi 71 69,mi 13 71] [] [1,2,4,6,7,8,9,10,11,12,13,68,69] [2,4,9,41,42,66,119,129,137,1035,1049,1061,1086]) (.seq (.reg [⟨some 14,none,.alloc [.pv (.sc (.int .u64 0)),.pv (.sc (.int .u64 0)),.pv (.sc (.int .u64 0))]⟩] [] [1,2,4,6,7,8,9,10,11,12,13,14,68,69] [2,4,9,14,41,42,66,119,129,137,1035,1049,1061,1086]) (.seq (.seq (.reg [mi 72 11,qi 73 (.len (.t 72) false),qi 74 (.mv (ic 0))] [] [1,2,4,6,7,8,9,10,11,12,13,14,68,69,72,73,74] [2,4,9,14,41,42,66,119,129,137,1035,1049,1061,1086]) (.block 4 (.loop B14_2))) R14_2)))) (.reg [qi 124 (.bin .add (.t 69) (ic 1)),mi 69 124] [] [1,2,4,6,7,8,9,10,11,12,68,69] [2,4,9,41,42,66,119,129,137,1035,1049,1061,1086]))))
def R14_1 : MC := (.seq (.reg [qi 125 (.fa (.t 9) 1),qi 126 (.ld (.t 125) 1 false),mi 127 12,⟨some 128,none,.lits [.t 127] 1⟩,⟨some 129,none,.app (.t 126) (.t 128) 1 24⟩,qi 130 (.fa (.t 9) 1),⟨none,none,.st (.t 130) (.t 129) 1⟩] [] [1,2,4,6,7,8,9,10,11] [2,4,9,41,42,119,129,137,1035,1049,1061]) (.reg [qi 131 (.fa (.t 9) 2),qi 132 (.ld (.t 131) 1 false),qi 133 (.ld (.t 2) 4 true),mi 134 11,⟨some 135,none,.call (.f 49) [.t 133,.t 134]⟩,⟨some 136,none,.lits [.t 135] 1⟩,⟨some 137,none,.app (.t 132) (.t 136) 1 24⟩,qi 138 (.fa (.t 9) 2),⟨none,none,.st (.t 138) (.t 137) 1⟩] [] [1,2,4,6,7,8,9,10] [2,4,9,41,42,119,129,137,1035,1049]))
def B14_0 : MC := (.seq (.seq (.reg [mi 51 10,mi 52 7,qi 53 (.len (.t 52) false),qi 54 (.bin .lss (.t 51) (.t 53))] [] [1,2,4,6,7,8,9,10,54] [2,4,9,41,42,119,129,137,1035,1049]) (.cond (.t 54) .skip (.exit 0))) (.seq (.block 1 (.seq (.reg [mi 57 7,mi 58 10,qi 59 (.ia (.t 57) (.t 58) 3),qi 60 (.ld (.t 59) 3 true),⟨some 61,none,.call (.f 47) [.t 60]⟩,mi 11 61] [] [1,2,4,6,7,8,9,10,11] [2,4,9,41,42,119,129,137,1035,1049,1061]) (.seq (.reg [qi 62 (.fa (.t 2) 0),qi 63 (.ld (.t 62) 1 false),qi 64 (.len (.t 63) false),qi 65 (.bin .add (.t 64) (ic 1)),⟨some 66,none,.mks (.t 65) (.t 65) 1 8 (.sc (.int .i64 0))⟩,mi 12 66] [] [1,2,4,6,7,8,9,10,11,12] [2,4,9,41,42,66,119,129,137,1035,1049,1061,1086]) (.seq (.seq (.reg [mi 67 12,qi 68 (.len (.t 67) false),qi 69 (.mv (ic 0))] [] [1,2,4,6,7,8,9,10,11,12,68,69] [2,4,9,41,42,66,119,129,137,1035,1049,1061,1086]) (.block 2 (.loop B14_1))) R14_1)))) (.reg [mi 55 10,qi 56 (.bin .add (.t 55) (ic 1)),mi 10 56] [] [1,2,4,6,7,8,9,10] [2,4,9,41,42,119,129,137,1035,1049])))
def R14_0 : MC := (.seq (.reg [qi 139 (.ld (.t 9) 3 true),⟨none,none,.st (.t 4) (.t 139) 3⟩,qi 5 (.mv (ic 0))] [] [4,5] [4,129,137,1049]) .ret)
def M14 : MC := (.seq (.reg [⟨some 2,none,.box (.t 0)⟩,⟨some 4,none,.alloc [.e0,.e0,.e0]⟩,qi 5 (.mv (ic 0))] [] [1,2,4] [2,4,129,137,1049]) (.seq (.seq (.reg [mi 19 1,qi 20 (.bin .lss (.t 19) (ic 1)),mi 21 20,gi 22 21 false (.fa (.t 2) 1),gi 23 21 false (.ld (.t 22) 1 false),gi 24 21 false (.len (.t 23) false),gi 25 21 false (.bin .gtr (.t 24) (ic 180)),qi 26 (.pick (.t 21) (.c (.bool true)) (.t 25)),mi 27 26,gi 28 27 false (.fa (.t 2) 0),gi 29 27 false (.ld (.t 28) 1 false),gi 30 27 false (.len (.t 29) false),gi 31 27 false (.bin .gtr (.t 30) (ic 160)),qi 32 (.pick (.t 27) (.c (.bool true)) (.t 31))] [] [1,2,4,32] [2,4,129,137,1049]) (.cond (.t 32) (.seq (.reg [qi 33 (.mk [.e0,.e0,.e0] []),⟨none,none,.st (.t 4) (.t 33) 3⟩,qi 5 (.mv (ic 1))] [] [4,5] [4,129,137,1049]) .ret) .skip)) (.seq (.reg [qi 34 (.ld (.t 2) 4 true),⟨some 35,none,.call (.f 43) [.t 34]⟩,mi 6 35] [] [1,2,4,6] [2,4,129,137,1035,1049]) (.seq (.reg [qi 36 (.ld (.t 2) 4 true),qi 37 (.fa (.t 2) 3),qi 38 (.ld (.t 37) 1 false),⟨some 39,none,.call (.f 45) [.t 36,.t 38]⟩,⟨some 40,none,.call (.f 44) [.t 39]⟩,⟨some 41,none,.own [.t 40] 3⟩,mi 7 41] [] [1,2,4,6,7] [2,4,41,119,129,137,1035,1049]) (.seq (.reg [⟨some 42,none,.mkm⟩,mi 43 7,qi 44 (.ia (.t 43) (ic 0) 3),qi 45 (.ld (.t 44) 3 true),⟨none,none,.mset (.t 42) (.t 45) (ic 0) (Kk.st [0,0,0])⟩,mi 46 42,mi 8 46] [] [1,2,4,6,7,8] [2,4,41,42,119,129,137,1035,1049]) (.seq (.reg [qi 47 (.fa (.t 2) 0),qi 48 (.ld (.t 47) 1 false),⟨some 49,none,.call (.f 46) [.t 48]⟩,qi 50 (.mk [.e0,.e0,.e0] [(0,1,(.t 49))]),⟨some 9,none,.alloc [.e0,.e0,.e0]⟩,⟨none,none,.st (.t 9) (.t 50) 3⟩] [] [1,2,4,6,7,8,9] [2,4,9,41,42,119,129,137,1035,1049]) (.seq (.seq (.reg [qi 10 (.mv (ic 0))] [] [1,2,4,6,7,8,9,10] [2,4,9,41,42,119,129,137,1035,1049]) (.block 0 (.loop B14_0))) R14_0)))))))
theorem mc14 : ofCode Tryz.prog [41] Tryz.f14.ntmps [(0, ⟨[1, 2, 4], [2, 4, 129, 137, 1049], [], 0, [], none⟩),
  (1, ⟨[1, 2, 4, 32], [2, 4, 129, 137, 1049], [], 0, [], none⟩),
  (2, ⟨[4, 5], [4, 129, 137, 1049], [], 0, [], none⟩),
  (3, ⟨[1, 2, 4, 6], [2, 4, 129, 137, 1035, 1049], [], 0, [], none⟩),
  (4, ⟨[1, 2, 4, 6, 7], [2, 4, 41, 119, 129, 137, 1035, 1049], [], 0, [], none⟩),
  (5, ⟨[1, 2, 4, 6, 7, 8], [2, 4, 41, 42, 119, 129, 137, 1035, 1049], [], 0, [], none⟩),
  (6, ⟨[1, 2, 4, 6, 7, 8, 9], [2, 4, 9, 41, 42, 119, 129, 137, 1035, 1049], [], 0, [], none⟩),
  (7, ⟨[1, 2, 4, 6, 7, 8, 9, 10], [2, 4, 9, 41, 42, 119, 129, 137, 1035, 1049], [], 0, [], none⟩),
  (8, ⟨[1, 2, 4, 6, 7, 8, 9, 10, 54], [2, 4, 9, 41, 42, 119, 129, 137, 1035, 1049], [], 0, [], none⟩),
  (9, ⟨[1, 2, 4, 6, 7, 8, 9, 10], [2, 4, 9, 41, 42, 119, 129, 137, 1035, 1049], [], 0, [], none⟩),
  (10, ⟨[1, 2, 4, 6, 7, 8, 9, 10, 11], [2, 4, 9, 41, 42, 119, 129, 137, 1035, 1049, 1061], [], 0, [], none⟩),
  (11, ⟨[1, 2, 4, 6, 7, 8, 9, 10, 11, 12], [2, 4, 9, 41, 42, 66, 119, 129, 137, 1035, 1049, 1061, 1086], [], 0, [], none⟩),
  (12, ⟨[1, 2, 4, 6, 7, 8, 9, 10, 11, 12, 68, 69], [2, 4, 9, 41, 42, 66, 119, 129, 137, 1035, 1049, 1061, 1086], [], 0, [], none⟩),
  (13, ⟨[1, 2, 4, 6, 7, 8, 9, 10, 11, 12, 68, 69, 70], [2, 4, 9, 41, 42, 66, 119, 129, 137, 1035, 1049, 1061, 1086], [], 0, [], none⟩),
  (14, ⟨[1, 2, 4, 6, 7, 8, 9, 10, 11, 12, 13, 68, 69], [2, 4, 9, 41, 42, 66, 119, 129, 137, 1035, 1049, 1061, 1086], [], 0, [], none⟩),
  (15, ⟨[1, 2, 4, 6, 7, 8, 9, 10, 11, 12, 13, 14, 68, 69], [2, 4, 9, 14, 41, 42, 66, 119, 129, 137, 1035, 1049, 1061, 1086], [], 0, [], none⟩),
  (16, ⟨[1, 2, 4, 6, 7, 8, 9, 10, 11, 12, 13, 14, 68, 69, 72, 73, 74], [2, 4, 9, 14, 41, 42, 66, 119, 129, 137, 1035, 1049, 1061, 1086], [], 0, [], none⟩),
  (17, ⟨[1, 2, 4, 6, 7, 8, 9, 10, 11, 12, 13, 14, 68, 69, 72, 73, 74, 75], [2, 4, 9, 14, 41, 42, 66, 119, 129, 137, 1035, 1049, 1061, 1086], [], 0, [], none⟩),
  (18, ⟨[1, 2, 4, 6, 7, 8, 9, 10, 11, 12, 13, 14, 16, 68, 69, 72, 73, 74], [2, 4, 9, 14, 41, 42, 66, 119, 129, 137, 1035, 1049, 1061, 1086], [], 0, [], none⟩),
  (19, ⟨[1, 2, 4, 6, 7, 8, 9, 10, 11, 12, 13, 14, 68, 69, 72, 73, 74], [2, 4, 9, 14, 41, 42, 66, 119, 129, 137, 1035, 1049, 1061, 1086], [(0, 769), (1, 986), (2, 988), (3, 984), (4, 976), (5, 992), (6, 960), (7, 896), (8, 0), (9, 0)], 511, [], none⟩),
  (20, ⟨[1, 2, 4, 6, 7, 8, 9, 10, 11, 12, 13, 14, 68, 69, 72, 73, 74], [2, 4, 9, 14, 41, 42, 66, 119, 129, 137, 1035, 1049, 1061, 1086], [], 0, [], none⟩),
  (21, ⟨[1, 2, 4, 6, 7, 8, 9, 10, 11, 12, 13, 14, 17, 18, 68, 69], [2, 4, 9, 14, 41, 42, 66, 119, 129, 137, 1035, 1049, 1061, 1086], [], 0, [], none⟩),
  (22, ⟨[1, 2, 4, 6, 7, 8, 9, 10, 11, 12, 13, 14, 17, 18, 68, 69, 94], [2, 4, 9, 14, 41, 42, 66, 119, 129, 137, 1035, 1049, 1061, 1086], [], 0, [], none⟩),
  (23, ⟨[1, 2, 4, 6, 7, 8, 9, 10, 11, 12, 13, 17, 68, 69], [2, 4, 9, 41, 42, 66, 119, 129, 137, 1035, 1049, 1061, 1086], [], 0, [], none⟩),
  (24, ⟨[1, 2, 4, 6, 7, 8, 9, 10, 11, 12, 13, 14, 17, 18, 68, 69, 98], [2, 4, 9, 14, 41, 42, 66, 119, 129, 137, 1035, 1049, 1061, 1086], [], 0, [], none⟩),
  (25, ⟨[4, 5], [4, 129, 137, 1049], [], 0, [], none⟩),
  (26, ⟨[1, 2, 4, 6, 7, 8, 9, 10, 11, 12, 13, 14, 17, 68, 69, 108], [2, 4, 9, 14, 41, 42, 66, 119, 129, 137, 1035, 1049, 1061, 1086], [], 0, [], none⟩),
  (27, ⟨[1, 2, 4, 6, 7, 8, 9, 10, 11, 12, 13, 14, 17, 68, 69], [2, 4, 9, 14, 41, 42, 66, 119, 129, 137, 1035, 1049, 1061, 1086], [], 0, [], none⟩),
  (28, ⟨[1, 2, 4, 6, 7, 8, 9, 10, 11, 12, 13, 14, 17, 68, 69], [2, 4, 9, 14, 41, 42, 66, 119, 129, 137, 1035, 1049, 1061, 1086], [], 0, [], none⟩),
  (29, ⟨[1, 2, 4, 6, 7, 8, 9, 10, 11, 12, 13, 17, 68, 69], [2, 4, 9, 41, 42, 66, 119, 129, 137, 1035, 1049, 1061, 1086], [], 0, [], none⟩),
  (30, ⟨[1, 2, 4, 6, 7, 8, 9, 10, 11, 12, 68, 69], [2, 4, 9, 41, 42, 66, 119, 129, 137, 1035, 1049, 1061, 1086], [], 0, [], none⟩),
  (31, ⟨[1, 2, 4, 6, 7, 8, 9, 10, 11, 12, 68, 69], [2, 4, 9, 41, 42, 66, 119, 129, 137, 1035, 1049, 1061, 1086], [], 0, [], none⟩),
  (32, ⟨[1, 2, 4, 6, 7, 8, 9, 10, 11], [2, 4, 9, 41, 42, 119, 129, 137, 1035, 1049, 1061], [], 0, [], none⟩),
  (33, ⟨[1, 2, 4, 6, 7, 8, 9, 10], [2, 4, 9, 41, 42, 119, 129, 137, 1035, 1049], [(0, 451), (1, 450), (2, 500), (3, 504), (4, 0), (5, 0), (6, 0), (7, 384), (8, 0)], 191, [], none⟩),
  (34, ⟨[4, 5], [4, 129, 137, 1049], [], 0, [], none⟩)] (Tryz.f14.body.getD .skip) = some M14 := by kernel_rfl
theorem Run14 {args : List PV} {v : AV} {rs : List (Nat × List PV)} (ids : List Bool) (h : args.length ≤ 140) (hv : run Tryz.prog (retK [RV.cell 4 3 true, RV.tmp 5] ids v rs) M14 [] ⟨entry 0 args, []⟩) : Fn Tryz.prog 14 args v rs :=
 Fn_run ids (by kernel_rfl) Tryz.func14 (by decide) rfl mc14 (by kernel_rfl) (by rw [Tryz.ntmps14]; exact h) (by rw [Tryz.ntmps14]; decide) hv
def M46 : MC := (.seq (.reg [qi 2 (.mv .nil)] [] [0] []) (.seq (.seq (.reg [mi 3 0,⟨some 4,none,.isnil (.t 3) false⟩] [] [0,4] []) (.cond (.t 4) (.seq (.reg [qi 2 (.mv .nil)] [(2,2002,1)] [2] [7,2002]) .ret) .skip)) (.seq (.reg [⟨some 5,none,.lits [] 1⟩,mi 6 0,⟨some 7,none,.app (.t 5) (.t 6) 1 16⟩,mi 2 7] [] [2] [7,2002]) .ret)))
theorem mc46 : ofCode Tryz.prog [] Tryz.f46.ntmps [(0, ⟨[0], [], [], 0, [], none⟩),
  (1, ⟨[0, 4], [], [], 0, [], none⟩),
  (2, ⟨[2], [7, 2002], [], 0, [(2, 2002, 1)], none⟩),
  (3, ⟨[2], [7, 2002], [], 0, [], none⟩)] (Tryz.f46.body.getD .skip) = some M46 := by kernel_rfl
theorem Run46 {args : List PV} {v : AV} {rs : List (Nat × List PV)} (ids : List Bool) (h : args.length ≤ 8) (hv : run Tryz.prog (retK [RV.tmp 2] ids v rs) M46 [] ⟨entry 0 args, []⟩) : Fn Tryz.prog 46 args v rs :=
 Fn_run ids (by kernel_rfl) Tryz.func46 (by decide) rfl mc46 (by kernel_rfl) (by rw [Tryz.ntmps46]; exact h) (by rw [Tryz.ntmps46]; decide) hv
def M53 : MC := (.seq (.reg [qi 2 (.mv .nil)] [] [0] []) (.seq (.seq (.reg [mi 3 0,⟨some 4,none,.isnil (.t 3) false⟩] [] [0,4] []) (.cond (.t 4) (.seq (.reg [qi 2 (.mv .nil)] [(2,2002,1)] [2] [7,2002]) .ret) .skip)) (.seq (.reg [⟨some 5,none,.lits [] 1⟩,mi 6 0,⟨some 7,none,.app (.t 5) (.t 6) 1 8⟩,mi 2 7] [] [2] [7,2002]) .ret)))
theorem mc53 : ofCode Tryz.prog [] Tryz.f53.ntmps [(0, ⟨[0], [], [], 0, [], none⟩),
  (1, ⟨[0, 4], [], [], 0, [], none⟩),
  (2, ⟨[2], [7, 2002], [], 0, [(2, 2002, 1)], none⟩),
  (3, ⟨[2], [7, 2002], [], 0, [], none⟩)] (Tryz.f53.body.getD .skip) = some M53 := by kernel_rfl
theorem Run53 {args : List PV} {v : AV} {rs : List (Nat × List PV)} (ids : List Bool) (h : args.length ≤ 8) (hv : run Tryz.prog (retK [RV.tmp 2] ids v rs) M53 [] ⟨entry 0 args, []⟩) : Fn Tryz.prog 53 args v rs :=
 Fn_run ids (by kernel_rfl) Tryz.func53 (by decide) rfl mc53 (by kernel_rfl) (by rw [Tryz.ntmps53]; exact h) (by rw [Tryz.ntmps53]; decide) hv
end Go.Vc
