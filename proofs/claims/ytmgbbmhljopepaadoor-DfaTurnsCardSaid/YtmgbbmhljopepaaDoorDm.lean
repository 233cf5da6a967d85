/- A part of the proofs of the seat YtmgbbmhljopepaaDoor: the contracts of functions, each proved out of its code. -/
import Derived.Test.YtmgbbmhljopepaaDoorDj
namespace Go.Vc
set_option linter.unusedSimpArgs false
set_option linter.unusedVariables false

/-! ## How many states there are -/
theorem nodup_sub_len : ∀ {l m : List (List Nat)}, l.Nodup → (∀ x ∈ l, x ∈ m) → l.length ≤ m.length
  | [], m, _, _ => by simp
  | x :: l, m, hn, hs => by
    rw [List.nodup_cons] at hn
    have hx : x ∈ m := hs x (by simp)
    have ih := nodup_sub_len (l := l) (m := m.erase x) hn.2 fun y hy => by
      have hne : y ≠ x := fun e => hn.1 (e ▸ hy)
      exact (List.mem_erase_of_ne hne).2 (hs y (List.mem_cons_of_mem _ hy))
    have hl := List.length_erase_of_mem hx
    have hp : 0 < m.length := List.length_pos_of_mem hx
    simp only [List.length_cons]
    omega
theorem bfs_nil {n : NF} : ∀ {i : Nat}, [] ∈ bfsL n i → walkN n [] = []
  | 0, h => by
    simp only [bfsL, List.mem_singleton] at h
    exact h.symm
  | i + 1, h => by
    simp only [bfsL] at h
    rcases rowL_mem.1 h with h1 | ⟨a, _, _, h2⟩
    · exact bfs_nil h1
    · exact absurd rfl h2
/-- as many as there are behind words, told apart by another automaton -/
theorem count_le {n n' : NF} {j k' : Nat} (hr : RisB n.signs) (h' : Whole n' k') (f : List Nat → List Nat) (hf : ∀ w, walkN n w = f (walkN n' w)) (hne : ∀ w, walkN n w ≠ [] → walkN n' w ≠ []) : (bfsL n j).length ≤ k' := by
  have key : ∀ S ∈ bfsL n j, S ∈ (bfsL n' k').map f := fun S hS => by
    rw [List.mem_map]
    have first : walkN n' [] ∈ bfsL n' k' := (bfsL_pre n' (Nat.zero_le k')).subset (by simp [bfsL, walkN])
    by_cases h0 : S = []
    · subst h0
      refine ⟨walkN n' [], first, ?_⟩
      rw [← hf]; exact bfs_nil hS
    · obtain ⟨w, hw⟩ := bfs_word hr hS
      refine ⟨walkN n' w, ?_, by rw [← hf, hw]⟩
      exact (h'.walk w).resolve_left (hne w (by rw [← hw]; exact h0))
  have := nodup_sub_len (bfsL_nodup n j) key
  rwa [List.length_map, h'.len] at this
theorem endD_at {n : NF} {k most : Nat} (h : Whole n k) (hk : k ≤ most) : ∀ (f i : Nat), i ≤ k → k - i < f → endD n most f i = some k
  | 0, i, _, hf => by omega
  | f + 1, i, hi, hf => by
    rw [endD]
    by_cases he : i = k
    · subst he
      rw [if_pos (by rw [h.len]; omega)]
    · have h1 := h.row i (by omega)
      have h2 := (bfsL_pre n (show i + 1 ≤ k by omega)).length_le
      rw [h.len] at h2
      rw [if_neg (by omega), if_neg (by omega)]
      exact endD_at h hk f (i + 1) (by omega) (by omega)
theorem dfaK_of {n : NF} {k most : Nat} (h : Whole n k) (hk : k ≤ most) : dfaK n most = some k := endD_at h hk _ 0 (Nat.zero_le _) (by omega)
theorem whole_uniq {n : NF} {k k2 : Nat} (h : Whole n k) (h2 : Whole n k2) : k = k2 := by
  rcases Nat.lt_trichotomy k k2 with h3 | h3 | h3
  · have := h2.row k h3
    rw [h.len] at this; omega
  · exact h3
  · have := h.row k2 h3
    rw [h2.len] at this; omega
theorem dfaK_less {n : NF} {k : Nat} (h : Whole n k) (hk : 2 ≤ k) : dfaK n (k - 1) = none := by
  cases hd : dfaK n (k - 1) with
  | none => rfl
  | some k2 =>
    obtain ⟨w, _, hl⟩ := dfaK_some hd
    have := whole_uniq h w
    omega
/-- one glob more -/
theorem walk_more (gs : List (List ByteArray)) (ps : List ByteArray) (w : List ByteArray) : walkN (nfaOf gs) w = (walkN (nfaOf (gs ++ [ps])) w).filter fun s => decide (s < base gs gs.length) := by
  refine risI_ext (walkN_ris _ _) ((walkN_ris _ _).filter _) fun s => ?_
  rw [List.mem_filter, walk_at, walk_at]
  have hb : ∀ i, i ≤ gs.length → base (gs ++ [ps]) i = base gs i := fun i hi => by
    have h1 := base_take (gs := gs ++ [ps]) (i := i) (by simp; omega)
    have h2 := base_take (gs := gs) (i := i) hi
    rw [List.take_append_of_le_length hi] at h1
    rw [← h1, ← h2]
  constructor
  · rintro ⟨i, hi, k, hk, rfl, hS⟩
    have h1 : i < (gs ++ [ps]).length := by simp; omega
    have h2 : (gs ++ [ps])[i] = gs[i] := List.getElem_append_left hi
    refine ⟨⟨i, h1, k, by rw [h2]; exact hk, by rw [hb i (by omega)], by rw [h2]; exact hS⟩, ?_⟩
    have := base_mono (gs := gs) hi (Nat.le_refl _)
    simp; omega
  · rintro ⟨⟨i, hi, k, hk, rfl, hS⟩, hlt⟩
    rw [decide_eq_true_eq] at hlt
    have hig : i < gs.length := by
      rcases Nat.lt_or_ge i gs.length with h1 | h1
      · exact h1
      · have : i = gs.length := by simp at hi; omega
        subst this
        rw [hb _ (Nat.le_refl _)] at hlt
        omega
    have h2 : (gs ++ [ps])[i] = gs[i] := List.getElem_append_left hig
    rw [h2] at hk hS
    exact ⟨i, hig, k, hk, by rw [hb i (by omega)], hS⟩
theorem count_more {gs : List (List ByteArray)} {ps : List ByteArray} {k k' : Nat} (h : Whole (nfaOf gs) k) (h' : Whole (nfaOf (gs ++ [ps])) k') : k ≤ k' := by
  have := count_le (n := nfaOf gs) (j := k) (signsOf_ris gs) h' (fun T => T.filter fun s => decide (s < base gs gs.length)) (walk_more gs ps) (fun w hw he => hw (by rw [walk_more gs ps w, he]; rfl))
  rwa [h.len] at this
/-- what a row of ways leads to -/
theorem row_num {n : NF} {j a : Nat} (ha : a < n.wid) : (rowN n ((bfsL n j).getD j []) (bfsL n j) n.wid).getD a 0 = numS (bfsL n (j + 1)) (stepN n (toI ((bfsL n j).getD j [])) (a : Int)) := by
  rw [rowN_at ha]; rfl
theorem row_bounds {n : NF} {k j a : Nat} (h : Whole n k) (hj : j < k) (ha : a < n.wid) : -1 ≤ (rowN n ((bfsL n j).getD j []) (bfsL n j) n.wid).getD a 0 ∧ (rowN n ((bfsL n j).getD j []) (bfsL n j) n.wid).getD a 0 < (k : Int) := by
  rw [row_num ha]
  have hl := (bfsL_pre n (show j + 1 ≤ k by omega)).length_le
  rw [h.len] at hl
  unfold numS
  split
  · omega
  · rename_i hne
    have hm : stepN n (toI ((bfsL n j).getD j [])) (a : Int) ∈ bfsL n (j + 1) := rowL_mem.2 (.inr ⟨a, ha, rfl, hne⟩)
    have := List.idxOf_lt_length_of_mem hm
    omega
theorem row_new {n : NF} {j t : Nat} (h1 : (bfsL n j).length ≤ t) (h2 : t < (bfsL n (j + 1)).length) : ∃ a, a < n.wid ∧ (rowN n ((bfsL n j).getD j []) (bfsL n j) n.wid).getD a 0 = (t : Int) := by
  have hT : (bfsL n (j + 1))[t] ∈ bfsL n (j + 1) := List.getElem_mem h2
  have hnd := bfsL_nodup n (j + 1)
  have hix : (bfsL n (j + 1)).idxOf (bfsL n (j + 1))[t] = t := List.Nodup.idxOf_getElem hnd t h2
  generalize hTe : (bfsL n (j + 1))[t] = T at hT hix
  rcases rowL_mem.1 hT with h3 | ⟨a, h3, h4, h5⟩
  · exfalso
    have h6 : (bfsL n (j + 1)).idxOf T < (bfsL n j).length := by
      obtain ⟨X, hX⟩ := bfsL_pre n (Nat.le_succ j)
      rw [← hX, List.idxOf_append, if_pos h3]
      exact List.idxOf_lt_length_of_mem h3
    omega
  · refine ⟨a, h3, ?_⟩
    rw [row_num h3, ← h4]
    unfold numS
    rw [if_neg h5, hix]
/-! ### the same globs -/
theorem sk_walk {gs : List (List ByteArray)} {w : List ByteArray} {i k : Nat} (hi : i < gs.length) (hk : k ≤ gs[i].length) : base gs i + k ∈ walkN (nfaOf gs) w ↔ Sk gs[i] k w := by
  rw [walk_at]
  constructor
  · rintro ⟨j, hj, m, hm, he, hS⟩
    obtain ⟨rfl, rfl⟩ := base_uniq hi hj hk hm he
    exact hS
  · exact fun h => ⟨i, hi, k, hk, rfl, h⟩
theorem walk_sub {gs gs' : List (List ByteArray)} (hs : ∀ p ∈ gs, p ∈ gs') {w1 w2 : List ByteArray} (h : walkN (nfaOf gs') w1 = walkN (nfaOf gs') w2) : walkN (nfaOf gs) w1 = walkN (nfaOf gs) w2 := by
  have key : ∀ (i k : Nat) (hi : i < gs.length), k ≤ gs[i].length → (Sk gs[i] k w1 ↔ Sk gs[i] k w2) := fun i k hi hk => by
    obtain ⟨j, hj, he⟩ := List.mem_iff_getElem.1 (hs gs[i] (List.getElem_mem hi))
    have hk' : k ≤ gs'[j].length := by rw [he]; exact hk
    have h1 := sk_walk (w := w1) hj hk'
    have h2 := sk_walk (w := w2) hj hk'
    rw [he] at h1 h2
    rw [← h1, ← h2, h]
  refine risI_ext (walkN_ris _ _) (walkN_ris _ _) fun s => ?_
  rw [walk_at, walk_at]
  constructor
  · rintro ⟨i, hi, k, hk, rfl, hS⟩; exact ⟨i, hi, k, hk, rfl, (key i k hi hk).1 hS⟩
  · rintro ⟨i, hi, k, hk, rfl, hS⟩; exact ⟨i, hi, k, hk, rfl, (key i k hi hk).2 hS⟩
theorem walk_sub_ne {gs gs' : List (List ByteArray)} (hs : ∀ p ∈ gs, p ∈ gs') {w : List ByteArray} (h : walkN (nfaOf gs) w ≠ []) : walkN (nfaOf gs') w ≠ [] := fun he => by
  obtain ⟨s, hsm⟩ := List.exists_mem_of_ne_nil _ h
  obtain ⟨i, hi, k, hk, rfl, hS⟩ := (walk_at w s).1 hsm
  obtain ⟨j, hj, hg⟩ := List.mem_iff_getElem.1 (hs gs[i] (List.getElem_mem hi))
  have : base gs' j + k ∈ walkN (nfaOf gs') w := (sk_walk hj (by rw [hg]; exact hk)).2 (by rw [hg]; exact hS)
  rw [he] at this
  cases this
open Classical in
theorem count_sub {gs gs' : List (List ByteArray)} (hs : ∀ p ∈ gs, p ∈ gs') {j k' : Nat} (h' : Whole (nfaOf gs') k') : (bfsL (nfaOf gs) j).length ≤ k' := by
  refine count_le (signsOf_ris gs) h' (fun T => if h : ∃ w, walkN (nfaOf gs') w = T then walkN (nfaOf gs) (Classical.choose h) else []) (fun w => ?_) fun w hw => walk_sub_ne hs hw
  have hex : ∃ w2, walkN (nfaOf gs') w2 = walkN (nfaOf gs') w := ⟨w, rfl⟩
  rw [dif_pos hex]
  exact (walk_sub hs (Classical.choose_spec hex)).symm
end Go.Vc
