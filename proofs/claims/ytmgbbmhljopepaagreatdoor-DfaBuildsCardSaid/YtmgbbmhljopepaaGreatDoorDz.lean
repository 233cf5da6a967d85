/- A part of the proofs of the seat YtmgbbmhljopepaaGreatDoor: the contracts of functions, each proved out of its code. -/
import Derived.Test.YtmgbbmhljopepaaGreatDoorDg
import Derived.Test.YtmgbbmhljopepaaGreatDoorDy
namespace Go.Vc
open Go.Proofs
set_option linter.unusedSimpArgs false
set_option linter.unusedVariables false

/-! ## 'Step', of the code -/
def goF (sign : Int) (W : List (Int × Int)) : List Int := (W.filter (fun e => decide (e.1 = sign))).map (·.2)
theorem goF_succ {sign : Int} {W : List (Int × Int)} {k : Nat} (h : k < W.length) : goF sign (W.take (k + 1)) = goF sign (W.take k) ++ (if W[k].1 = sign then [W[k].2] else []) := by
  unfold goF
  rw [List.take_succ_eq_append_getElem h, List.filter_append, List.map_append]
  congr 1
  by_cases h1 : W[k].1 = sign <;> simp [h1]
theorem goF_len (sign : Int) (W : List (Int × Int)) : (goF sign W).length ≤ W.length := by
  unfold goF
  rw [List.length_map]
  exact List.length_filter_le _ _
def goK (n : NF) (l : List Int) (sign : Int) (i k : Nat) : List Int := goN n (l.take i) sign ++ goF sign ((waysAt n (l.getD i 0)).take k)
theorem goK_zero (n : NF) (l : List Int) (sign : Int) (i : Nat) : goK n l sign i 0 = goN n (l.take i) sign := by simp [goK, goF]
theorem goK_end {n : NF} {l : List Int} {sign : Int} {i : Nat} (h : i < l.length) : goK n l sign i (waysAt n (l.getD i 0)).length = goK n l sign (i + 1) 0 := by
  rw [goK_zero]
  unfold goK
  rw [List.take_length, List.take_succ_eq_append_getElem h]
  unfold goN
  rw [List.flatMap_append]
  simp [List.getD_eq_getElem?_getD, h, goF]
theorem goN_len {n : NF} {sign : Int} (hw : ∀ x, (waysAt n x).length ≤ 200) : ∀ l : List Int, (goN n l sign).length ≤ 200 * l.length
  | [] => by simp [goN]
  | x :: l => by
    have := goN_len (sign := sign) hw l
    have h2 := goF_len sign (waysAt n x)
    have h3 := hw x
    unfold goN at *
    rw [List.flatMap_cons, List.length_append, List.length_cons]
    unfold goF at h2
    omega
theorem goK_len {n : NF} {l : List Int} {sign : Int} {i k : Nat} (hw : ∀ x, (waysAt n x).length ≤ 200) (hi : i ≤ l.length) : (goK n l sign i k).length ≤ 200 * i + k := by
  have h1 := goN_len (sign := sign) hw (l.take i)
  have h2 := goF_len sign ((waysAt n (l.getD i 0)).take k)
  rw [List.length_take] at h1 h2
  unfold goK
  rw [List.length_append]
  have : min i l.length ≤ i := Nat.min_le_left _ _
  omega
theorem waysAt_len {n : NF} (hw : ∀ s, (n.ways.getD s []).length ≤ 200) (x : Int) : (waysAt n x).length ≤ 200 := by
  unfold waysAt
  split
  · exact hw _
  · simp
theorem fn68 (n : NF) (l : List Int) (sign : Int) (hg : n.Good) (hsz : n.size ≤ 1000) (hwl : ∀ s, (n.ways.getD s []).length ≤ 200) (hl : l.length ≤ 200) : Fn Tryz.prog 68 [pNf n, ints l, pI sign] (.pv (pNs (stepN n l sign))) [] := by
  have hw := waysAt_len hwl
  refine Run68 [] (by simp) ?_
  unfold stepN
  by_cases h0 : sign < 0
  · simp only [go_sem, Nat.reduceEqDiff, Nat.reduceBEq, Nat.reduceAdd, Nat.reduceLT, reduceCtorEq, and_self, M68, h0]
    rfl
  rw [if_neg h0]
  simp only [go_sem, Nat.reduceEqDiff, Nat.reduceBEq, Nat.reduceAdd, Nat.reduceLT, reduceCtorEq, and_self, M68, h0]
  have key : ∀ i, List.take (goK n l sign i 0).length ((goK n l sign i 0).map fun n => pI n) = (goK n l sign i 0).map fun n => pI n := fun i => List.take_of_length_le (by simp)
  refine run_loopG (T := Nat) (fun i => if i = l.length then [(2007, 2007, 0)] else []) [2, 3, 7, 14, 15, 16] [3, 2007]
    (fun i => if i = l.length then ⟨[(2, .pv (pI sign)), (3, .ptr 3 0), (7, .pv (ints (goK n l sign i 0))), (14, .pv (ints l)), (15, .pv (pI l.length)), (16, .pv (pI i))], [(3, .box (nBox n))]⟩
      else ⟨[(2, .pv (pI sign)), (3, .ptr 3 0), (7, .row 2007 0 (goK n l sign i 0).length), (14, .pv (ints l)), (15, .pv (pI l.length)), (16, .pv (pI i))], [(3, .box (nBox n)), (2007, .sl 1 ((goK n l sign i 0).map fun n => pI n))]⟩) (fun i => i ≤ l.length) (fun i => l.length - i) 0 ?_ (Nat.zero_le _) ?_
  · have hz : goK n l sign 0 0 = [] := by simp [goK_zero, goN]
    by_cases h9 : 0 = l.length
    · simp only [go_sem, Nat.reduceEqDiff, h9]
      rw [← h9, hz]; rfl
    · simp only [go_sem, Nat.reduceEqDiff, Int.cast_ofNat_Int, h9, hz]
  intro i hi
  by_cases hlt : i < l.length
  · rw [if_neg (show ¬ i = l.length by omega)]
    have hli : l.getD i 0 = l[i] := by simp [List.getD_eq_getElem?_getD, hlt]
    have hW := hw l[i]
    simp only [go_sem, Nat.reduceEqDiff, Nat.reduceAdd, and_self, B68_0, show (i : Int) < (l.length : Int) by omega, wf_ints, getD_map hlt]
    refine runR_call (by simp only [go_sem, Nat.reduceEqDiff, and_self]) rfl (fn78 n l[i] hsz) (.inl rfl) trivial ?_
    have hend := goK_end (n := n) (sign := sign) hlt
    rw [hli] at hend
    have hgk : ∀ k, goK n l sign i k = goN n (l.take i) sign ++ goF sign ((waysAt n l[i]).take k) := fun k => by unfold goK; rw [hli]
    generalize waysAt n l[i] = W at hW hend hgk ⊢
    simp only [go_sem, Nat.reduceEqDiff, and_self]
    refine run_loop (T := Nat) (fun k => ⟨[(2, .pv (pI sign)), (3, .ptr 3 0), (7, .row 2007 0 (goK n l sign i k).length), (14, .pv (ints l)), (15, .pv (pI l.length)), (16, .pv (pI i)), (22, .pv (pWs W)), (23, .pv (pI W.length)), (24, .pv (pI k))],
      [(3, .box (nBox n)), (2007, .sl 1 ((goK n l sign i k).map fun n => pI n))]⟩) (fun k => k ≤ W.length) (fun k => W.length - k) 0 rfl (Nat.zero_le _) ?_
    intro k hk
    have hkl := goK_len (sign := sign) (k := k) hw hi
    have tk : ((goK n l sign i k).map fun n => pI n).take (goK n l sign i k).length = (goK n l sign i k).map fun n => pI n := List.take_of_length_le (by simp)
    by_cases hkk : k < W.length
    · have hsc : goK n l sign i (k + 1) = goK n l sign i k ++ (if W[k].1 = sign then [W[k].2] else []) := by rw [hgk, hgk, goF_succ hkk, List.append_assoc]
      by_cases he : W[k].1 = sign
      · rw [if_pos he] at hsc
        simp only [go_sem, Nat.reduceEqDiff, Nat.reduceBEq, Nat.reduceAdd, Nat.reduceLeDiff, Nat.reduceLT, reduceCtorEq, Int.reduceNeg, and_self, B68_1, show (k : Int) < (W.length : Int) by omega, wf_pE, getD_map hkk, he, tk]
        exact ⟨⟨wf_ints [W[k].2], by omega, by omega⟩, ⟨by omega, by omega⟩, k + 1, by rw [hsc, List.map_append, List.length_append]; rfl, hkk, by omega⟩
      · rw [if_neg he, List.append_nil] at hsc
        simp only [go_sem, Nat.reduceEqDiff, Nat.reduceBEq, Nat.reduceAdd, Nat.reduceLeDiff, Nat.reduceLT, reduceCtorEq, Int.reduceNeg, and_self, B68_1, show (k : Int) < (W.length : Int) by omega, wf_pE, getD_map hkk, he, tk]
        exact ⟨⟨by omega, by omega⟩, k + 1, by rw [hsc]; rfl, hkk, by omega⟩
    · have hke : k = W.length := by omega
      subst hke
      simp only [go_sem, Nat.reduceEqDiff, Nat.reduceBEq, Nat.reduceAdd, Nat.reduceLeDiff, Nat.reduceLT, reduceCtorEq, Int.reduceNeg, and_self, B68_1, show ¬ (W.length : Int) < (W.length : Int) by omega]
      refine ⟨⟨by omega, by omega⟩, i + 1, ?_, hlt, by omega⟩
      have hsi : (i : Int) + 1 = ((i + 1 : Nat) : Int) := by omega
      have hky := key (i + 1)
      rw [hend]
      unfold GH
      by_cases h9 : i + 1 = l.length
      · simp only [go_sem, Nat.reduceEqDiff, h9]
        rw [h9] at hky hsi
        rw [hky, hsi]
      · simp only [go_sem, Nat.reduceEqDiff, h9]
        rw [hsi]
  · have hie : i = l.length := by omega
    subst hie
    rw [if_pos rfl]
    have hkl := goK_len (sign := sign) (k := 0) hw (Nat.le_refl l.length)
    have tk : ((goK n l sign l.length 0).map fun n => pI n).take (goK n l sign l.length 0).length = (goK n l sign l.length 0).map fun n => pI n := List.take_of_length_le (by simp)
    simp only [go_sem, Nat.reduceEqDiff, Nat.reduceAdd, and_self, B68_0, R68_0, show ¬ (l.length : Int) < (l.length : Int) by omega]
    refine runR_call (by simp only [go_sem, Nat.reduceEqDiff, and_self]) rfl (fn45 n (goK n l sign l.length 0) hg hsz (fun s => by have := hwl s; omega) (by omega)) (.inl rfl) trivial ?_
    simp only [go_sem, Nat.reduceEqDiff, and_self]
    rw [goK_zero, List.take_length]
end Go.Vc

namespace Go.Vc
open Go.Proofs
set_option linter.unusedSimpArgs false
set_option linter.unusedVariables false

/-! ## The document's 'Close' -/
def metL (n : NF) (f : Nat → Bool) : List Bool := (List.range n.size).map f
theorem metL_len (n : NF) (f : Nat → Bool) : (metL n f).length = n.size := by simp [metL]
theorem metL_get {n : NF} {f : Nat → Bool} {s : Nat} (h : s < (metL n f).length) : (metL n f)[s] = f s := by simp [metL]
theorem metL_set {n : NF} {f : Nat → Bool} {s : Nat} (h : s < n.size) : (metL n f).set s true = metL n (fun j => if j = s then true else f j) := by
  refine List.ext_getElem (by simp [metL]) fun i h1 h2 => ?_
  rw [metL_get h2, List.getElem_set]
  by_cases hi : s = i
  · rw [if_pos hi, if_pos hi.symm]
  · rw [if_neg hi, if_neg (fun e => hi e.symm), metL_get]
theorem metL_ext {n : NF} {f g : Nat → Bool} (h : ∀ s, s < n.size → f s = g s) : metL n f = metL n g := by
  unfold metL
  exact List.map_congr_left fun s hs => h s (List.mem_range.1 hs)
theorem inI_take {l : List Int} {i : Nat} (h : i < l.length) (s : Nat) : inI (l.take (i + 1)) s = (inI (l.take i) s || decide (l[i] = (s : Int))) := by
  unfold inI
  rw [List.take_succ_eq_append_getElem h, List.any_append]; simp
def outK (n : NF) (f : Nat → Bool) (i : Nat) : List Nat := (List.range i).filter f
theorem outK_succ (n : NF) (f : Nat → Bool) (i : Nat) : outK n f (i + 1) = outK n f i ++ (if f i = true then [i] else []) := by
  unfold outK
  rw [List.range_succ, List.filter_append]
  cases h : f i <;> simp [h]
theorem outK_len (n : NF) (f : Nat → Bool) (i : Nat) : (outK n f i).length ≤ i := by
  have := List.length_filter_le f (List.range i)
  simpa [outK] using this
theorem wf_bools (l : List Bool) : WfL 1 (l.map fun b => pB b) := wf_map (f := fun b : Bool => pB b) (s := 1) (fun a => ⟨rfl, fun c hc => by
  simp only [PV.cells, List.mem_cons, List.not_mem_nil, or_false] at hc
  subst hc; rfl⟩) l
def aK (W : List (Int × Int)) (k : Nat) : Bool := (W.take k).any fun e => decide (e.1 = -1)
theorem aK_succ {W : List (Int × Int)} {k : Nat} (h : k < W.length) : aK W (k + 1) = (aK W k || decide (W[k].1 = -1)) := by
  unfold aK
  rw [List.take_succ_eq_append_getElem h, List.any_append]; simp
def edgeF (P : Nat → Bool) (s : Nat) (b : Bool) (j : Nat) : Bool := if j = s + 1 then (P j || (P s && b)) else P j
theorem edgeF_false (P : Nat → Bool) (s j : Nat) : edgeF P s false j = P j := by unfold edgeF; split <;> simp
theorem fn37 (n : NF) (l : List Int) (hg : n.Good) (hsz : n.size ≤ 1000) (hwl : ∀ s, (n.ways.getD s []).length ≤ 1000) (hl : l.length ≤ 100000) : Fn Tryz.prog 37 [pNf n, ints l] (.pv (pNs (closeN n l))) [] := by
  have hsz' : n.ways.length = n.size := rfl
  refine Run37 [] (by simp) ?_
  simp only [go_sem, Nat.reduceEqDiff, Nat.reduceBEq, Nat.reduceAdd, Nat.reduceLeDiff, reduceCtorEq, and_self, Int.cast_ofNat_Int, M37, hsz']
  refine ⟨⟨by omega, by omega, by omega⟩, ?_⟩
  refine run_loop (T := Nat) (fun i => ⟨[(1, .pv (ints l)), (2, .ptr 2 0), (5, .row 14 0 n.size), (6, .pv (pI i))], [(2, .box (nBox n)), (14, .sl 1 ((metL n (inI (l.take i))).map fun b => pB b))]⟩) (fun i => i ≤ l.length) (fun i => l.length - i) 0 ?_ (Nat.zero_le _) ?_
  · have : (metL n (inI (l.take 0))).map (fun b => pB b) = List.replicate n.size (pB false) := by
      rw [show metL n (inI (l.take 0)) = List.replicate n.size false from by
        rw [metL_ext (g := fun _ => false) (fun s _ => by simp [inI])]
        unfold metL
        rw [List.map_const', List.length_range], List.map_replicate]
    rw [this]; rfl
  intro i hi
  by_cases hlt : i < l.length
  · simp only [go_sem, Nat.reduceEqDiff, Nat.reduceLT, Int.reduceNeg, and_self, Bool.and_eq_false_iff, B37_0, show (i : Int) < (l.length : Int) by omega, wf_ints, getD_map hlt, metL_len]
    refine ⟨fun h => ?_, fun h => ⟨⟨by omega, by omega⟩, i + 1, ?_, hlt, by omega⟩⟩
    · obtain ⟨k, hk⟩ : ∃ k : Nat, l[i] = k := ⟨l[i].toNat, by omega⟩
      have hks : k < n.size := by omega
      rw [show l[i].toNat = k by omega, getD_map (show k < (metL n (inI (l.take i))).length by rw [metL_len]; exact hks)]
      refine ⟨h, hks, ⟨by omega, by omega⟩, i + 1, ?_, hlt, by omega⟩
      have e : ((metL n (inI (l.take i))).map fun b => pB b).set k (pB true) = (metL n (inI (l.take (i + 1)))).map fun b => pB b := by
        rw [← List.map_set (f := fun b => pB b) (a := true), metL_set hks]
        congr 1
        refine metL_ext fun s _ => ?_
        rw [inI_take hlt, hk]
        by_cases hs : s = k
        · subst hs; simp
        · have : ¬ ((k : Int) = (s : Int)) := by omega
          simp [hs, this]
      rw [← e]; rfl
    · have e : metL n (inI (l.take (i + 1))) = metL n (inI (l.take i)) := metL_ext fun s hs => by
        rw [inI_take hlt]
        have : ¬ (l[i] = (s : Int)) := by omega
        simp [this]
      rw [e]; rfl
  · have hie : i = l.length := by omega
    subst hie
    simp only [go_sem, Nat.reduceEqDiff, Nat.reduceAdd, Nat.reduceLeDiff, Nat.reduceLT, Int.reduceNeg, and_self, B37_0, R37_0, show ¬ (l.length : Int) < (l.length : Int) by omega, hsz', List.take_length]
    refine run_loop (T := Nat) (fun r => ⟨[(2, .ptr 2 0), (5, .row 14 0 n.size), (43, .pv (pI n.size)), (44, .pv (pI r))], [(2, .box (nBox n)), (14, .sl 1 ((metL n (if r = 0 then inI l else cl n.eps (inI l))).map fun b => pB b))]⟩) (fun r => r ≤ n.size) (fun r => n.size - r) 0 rfl (Nat.zero_le _) ?_
    intro r hr
    by_cases hrr : r < n.size
    · obtain ⟨F, hF⟩ : ∃ F, F = (if r = 0 then inI l else cl n.eps (inI l)) := ⟨_, rfl⟩
      have hFc : ∀ j, cl n.eps F j = cl n.eps (inI l) j := fun j => by
        rw [hF]; split
        · rfl
        · exact cl_idem j
      rw [← hF]
      simp only [go_sem, Nat.reduceEqDiff, and_self, B37_1, show (r : Int) < (n.size : Int) by omega]
      refine run_loop (T := Nat) (fun s => ⟨[(2, .ptr 2 0), (5, .row 14 0 n.size), (7, .pv (pI s)), (43, .pv (pI n.size)), (44, .pv (pI r))], [(2, .box (nBox n)), (14, .sl 1 ((metL n (passAt n F s)).map fun b => pB b))]⟩) (fun s => s ≤ n.size) (fun s => n.size - s) 0 ?_ (Nat.zero_le _) ?_
      · rw [metL_ext (f := passAt n F 0) (g := F) (fun s _ => passAt_zero n F s)]; rfl
      intro s hs
      by_cases hss : s < n.size
      · simp only [go_sem, Nat.reduceEqDiff, Int.reduceNeg, and_self, B37_2, show (s : Int) < (n.size : Int) by omega]
        obtain ⟨W, hW⟩ : ∃ W, W = n.ways.getD s [] := ⟨_, rfl⟩
        have hsw : s < n.ways.length := hss
        have hWg : n.ways[s] = W := by rw [hW]; simp [List.getD_eq_getElem?_getD, hsw]
        have hWl : W.length ≤ 1000 := by rw [hW]; exact hwl s
        have hPs : passAt n F s s = cl n.eps F s := passAt_end (Nat.le_refl _)
        have hep : n.eps s = aK W W.length := by unfold NF.eps aK; rw [List.take_length, hW]
        have hnx : ∀ k, (k = W.length ∨ passAt n F s s = false) → metL n (edgeF (passAt n F s) s (aK W k)) = metL n (passAt n F (s + 1)) := fun k hk => metL_ext fun j _ => by
          rw [passAt_next]
          unfold edgeF
          split
          · rename_i hj
            rw [← hPs]
            rcases hk with rfl | hk
            · rw [hep]
            · rw [hk]; simp
          · rfl
        generalize passAt n F s = P at hPs hnx ⊢
        refine run_loop (T := Nat) (fun k => ⟨[(2, .ptr 2 0), (5, .row 14 0 n.size), (7, .pv (pI s)), (8, .pv (pI k)), (43, .pv (pI n.size)), (44, .pv (pI r))], [(2, .box (nBox n)), (14, .sl 1 ((metL n (edgeF P s (aK W k))).map fun b => pB b))]⟩) (fun k => k ≤ W.length) (fun k => W.length - k) 0 ?_ (Nat.zero_le _) ?_
        · rw [metL_ext (f := edgeF P s (aK W 0)) (g := P) (fun j _ => by simp [aK, edgeF_false])]; rfl
        intro k hk
        have hget : ∀ (h : s < (metL n (edgeF P s (aK W k))).length), (metL n (edgeF P s (aK W k)))[s] = P s := fun h => by
          rw [metL_get]; unfold edgeF; rw [if_neg (by omega)]
        cases hps : P s with
        | false =>
          rw [hps] at hget
          simp only [go_sem, Nat.reduceEqDiff, Nat.reduceAdd, Nat.reduceLeDiff, Nat.reduceLT, Int.reduceNeg, and_self, B37_3, show (s : Int) < (n.size : Int) by omega, metL_len, getD_map (show s < (metL n (edgeF P s (aK W k))).length by rw [metL_len]; exact hss), hget]
          exact ⟨hss, ⟨by omega, by omega⟩, s + 1, by rw [hnx k (.inr hps)]; rfl, hss, by omega⟩
        | true =>
          rw [hps] at hget
          by_cases hkk : k < W.length
          · by_cases he : W[k].1 = -1
            · have hto := hg.to s hss W[k] (by rw [← hW]; exact List.getElem_mem hkk) he
              simp only [go_sem, Nat.reduceEqDiff, Nat.reduceAdd, Nat.reduceLeDiff, Nat.reduceLT, Int.reduceNeg, and_self, B37_3, show (s : Int) < (n.size : Int) by omega, show (s : Int) < (n.ways.length : Int) by omega, metL_len, getD_map (show s < (metL n (edgeF P s (aK W k))).length by rw [metL_len]; exact hss), hget, wf_pWs, getD_map hsw, hWg, show (k : Int) < (W.length : Int) by omega, wf_pE, getD_map hkk, he, hto.1, getD_map (show s + 1 < (metL n (edgeF P s (aK W k))).length by rw [metL_len]; exact hto.2)]
              refine ⟨hss, by omega, hto.2, ⟨by omega, by omega⟩, k + 1, ?_, hkk, by omega⟩
              have e : ((metL n (edgeF P s (aK W k))).map fun b => pB b).set (s + 1) (pB true) = (metL n (edgeF P s (aK W (k + 1)))).map fun b => pB b := by
                rw [← List.map_set (f := fun b => pB b) (a := true), metL_set hto.2]
                congr 1
                refine metL_ext fun j _ => ?_
                rw [aK_succ hkk, he]
                unfold edgeF
                by_cases hj : j = s + 1
                · simp [hj, hps]
                · simp [hj]
              rw [← e]; rfl
            · simp only [go_sem, Nat.reduceEqDiff, Nat.reduceAdd, Nat.reduceLeDiff, Nat.reduceLT, Int.reduceNeg, and_self, B37_3, show (s : Int) < (n.size : Int) by omega, show (s : Int) < (n.ways.length : Int) by omega, metL_len, getD_map (show s < (metL n (edgeF P s (aK W k))).length by rw [metL_len]; exact hss), hget, wf_pWs, getD_map hsw, hWg, show (k : Int) < (W.length : Int) by omega, wf_pE, getD_map hkk, he]
              have e : aK W (k + 1) = aK W k := by rw [aK_succ hkk]; simp [he]
              exact ⟨hss, ⟨by omega, by omega⟩, k + 1, by rw [e]; rfl, hkk, by omega⟩
          · simp only [go_sem, Nat.reduceEqDiff, Nat.reduceAdd, Nat.reduceLeDiff, Nat.reduceLT, Int.reduceNeg, and_self, B37_3, show (s : Int) < (n.size : Int) by omega, show (s : Int) < (n.ways.length : Int) by omega, metL_len, getD_map (show s < (metL n (edgeF P s (aK W k))).length by rw [metL_len]; exact hss), hget, wf_pWs, getD_map hsw, hWg, show ¬ (k : Int) < (W.length : Int) by omega]
            exact ⟨hss, ⟨by omega, by omega⟩, s + 1, by rw [hnx k (.inl (by omega))]; rfl, hss, by omega⟩
      · have hse : s = n.size := by omega
        subst hse
        simp only [go_sem, Nat.reduceEqDiff, Int.reduceNeg, and_self, B37_2, show ¬ (n.size : Int) < (n.size : Int) by omega]
        refine ⟨⟨by omega, by omega⟩, r + 1, ?_, hrr, by omega⟩
        rw [if_neg (show ¬ r + 1 = 0 by omega), metL_ext (f := passAt n F n.size) (g := cl n.eps (inI l)) (fun s hs => by rw [passAt_end (by omega), hFc])]; rfl
    · have hre : r = n.size := by omega
      subst hre
      have hfin : metL n (if n.size = 0 then inI l else cl n.eps (inI l)) = metL n (cl n.eps (inI l)) := metL_ext fun s hs => by rw [if_neg (by omega)]
      rw [hfin]
      simp only [go_sem, Nat.reduceEqDiff, Nat.reduceBEq, Nat.reduceLT, reduceCtorEq, and_self, B37_1, R37_1, show ¬ (n.size : Int) < (n.size : Int) by omega]
      have hcl : (List.range n.size).filter (cl n.eps (inI l)) = closeN n l := rfl
      refine run_loop (T := Nat) (fun i => ⟨[(5, .row 14 0 n.size), (9, .row 2009 0 (outK n (cl n.eps (inI l)) i).length), (10, .pv (pI i))], [(14, .sl 1 ((metL n (cl n.eps (inI l))).map fun b => pB b)), (2009, .sl 1 ((toI (outK n (cl n.eps (inI l)) i)).map fun n => pI n))]⟩) (fun i => i ≤ n.size) (fun i => n.size - i) 0 rfl (Nat.zero_le _) ?_
      intro i hi
      have hol := outK_len n (cl n.eps (inI l)) i
      have hos := outK_succ n (cl n.eps (inI l)) i
      have tk : ((toI (outK n (cl n.eps (inI l)) i)).map fun n => pI n).take (outK n (cl n.eps (inI l)) i).length = (toI (outK n (cl n.eps (inI l)) i)).map fun n => pI n := List.take_of_length_le (by simp [toI])
      by_cases hin : i < n.size
      · simp only [go_sem, Nat.reduceEqDiff, Nat.reduceBEq, Nat.reduceLeDiff, Nat.reduceLT, Int.reduceNeg, and_self, B37_4, show (i : Int) < (n.size : Int) by omega, getD_map (show i < (metL n (cl n.eps (inI l))).length by rw [metL_len]; exact hin), metL_get, tk]
        refine ⟨by rw [metL_len]; exact hin, fun h => ⟨⟨wf_ints [(i : Int)], by omega, by omega⟩, ⟨by omega, by omega⟩, i + 1, ?_, hin, by omega⟩, fun h => ⟨⟨by omega, by omega⟩, i + 1, ?_, hin, by omega⟩⟩
        · rw [if_pos h] at hos
          rw [hos, toI_app, List.map_append, List.length_append]; rfl
        · rw [h] at hos
          simp only [Bool.false_eq_true, if_false, List.append_nil] at hos
          rw [hos]; rfl
      · have hie : i = n.size := by omega
        subst hie
        simp only [go_sem, Nat.reduceEqDiff, Nat.reduceBEq, Nat.reduceLeDiff, Nat.reduceLT, Int.reduceNeg, and_self, B37_4, R37_4, show ¬ (n.size : Int) < (n.size : Int) by omega, tk]
        rfl
end Go.Vc

namespace Go.Vc
open Go.Proofs
set_option linter.unusedSimpArgs false
set_option linter.unusedVariables false

/-! ## The document's 'Step' -/
theorem goK_out {n : NF} {l : List Int} {sign : Int} {i : Nat} (h : i < l.length) (ho : l[i] < 0 ∨ (n.size : Int) ≤ l[i]) : goK n l sign (i + 1) 0 = goK n l sign i 0 := by
  rw [← goK_end h]
  have : waysAt n (l.getD i 0) = [] := by
    rw [show l.getD i 0 = l[i] by simp [List.getD_eq_getElem?_getD, h]]
    unfold waysAt
    rw [if_neg (by omega)]
  rw [this]; rfl
theorem fn38 (n : NF) (l : List Int) (sign : Int) (hg : n.Good) (hsz : n.size ≤ 1000) (hwl : ∀ s, (n.ways.getD s []).length ≤ 200) (hl : l.length ≤ 200) : Fn Tryz.prog 38 [pNf n, ints l, pI sign] (.pv (pNs (stepN n l sign))) [] := by
  have hw := waysAt_len hwl
  have hsz' : n.ways.length = n.size := rfl
  refine Run38 [] (by simp) ?_
  unfold stepN
  by_cases h0 : sign < 0
  · rw [if_pos h0]
    simp only [go_sem, Nat.reduceEqDiff, Nat.reduceBEq, Nat.reduceAdd, Nat.reduceLT, reduceCtorEq, and_self, M38]
    refine run_loopG (T := Nat) (fun i => if i = l.length then [(2007, 2007, 0)] else []) [1, 2, 3, 7, 8] [3, 2007]
      (fun i => if i = l.length then ⟨[(1, .pv (ints l)), (2, .pv (pI sign)), (3, .ptr 3 0), (7, .pv (ints [])), (8, .pv (pI i))], [(3, .box (nBox n))]⟩
        else ⟨[(1, .pv (ints l)), (2, .pv (pI sign)), (3, .ptr 3 0), (7, .row 2007 0 0), (8, .pv (pI i))], [(3, .box (nBox n)), (2007, .sl 1 [])]⟩) (fun i => i ≤ l.length) (fun i => l.length - i) 0 ?_ (Nat.zero_le _) ?_
    · by_cases h9 : 0 = l.length
      · simp only [go_sem, Nat.reduceEqDiff, h9]
        rw [← h9]; rfl
      · simp only [go_sem, Nat.reduceEqDiff, Int.cast_ofNat_Int, h9]
    intro i hi
    by_cases hlt : i < l.length
    · rw [if_neg (show ¬ i = l.length by omega)]
      simp only [go_sem, Nat.reduceEqDiff, Nat.reduceAdd, Nat.reduceLeDiff, reduceCtorEq, Int.reduceNeg, and_self, B38_0, show (i : Int) < (l.length : Int) by omega, wf_ints, getD_map hlt, h0]
      refine ⟨⟨by omega, by omega⟩, i + 1, ?_, hlt, by omega⟩
      have hsi : (i : Int) + 1 = ((i + 1 : Nat) : Int) := by omega
      unfold GH
      by_cases h9 : i + 1 = l.length
      · simp only [go_sem, Nat.reduceEqDiff, h9]
        rw [h9] at hsi
        rw [hsi]; rfl
      · simp only [go_sem, Nat.reduceEqDiff, h9]
        rw [hsi]
    · have hie : i = l.length := by omega
      subst hie
      rw [if_pos rfl]
      simp only [go_sem, Nat.reduceEqDiff, Nat.reduceAdd, Nat.reduceLeDiff, reduceCtorEq, Int.reduceNeg, and_self, B38_0, R38_0, show ¬ (l.length : Int) < (l.length : Int) by omega]
      refine runR_call (by simp only [go_sem, Nat.reduceEqDiff, and_self]) rfl (fn37 n [] hg hsz (fun s => by have := hwl s; omega) (by simp)) (.inl rfl) trivial ?_
      simp only [go_sem, Nat.reduceEqDiff, and_self]
      rw [closeN_nil]
  rw [if_neg h0]
  simp only [go_sem, Nat.reduceEqDiff, Nat.reduceBEq, Nat.reduceAdd, Nat.reduceLT, reduceCtorEq, and_self, M38]
  have key : ∀ i, List.take (goK n l sign i 0).length ((goK n l sign i 0).map fun n => pI n) = (goK n l sign i 0).map fun n => pI n := fun i => List.take_of_length_le (by simp)
  refine run_loopG (T := Nat) (fun i => if i = l.length then [(2007, 2007, 0)] else []) [1, 2, 3, 7, 8] [3, 2007]
    (fun i => if i = l.length then ⟨[(1, .pv (ints l)), (2, .pv (pI sign)), (3, .ptr 3 0), (7, .pv (ints (goK n l sign i 0))), (8, .pv (pI i))], [(3, .box (nBox n))]⟩
      else ⟨[(1, .pv (ints l)), (2, .pv (pI sign)), (3, .ptr 3 0), (7, .row 2007 0 (goK n l sign i 0).length), (8, .pv (pI i))], [(3, .box (nBox n)), (2007, .sl 1 ((goK n l sign i 0).map fun n => pI n))]⟩) (fun i => i ≤ l.length) (fun i => l.length - i) 0 ?_ (Nat.zero_le _) ?_
  · have hz : goK n l sign 0 0 = [] := by simp [goK_zero, goN]
    by_cases h9 : 0 = l.length
    · simp only [go_sem, Nat.reduceEqDiff, h9]
      rw [← h9, hz]; rfl
    · simp only [go_sem, Nat.reduceEqDiff, Int.cast_ofNat_Int, h9, hz]
  intro i hi
  by_cases hlt : i < l.length
  · rw [if_neg (show ¬ i = l.length by omega)]
    have hsi : (i : Int) + 1 = ((i + 1 : Nat) : Int) := by omega
    have hky := key (i + 1)
    by_cases ho : l[i] < 0 ∨ (n.size : Int) ≤ l[i]
    · have hoo := goK_out (sign := sign) hlt ho
      have ho2 : (l[i] < 0 ∨ (n.ways.length : Int) ≤ l[i]) = True := by simp only [hsz']; simp [ho]
      by_cases hn : l[i] < 0
      · simp only [go_sem, Nat.reduceEqDiff, Nat.reduceAdd, Nat.reduceLeDiff, reduceCtorEq, Int.reduceNeg, and_self, B38_0, show (i : Int) < (l.length : Int) by omega, wf_ints, getD_map hlt, h0, hn]
        refine ⟨⟨by omega, by omega⟩, i + 1, ?_, hlt, by omega⟩
        rw [← hoo]
        unfold GH
        by_cases h9 : i + 1 = l.length
        · simp only [go_sem, Nat.reduceEqDiff, h9]
          rw [h9] at hky hsi
          rw [hky, hsi]
        · simp only [go_sem, Nat.reduceEqDiff, h9]
          rw [hsi]
      · have hn2 : (n.ways.length : Int) ≤ l[i] := ho.resolve_left hn
        simp only [go_sem, Nat.reduceEqDiff, Nat.reduceAdd, Nat.reduceLeDiff, reduceCtorEq, Int.reduceNeg, and_self, B38_0, show (i : Int) < (l.length : Int) by omega, wf_ints, getD_map hlt, h0, hn, hn2]
        refine ⟨⟨by omega, by omega⟩, i + 1, ?_, hlt, by omega⟩
        rw [← hoo]
        unfold GH
        by_cases h9 : i + 1 = l.length
        · simp only [go_sem, Nat.reduceEqDiff, h9]
          rw [h9] at hky hsi
          rw [hky, hsi]
        · simp only [go_sem, Nat.reduceEqDiff, h9]
          rw [hsi]
    · obtain ⟨x, hx⟩ : ∃ x : Nat, l[i] = x := ⟨l[i].toNat, by omega⟩
      have hxs : x < n.ways.length := by unfold NF.size at ho; omega
      obtain ⟨W, hW⟩ : ∃ W, W = n.ways.getD x [] := ⟨_, rfl⟩
      have hWg : n.ways[x] = W := by rw [hW]; simp [List.getD_eq_getElem?_getD, hxs]
      have hli : l.getD i 0 = l[i] := by simp [List.getD_eq_getElem?_getD, hlt]
      have hwa : waysAt n (l.getD i 0) = W := by
        rw [hli, hx]; unfold waysAt NF.size; rw [if_pos (by omega), hW]; simp
      have hWl : W.length ≤ 200 := by rw [hW]; exact hwl x
      have hend := goK_end (n := n) (sign := sign) hlt
      rw [hwa] at hend
      have hgk : ∀ k, goK n l sign i k = goN n (l.take i) sign ++ goF sign (W.take k) := fun k => by unfold goK; rw [hwa]
      simp only [go_sem, Nat.reduceEqDiff, Nat.reduceAdd, Nat.reduceLeDiff, reduceCtorEq, Int.reduceNeg, and_self, B38_0, show (i : Int) < (l.length : Int) by omega, wf_ints, getD_map hlt, h0, hx, show ¬ (x : Int) < 0 by omega, show ¬ (n.ways.length : Int) ≤ (x : Int) by omega]
      refine run_loop (T := Nat) (fun k => ⟨[(1, .pv (ints l)), (2, .pv (pI sign)), (3, .ptr 3 0), (7, .row 2007 0 (goK n l sign i k).length), (8, .pv (pI i)), (9, .pv (pI k))],
        [(3, .box (nBox n)), (2007, .sl 1 ((goK n l sign i k).map fun n => pI n))]⟩) (fun k => k ≤ W.length) (fun k => W.length - k) 0 rfl (Nat.zero_le _) ?_
      intro k hk
      have hkl := goK_len (sign := sign) (k := k) hw hi
      have tk : ((goK n l sign i k).map fun n => pI n).take (goK n l sign i k).length = (goK n l sign i k).map fun n => pI n := List.take_of_length_le (by simp)
      by_cases hkk : k < W.length
      · have hsc : goK n l sign i (k + 1) = goK n l sign i k ++ (if W[k].1 = sign then [W[k].2] else []) := by rw [hgk, hgk, goF_succ hkk, List.append_assoc]
        by_cases he : W[k].1 = sign
        · rw [if_pos he] at hsc
          simp only [go_sem, Nat.reduceEqDiff, Nat.reduceBEq, Nat.reduceAdd, Nat.reduceLeDiff, Nat.reduceLT, reduceCtorEq, Int.reduceNeg, and_self, B38_1, show (k : Int) < (W.length : Int) by omega, show (i : Int) < (l.length : Int) by omega, show (x : Int) < (n.ways.length : Int) by omega, wf_ints, getD_map hlt, hx, wf_pWs, getD_map hxs, hWg, wf_pE, getD_map hkk, he, tk]
          exact ⟨⟨wf_ints [W[k].2], by omega, by omega⟩, ⟨by omega, by omega⟩, k + 1, by rw [hsc, List.map_append, List.length_append]; rfl, hkk, by omega⟩
        · rw [if_neg he, List.append_nil] at hsc
          simp only [go_sem, Nat.reduceEqDiff, Nat.reduceBEq, Nat.reduceAdd, Nat.reduceLeDiff, Nat.reduceLT, reduceCtorEq, Int.reduceNeg, and_self, B38_1, show (k : Int) < (W.length : Int) by omega, show (i : Int) < (l.length : Int) by omega, show (x : Int) < (n.ways.length : Int) by omega, wf_ints, getD_map hlt, hx, wf_pWs, getD_map hxs, hWg, wf_pE, getD_map hkk, he, tk]
          exact ⟨⟨by omega, by omega⟩, k + 1, by rw [hsc]; rfl, hkk, by omega⟩
      · have hke : k = W.length := by omega
        subst hke
        simp only [go_sem, Nat.reduceEqDiff, Nat.reduceBEq, Nat.reduceAdd, Nat.reduceLeDiff, Nat.reduceLT, reduceCtorEq, Int.reduceNeg, and_self, B38_1, show ¬ (W.length : Int) < (W.length : Int) by omega, show (i : Int) < (l.length : Int) by omega, show (x : Int) < (n.ways.length : Int) by omega, wf_ints, getD_map hlt, hx, wf_pWs, getD_map hxs, hWg]
        rw [hend]
        refine ⟨⟨by omega, by omega⟩, i + 1, ?_, hlt, by omega⟩
        unfold GH
        by_cases h9 : i + 1 = l.length
        · simp only [go_sem, Nat.reduceEqDiff, h9]
          rw [h9] at hky hsi
          rw [hky, hsi]
        · simp only [go_sem, Nat.reduceEqDiff, h9]
          rw [hsi]
  · have hie : i = l.length := by omega
    subst hie
    rw [if_pos rfl]
    have hkl := goK_len (sign := sign) (k := 0) hw (Nat.le_refl l.length)
    simp only [go_sem, Nat.reduceEqDiff, Nat.reduceAdd, Nat.reduceLeDiff, reduceCtorEq, Int.reduceNeg, and_self, B38_0, R38_0, show ¬ (l.length : Int) < (l.length : Int) by omega]
    refine runR_call (by simp only [go_sem, Nat.reduceEqDiff, and_self]) rfl (fn37 n (goK n l sign l.length 0) hg hsz (fun s => by have := hwl s; omega) (by omega)) (.inl rfl) trivial ?_
    simp only [go_sem, Nat.reduceEqDiff, and_self]
    rw [goK_zero, List.take_length]
end Go.Vc
