/- A part of the proofs of the seat YtmgbbmhljopepaaGreatDoor: the contracts of functions, each proved out of its code. -/
import Derived.Test.YtmgbbmhljopepaaGreatDoorWl
import Derived.Test.YtmgbbmhljopepaaGreatDoorVe
import Derived.Test.YtmgbbmhljopepaaGreatDoorProg
import Derived.Test.YtmgbbmhljopepaaGreatDoorWj
import Derived.Test.YtmgbbmhljopepaaGreatDoorWe
import Derived.Test.YtmgbbmhljopepaaGreatDoorWc
import Derived.Test.YtmgbbmhljopepaaGreatDoorWk
namespace Go.Vc
set_option linter.unusedSimpArgs false
set_option linter.unusedVariables false
theorem pre_trans {d : DI} {lv : List Bool} {cl : List Nat} : ∀ {i j : Nat}, i ≤ j → firstL d lv cl i <+: firstL d lv cl j
 | i, 0, h => by
  obtain rfl : i = 0 := by omega
  exact List.prefix_refl _
 | i, j + 1, h => by
  rcases Nat.lt_or_ge i (j + 1) with h1 | h1
  ·exact (pre_trans (show i ≤ j by omega)).trans (firstL_pre d lv cl j)
  ·obtain rfl : i = j + 1 := by omega
   exact List.prefix_refl _
theorem pre_getD {A B : List Nat} (h : A <+: B) {i : Nat} (hi : i < A.length) : B.getD i 0 = A.getD i 0 := by
 obtain ⟨X, rfl⟩ := h
 simp [List.getD_eq_getElem?_getD, List.getElem?_append_left hi]
structure Lst (d : DI) (cl : List Nat) (k : Nat) : Prop where
 c : Cls d cl
 len : (firstL d (liveL d) cl k).length = k
 pos : 0 < k
 le : k ≤ d.next.length
 row : ∀ j, j < k → j < (firstL d (liveL d) cl j).length
theorem lst_of {d : DI} {cl : List Nat} (h : Cls d cl) : Lst d cl (leastK d (liveL d) cl) := by
 obtain ⟨k1, k2, k3⟩ := leastK_spec h.wf (liveL d) cl
 generalize leastK d (liveL d) cl = k at k1 k2 k3
 have hp : 0 < k := by
  rcases Nat.eq_zero_or_pos k with h0 | h0
  ·subst h0; simp [firstL] at k1
  ·exact h0
 refine ⟨h, ?_, hp, k3, k2⟩
 have h1 := k2 (k - 1) (by omega)
 have h2 := (pre_trans (d := d) (lv := liveL d) (cl := cl) (show k - 1 ≤ k by omega)).length_le
 omega
noncomputable abbrev fst (d : DI) (cl : List Nat) (k i : Nat) : Nat := (firstL d (liveL d) cl k).getD i 0
theorem Lst.at {d : DI} {cl : List Nat} {k i : Nat} (h : Lst d cl k) (hi : i < k) : (firstL d (liveL d) cl i).getD i 0 = fst d cl k i :=
 (pre_getD (pre_trans (by omega)) (h.row i hi)).symm
theorem Lst.lt {d : DI} {cl : List Nat} {k i : Nat} (h : Lst d cl k) (hi : i < k) : fst d cl k i < d.next.length :=
 (firstOk h.c.wf.rows h.c.wf.n0 k).lt _ (by unfold fst; rw [getD_at (by rw [h.len]; exact hi)]; exact List.getElem_mem _)
theorem ixOf_pre {A B : List Nat} (h : A <+: B) {c : Nat} (hc : c ∈ A) : ixOf B c = ixOf A c := by
 obtain ⟨X, rfl⟩ := h
 exact ixOf_app hc
theorem num_final {lv : List Bool} {cl G F : List Nat} {t : Int} (h : stepF lv cl G t <+: F) (hd : ¬ dead lv t = true) : cl.getD t.toNat 0 ∈ F.map (fun s => cl.getD s 0) ∧ numF lv cl G t = (ixOf (F.map fun s => cl.getD s 0) (cl.getD t.toNat 0) : Int) := by
 unfold stepF at h
 unfold numF
 rw [if_neg hd] at h ⊢
 by_cases hm : cl.getD t.toNat 0 ∈ G.map fun s => cl.getD s 0
 ·rw [if_pos hm] at h
  have hp : (G.map fun s => cl.getD s 0) <+: (F.map fun s => cl.getD s 0) := by
   obtain ⟨X, rfl⟩ := h
   exact ⟨X.map fun s => cl.getD s 0, by rw [List.map_append]⟩
  exact ⟨hp.subset hm, by rw [ixOf_pre hp hm]⟩
 ·rw [if_neg hm] at h
  have hp : (G.map fun s => cl.getD s 0) ++ [cl.getD t.toNat 0] <+: (F.map fun s => cl.getD s 0) := by
   obtain ⟨X, rfl⟩ := h
   exact ⟨X.map fun s => cl.getD s 0, by simp⟩
  exact ⟨hp.subset (by simp), by rw [ixOf_pre hp (by simp), ixOf_new hm, ixOf_out hm]⟩
noncomputable abbrev lstC (d : DI) (cl : List Nat) (k : Nat) : DI := leastC d (liveL d) cl k
theorem lst_next {d : DI} {cl : List Nat} {k i : Nat} (hi : i < k) : (lstC d cl k).next.getD i [] = waysF d (liveL d) cl i := by
 show ((List.range k).map _).getD i [] = _
 rw [getD_at (by simpa using hi)]; simp
theorem lst_done {d : DI} {cl : List Nat} {k i : Nat} (h : Lst d cl k) (hi : i < k) : (lstC d cl k).done.getD i [] = d.done.getD (fst d cl k i) [] := by
 show ((List.range k).map _).getD i [] = _
 rw [getD_at (by simpa using hi)]
 simp only [List.getElem_map, List.getElem_range]
 rw [h.at hi]
theorem rowF_pre2 {lv : List Bool} {cl first : List Nat} {row : List Int} : ∀ {a b : Nat}, a ≤ b → rowF lv cl first row a <+: rowF lv cl first row b
 | a, 0, h => by
  obtain rfl : a = 0 := by omega
  exact List.prefix_refl _
 | a, b + 1, h => by
  rcases Nat.lt_or_ge a (b + 1) with h1 | h1
  ·exact (rowF_pre2 (show a ≤ b by omega)).trans stepF_pre
  ·obtain rfl : a = b + 1 := by omega
   exact List.prefix_refl _
theorem rowW_at {lv : List Bool} {cl first : List Nat} {row : List Int} : ∀ {b a : Nat}, a < b → (rowW lv cl first row b).getD a (-1) = numF lv cl (rowF lv cl first row a) (row.getD a 0)
 | b + 1, a, h => by
  simp only [rowW]
  rcases Nat.lt_or_ge a b with h1 | h1
  ·rw [List.getD_eq_getElem?_getD, List.getElem?_append_left (by rw [rowW_len]; exact h1), ← List.getD_eq_getElem?_getD]
   exact rowW_at h1
  ·obtain rfl : a = b := by omega
   simp [List.getD_eq_getElem?_getD, rowW_len]
theorem lst_way {d : DI} {cl : List Nat} {k i a : Nat} (h : Lst d cl k) (hi : i < k) (ha : a < d.signs.length + 1) :
  stI (lstC d cl k) i a = numF (liveL d) cl (rowF (liveL d) cl (firstL d (liveL d) cl i) (d.next.getD (fst d cl k i) []) a) (stI d (fst d cl k i) a) ∧
  stepF (liveL d) cl (rowF (liveL d) cl (firstL d (liveL d) cl i) (d.next.getD (fst d cl k i) []) a) (stI d (fst d cl k i) a) <+: firstL d (liveL d) cl k := by
 have hw := h.c.wf.width _ (h.lt hi)
 have hra := row_eq (d := d) (s := fst d cl k i) (a := a) (by omega)
 constructor
 ·unfold stI
  rw [lst_next hi]
  unfold waysF
  rw [h.at hi, rowW_at (by omega), hra]; rfl
 ·have e : firstL d (liveL d) cl (i + 1) = rowF (liveL d) cl (firstL d (liveL d) cl i) (d.next.getD (fst d cl k i) []) (d.next.getD (fst d cl k i) []).length := by
   simp only [firstL]; rw [h.at hi]
  have h1 : firstL d (liveL d) cl (i + 1) <+: firstL d (liveL d) cl k := pre_trans (by omega)
  rw [e] at h1
  have h2 := (rowF_pre2 (lv := liveL d) (cl := cl) (first := firstL d (liveL d) cl i) (row := d.next.getD (fst d cl k i) []) (show a + 1 ≤ (d.next.getD (fst d cl k i) []).length by omega)).trans h1
  rw [rowF, hra] at h2
  exact h2
theorem lst_out {d : DI} {cl : List Nat} {k : Nat} (h : Lst d cl k) : ∀ (w : List Nat) (i : Nat), i < k → outI (lstC d cl k) w i = outI d w (fst d cl k i)
 | [], i, hi => lst_done h hi
 | a :: w, i, hi => by
  have hlt := h.lt hi
  have hw := h.c.wf.width _ hlt
  by_cases ha : a < d.signs.length + 1
  ·obtain ⟨h1, h2⟩ := lst_way h hi ha
   have hr := stI_range h.c.wf (fst d cl k i) a
   rw [outI_cons, outI_cons, h1]
   generalize rowF (liveL d) cl (firstL d (liveL d) cl i) (d.next.getD (fst d cl k i) []) a = G at h1 h2
   generalize stI d (fst d cl k i) a = t at h1 h2 hr
   by_cases hd : dead (liveL d) t = true
   ·rw [(dead_iff h.c.wf hr.1 hr.2).1 hd w]
    unfold outT numF
    rw [if_pos hd, if_pos rfl]
   ·obtain ⟨g1, g2⟩ := num_final h2 hd
    have ht1 : t ≠ -1 := fun e => hd (by simp [dead, e])
    have hj := ixOf_lt g1
    have hget : ((firstL d (liveL d) cl k).map fun s => cl.getD s 0).getD (ixOf ((firstL d (liveL d) cl k).map fun s => cl.getD s 0) (cl.getD t.toNat 0)) 0 = cl.getD t.toNat 0 := (getD_at hj).trans (ixOf_get g1)
    rw [List.length_map, h.len] at hj
    rw [g2]
    generalize hje : ixOf ((firstL d (liveL d) cl k).map fun s => cl.getD s 0) (cl.getD t.toNat 0) = j at hj hget
    have hcl : cl.getD (fst d cl k j) 0 = cl.getD t.toNat 0 := by
     rw [map_cl_at (by rw [h.len]; exact hj)] at hget
     exact hget
    have hq := (h.c.eq (h.lt hj) (show t.toNat < d.next.length by omega)).1 hcl
    unfold outT
    rw [if_neg (by omega), if_neg ht1, Int.toNat_natCast, lst_out h w j hj]
    exact hq w
  ·rw [outI_cons, outI_cons]
   have e1 : stI d (fst d cl k i) a = -1 := by unfold stI; rw [getD_no (by omega)]
   have e2 : stI (lstC d cl k) i a = -1 := by
    unfold stI
    rw [lst_next hi]
    unfold waysF
    rw [h.at hi, getD_no (by rw [rowW_len]; omega)]
   rw [e1, e2]; rfl
theorem fst_zero {d : DI} {cl : List Nat} {k : Nat} (h : Lst d cl k) : fst d cl k 0 = 0 := by
 rw [← h.at h.pos]; simp [firstL]
theorem lst_len (d : DI) (cl : List Nat) (k : Nat) : (lstC d cl k).next.length = k := by show ((List.range k).map _).length = k; simp
theorem lst_wf {d : DI} {cl : List Nat} {k : Nat} (h : Lst d cl k) : (lstC d cl k).Wf := by
 refine ⟨by rw [lst_len]; exact h.pos, fun i t ht => ?_, fun i hi => ?_⟩
 ·rw [lst_len]
  by_cases hi : i < k
  ·obtain ⟨a, ha, he⟩ := List.getElem_of_mem ht
   have hal := ha
   rw [lst_next hi] at hal
   unfold waysF at hal
   rw [rowW_len, h.at hi, h.c.wf.width _ (h.lt hi)] at hal
   obtain ⟨h1, h2⟩ := lst_way h hi hal
   have e : stI (lstC d cl k) i a = t := by unfold stI; rw [getD_at ha, he]
   rw [e] at h1
   rw [h1]
   by_cases hd : dead (liveL d) (stI d (fst d cl k i) a) = true
   ·unfold numF; rw [if_pos hd]; have := h.pos; omega
   ·obtain ⟨g1, g2⟩ := num_final h2 hd
    have hj := ixOf_lt g1
    rw [List.length_map, h.len] at hj
    rw [g2]; omega
  ·rw [getD_no (by rw [lst_len]; omega)] at ht; cases ht
 ·rw [lst_len] at hi
  rw [lst_next hi]
  unfold waysF
  rw [rowW_len, h.at hi, h.c.wf.width _ (h.lt hi)]
  rfl
theorem least_out {d : DI} (hd : d.Wf) : (leastR d).Wf ∧ (leastR d).signs = d.signs ∧ Eqv (leastR d) d 0 0 ∧ (leastR d).next.length ≤ d.next.length := by
 have h := lst_of (cls_of hd)
 refine ⟨lst_wf h, rfl, fun w => ?_, ?_⟩
 ·have := lst_out h w 0 h.pos
  rw [fst_zero h] at this
  exact this
 ·show (lstC d (classR d (liveL d)) _).next.length ≤ _
  rw [lst_len]; exact h.le
end Go.Vc

namespace Go.Vc
open Go.Proofs
set_option maxRecDepth 100000
end Go.Vc

namespace Go.Vc
open Go.Proofs
set_option linter.unusedSimpArgs false
set_option linter.unusedVariables false
end Go.Vc

namespace Go.Vc
open Go.Proofs
set_option linter.unusedSimpArgs false
set_option linter.unusedVariables false
end Go.Vc

namespace Go.Vc
open Go.Proofs
set_option linter.unusedSimpArgs false
set_option linter.unusedVariables false
theorem ris_lt {l : List ByteArray} (h : risS l = true) : ∀ {i j : Nat}, i < j → j < l.length → ltB (l.getD i ⟨#[]⟩) (l.getD j ⟨#[]⟩) = true
 | i, 0, hij, hj => by omega
 | i, j + 1, hij, hj => by
  have h1 := risS_iff.1 h j hj
  by_cases he : i = j
  ·subst he; exact h1
  ·exact ltB_tr (ris_lt h (by omega) (by omega)) h1
theorem ris_pair {l : List ByteArray} (h : risS l = true) : RisB l := List.pairwise_iff_getElem.2 fun i j hi hj hij => by
 have := ris_lt h hij hj
 rwa [getD_at hi, getD_at hj] at this
structure MayP (d : DI) : Prop where
 n0 : d.next.length ≠ 0
 done : d.done.length = d.next.length
 ris : risS d.signs = true
 row : ∀ i, i < d.next.length → okRow d i = true
theorem may_iff {d : DI} : mayB d = true ↔ MayP d := by
 unfold mayB
 simp only [Bool.and_eq_true, decide_eq_true_eq, List.all_eq_true, List.mem_range]
 exact ⟨fun ⟨a, b, c, e⟩ => ⟨a, b, c, e⟩, fun h => ⟨h.n0, h.done, h.ris, h.row⟩⟩
theorem okRow_iff {d : DI} {i : Nat} : okRow d i = true ↔ (d.next.getD i []).length = d.signs.length + 1 ∧ (∀ t ∈ d.next.getD i [], -1 ≤ t ∧ t < (d.next.length : Int)) ∧ risI (d.done.getD i []) = true ∧ ((d.done.getD i []).length = 0 ∨ 0 ≤ (d.done.getD i []).getD 0 0) := by
 unfold okRow
 simp only [Bool.and_eq_true, decide_eq_true_eq, List.all_eq_true, Bool.or_eq_true]
theorem may_least {d : DI} (hm : mayB d = true) : mayB (leastR d) = true := by
 have hd := wf_may hm
 have hp := may_iff.1 hm
 have h := lst_of (cls_of hd)
 obtain ⟨w, hs, _, _⟩ := least_out hd
 have hln : (leastR d).next.length = leastK d (liveL d) (classR d (liveL d)) := lst_len _ _ _
 refine may_iff.2 ⟨by have := w.n0; omega, ?_, by rw [hs]; exact hp.ris, fun i hi => okRow_iff.2 ⟨w.width i hi, w.rows i, ?_⟩⟩
 ·rw [hln]
  show ((List.range _).map _).length = _
  simp
 ·rw [hln] at hi
  rw [show (leastR d).done.getD i [] = d.done.getD (fst d (classR d (liveL d)) (leastK d (liveL d) (classR d (liveL d))) i) [] from lst_done h hi]
  exact (okRow_iff.1 (hp.row _ (h.lt hi))).2.2
set_option maxHeartbeats 2000000 in
theorem fn27i (d : DI) (t : ByteArray) (hd : d.Sm) (hm : mayB d = true) (ht : t.size ≤ 1000) : Fn Tryz.prog 27 [pDi d, pS t] (.pv (ints (if topicB t = true then outI d ((partsB t).map (letterN d.signs)) 0 else []))) [] := by
 have hds := hd.signs
 have hdn := hd.next
 have hdd := hd.done
 have hw := wf_may hm
 have hp := may_iff.1 hm
 have hris := ris_pair hp.ris
 have hdl := hp.done
 refine Run27 [] (by simp) ?_
 simp only [go_sem, M27]
 refine runR_callf (by simp only [go_sem]) (by simp only [go_sem] <;> rfl) (fn56 t) ⟨rfl, trivial⟩ trivial ?_
 cases htp : topicB t with
 | false =>
  simp only [go_sem]
  rfl
 | true =>
  simp only [go_sem]
  refine runR_call (by simp only [go_sem]) rfl (fn41 t ht) (.inl rfl) trivial ?_
  have hpl := partsB_len t
  generalize partsB t = T at hpl
  simp only [go_sem]
  refine run_loopN (T := Nat × Int) [2, 5, 6, 17, 18, 19] [2, 5] (fun t => ⟨[(2, .ptr 2 0), (5, .ptr 5 0), (6, .pv (pI t.2)), (17, .pv (ss T)), (18, .pv (pI T.length)), (19, .pv (pI t.1))],
    [(2, .box (dBox d)), (5, .box [.pv (ss d.signs), .e0, .e0, .e0])]⟩)
   (fun t => t.1 ≤ T.length ∧ (-1 ≤ t.2 ∧ t.2 < (d.next.length : Int)) ∧ outT d t.2 ((T.drop t.1).map (letterN d.signs)) = outI d (T.map (letterN d.signs)) 0) (fun t => T.length - t.1) (0, 0) rfl ⟨Nat.zero_le _, ⟨by omega, by have := hw.n0; simp only; omega⟩, by simp [outT]⟩ ?_
  rintro ⟨k, x⟩ ⟨hk, hx, ho⟩
  simp only at hk hx ho
  generalize outI d (T.map (letterN d.signs)) 0 = R at ho
  subst ho
  by_cases hkl : k < T.length
  ·have hlt := letterN_le d.signs T[k]
   have hdk : (T.drop k).map (letterN d.signs) = letterN d.signs T[k] :: (T.drop (k + 1)).map (letterN d.signs) := by rw [List.drop_eq_getElem_cons hkl, List.map_cons]
   rw [hdk]
   simp only [go_sem, B27_0, show (k : Int) < (T.length : Int) by omega, wf_ss, getD_map hkl]
   refine runR_callf (by simp only [go_sem]) (by simp only [go_sem] <;> rfl) (fn57 d.signs (.lst []) (.lst []) (.lst []) T[k] hris (by omega)) ⟨rfl, trivial⟩ trivial ?_
   generalize letterN d.signs T[k] = a at hlt hdk
   by_cases h0 : x < 0
   ·obtain rfl : x = -1 := by omega
    rw [show outT d (-1) (a :: (T.drop (k + 1)).map (letterN d.signs)) = [] from rfl]
    simp only [go_sem]
    rfl
   ·obtain ⟨y, rfl⟩ : ∃ y : Nat, x = (y : Int) := ⟨x.toNat, by omega⟩
    have h1 : y < d.next.length := by omega
    have hwid := hw.width y h1
    have hrow := hw.rows y
    have hst : stI d y a = (d.next.getD y []).getD a 0 := (getD_at (show a < (d.next.getD y []).length by omega)).trans (getD_at (show a < (d.next.getD y []).length by omega)).symm
    have hoT : outT d (y : Int) (a :: (T.drop (k + 1)).map (letterN d.signs)) = outT d (stI d y a) ((T.drop (k + 1)).map (letterN d.signs)) := by
     rw [← outI_cons]
     show (if (y : Int) = -1 then [] else outI d _ ((y : Int).toNat)) = _
     rw [if_neg (by omega), Int.toNat_natCast]
    rw [hoT, hst]
    obtain ⟨R, hR⟩ : ∃ R, R = d.next.getD y [] := ⟨_, rfl⟩
    have hRg : d.next[y] = R := by rw [hR]; simp [List.getD_eq_getElem?_getD, h1]
    rw [← hR] at hwid hrow ⊢
    have ha : a < R.length := by omega
    have hag : R.getD a 0 = R[a] := getD_at ha
    have hr2 := hrow R[a] (List.getElem_mem ha)
    rw [hag]
    simp only [go_sem, show ¬ (y : Int) < 0 by omega, show ¬ (d.next.length : Int) ≤ (y : Int) by omega, wf_intss, getD_map h1, hRg, show (y : Int) < (d.next.length : Int) by omega, show ¬ (R.length : Int) ≤ (a : Int) by omega, wf_ints, getD_map ha]
    exact ⟨by omega, ⟨by omega, by omega⟩, (k + 1, R[a]), rfl, ⟨hkl, hr2, rfl⟩, by simp only; omega⟩
  ·have hke : T.drop k = [] := List.drop_eq_nil_of_le (by omega)
   rw [hke, List.map_nil]
   by_cases h0 : x < 0
   ·obtain rfl : x = -1 := by omega
    rw [show outT d (-1) [] = [] from rfl]
    simp only [go_sem, B27_0, R27_0, show ¬ (k : Int) < (T.length : Int) by omega]
    rfl
   ·obtain ⟨y, rfl⟩ : ∃ y : Nat, x = (y : Int) := ⟨x.toNat, by omega⟩
    have h1 : y < d.next.length := by omega
    have h2 : y < d.done.length := by omega
    have hDg : d.done.getD y [] = d.done[y] := getD_at h2
    have hDl := hd.dones y
    have hoT : outT d (y : Int) [] = d.done[y] := by
     show (if (y : Int) = -1 then [] else d.done.getD ((y : Int).toNat) []) = _
     rw [if_neg (by omega), Int.toNat_natCast, hDg]
    rw [hDg] at hDl
    rw [hoT]
    simp only [go_sem, B27_0, R27_0, show ¬ (k : Int) < (T.length : Int) by omega, show ¬ (y : Int) < 0 by omega, show ¬ (d.next.length : Int) ≤ (y : Int) by omega, show ¬ (d.done.length : Int) ≤ (y : Int) by omega, wf_intss, getD_map h2, show (y : Int) < (d.done.length : Int) by omega]
    refine runR_call (by simp only [go_sem]) rfl (fn53i d.done[y] (by omega)) (.inl rfl) trivial ?_
    simp only [go_sem]
end Go.Vc

namespace Go.Vc
open Go.Proofs
set_option maxRecDepth 100000
end Go.Vc

namespace Go.Vc
open Go.Proofs
set_option linter.unusedSimpArgs false
set_option linter.unusedVariables false
end Go.Vc

namespace Go.Vc
open Go.Proofs
set_option linter.unusedSimpArgs false
set_option linter.unusedVariables false
theorem topic_size {t : ByteArray} (h : topicB t = true) : t.size ≤ 1000 := by
 unfold topicB nameB at h
 simp only [Bool.and_eq_true, decide_eq_true_eq] at h
 omega
theorem mayE_topic {e : Ev} (h : mayE e = true) : topicB e.topic = true := by
 unfold mayE at h
 simp only [Bool.and_eq_true] at h
 exact h.1.1.1
theorem meetN_le (bs : List ByteArray) (t : ByteArray) (i : Nat) : (meetN bs t i).length ≤ i := by
 have := List.length_filter_le (fun j => meetsB (bs.getD j ⟨#[]⟩) t) (List.range i)
 rw [List.length_range] at this
 exact this
structure Told (L : List ByteArray) (t : ByteArray) (X : DI) : Prop where
 sm : X.Sm
 may : mayB X = true
 x : (if topicB t = true then outI X ((partsB t).map (letterN X.signs)) 0 else []) = toI (meetN L t L.length)
 d : (if topicB t = true then resO (ofR L 200) (partsB t) else []) = meetN L t L.length
 n : (if topicB t = true then resN (L.map cutS) (partsB t) else []) = meetN L t L.length
 le : X.next.length ≤ (ofR L 200).next.length
theorem told {L : List ByteArray} {t : ByteArray} (h0 : ofE L 200 = 0) : Told L t (leastR (ofR L 200).toDI) := by
 refine (of_cases L 200).elim ?_ (fun ⟨h, _⟩ => absurd h0 h)
 rintro ⟨k, h⟩
 have hm := may_of h
 have hw := wf_may hm
 obtain ⟨_, hsg, heq, hle⟩ := least_out hw
 have hdl := (may_iff.1 hm).done
 have hres := res_meet (t := t) (goodB_iff.1 h.good).2
 refine ⟨sm_least (may_ok (sm_toDI (sm_of L 200 (by omega))) (I64_ofR L 200) hm), may_least hm, ?_, by rw [of_res h]; exact hres, hres, hle⟩
 rw [← hres, hsg]
 by_cases ht : topicB t = true
 ·rw [if_pos ht, if_pos ht, heq, ← of_res h]
  exact out_resO hw (by simpa [DF.toDI] using hdl) _ 0 hw.n0
 ·rw [if_neg ht, if_neg ht]; rfl
theorem wf_pIs (l : List Nat) : WfL 1 ((toI l).map fun n => pI n) := wf_ints _
set_option maxHeartbeats 4000000 in
theorem law7_tail (L : List ByteArray) (e : Ev) (hL : L.length ≤ 6) :
  run Tryz.prog (retK [RV.tmp 4] [] (AV.pv (pB true)) []) (.loop B7_0) [KI.blk 0, KI.code R7_0] ⟨[(0, .pv (ss L)), (3, .ptr 3 0), (5, .pv (pI 0))], [(3, .box e.cells)]⟩ := by
 refine run_loopN (T := Nat) [0, 3, 5] [3] (fun i => ⟨[(0, .pv (ss L)), (3, .ptr 3 0), (5, .pv (pI i))], [(3, .box e.cells)]⟩) (fun i => i ≤ L.length ∧ ∀ j (h : j < L.length), j < i → (L[j]).size ≤ 60) (fun i => L.length - i) 0 ?_ ⟨Nat.zero_le _, fun j _ hj => absurd hj (by omega)⟩ ?_
 ·simp only [go_sem]
 rintro i ⟨hi, hsz⟩
 by_cases hil : i < L.length
 ·by_cases hb : 60 < (L[i]).size
  ·simp only [go_sem, B7_0, show (i : Int) < (L.length : Int) by omega, wf_ss, getD_map hil, show (60 : Int) < ((L[i]).size : Int) by omega]
   refine runR_callf (by simp only [go_sem]) (by simp only [go_sem] <;> rfl) (fn29) ⟨rfl, trivial⟩ trivial ?_
   simp only [go_sem]
  ·simp only [go_sem, B7_0, show (i : Int) < (L.length : Int) by omega, wf_ss, getD_map hil, show ¬ (60 : Int) < ((L[i]).size : Int) by omega]
   refine ⟨⟨by omega, by omega⟩, i + 1, rfl, ⟨hil, fun j h hj => ?_⟩, by omega⟩
   by_cases hji : j = i
   ·subst hji; omega
   ·exact hsz j h (by omega)
 obtain rfl : i = L.length := by omega
 have hs60 : ∀ b ∈ L, b.size ≤ 1000 := fun b hb => by
  obtain ⟨j, hj, rfl⟩ := List.getElem_of_mem hb
  have := hsz j hj hj
  omega
 simp only [go_sem, B7_0, R7_0, show ¬ (L.length : Int) < (L.length : Int) by omega]
 refine runR_call (by simp only [go_sem]) rfl (fn13 L (by omega) hs60) (.inl rfl) trivial ?_
 simp only [go_sem]
 refine runR_call (by simp only [go_sem]) rfl (fn9 L 200 (by omega) hs60 (by omega)) (.inl rfl) trivial ?_
 simp only [go_sem]
 refine runR_call (by simp only [go_sem]) rfl (fn19 L 200 (by omega) hs60 (by omega)) (.inl rfl) trivial ?_
 simp only [go_sem]
 have r30 := fn30 e
 refine runR_callf (by simp only [go_sem]) (by simp only [go_sem] <;> rfl) (r30) ⟨rfl, trivial⟩ trivial ?_
 simp only [go_sem]
 refine ⟨fun h => ?_, fun h => ?_⟩
 ·refine runR_callf (by simp only [go_sem]) (by simp only [go_sem] <;> rfl) (fn29) ⟨rfl, trivial⟩ trivial ?_
  simp only [go_sem]
 obtain ⟨⟨⟨hme, hgd⟩, hoe⟩, _⟩ := h
 have hgood : goodB L = true := by
  cases hg : goodB L with
  | true => rfl
  | false => rw [hg] at hgd; simp at hgd
 have htp := mayE_topic hme
 have htz := topic_size htp
 obtain ⟨x1, x2, x3, x4, x5, x6⟩ := told (t := e.topic) hoe
 have hbr : buildR L = nfaOf (L.map cutS) := by unfold buildR; rw [hgood]; rfl
 have r33 := fn33 (L.map cutS) e.topic (gsOk hgood) htz
 have r27 := fn27 (ofR L 200) e.topic (sm_of L 200 (by omega)) htz
 have r27i := fn27i _ e.topic x1 x2 htz
 rw [x5] at r33
 rw [x4] at r27
 rw [x3] at r27i
 rw [if_pos hoe, hbr]
 generalize leastR (ofR L 200).toDI = X at *
 generalize ofR L 200 = D at *
 generalize nfaOf (L.map cutS) = N at *
 refine run_loopN (T := Nat) [0, 3, 6, 8, 10, 12, 13] [3, 6, 8, 10, 2012] (fun i => ⟨[(0, .pv (ss L)), (3, .ptr 3 0), (6, .ptr 6 0), (8, .ptr 8 0), (10, .ptr 10 0), (12, .row 2012 0 (meetN L e.topic i).length), (13, .pv (pI i))],
  [(3, .box e.cells), (6, .box (nBox N)), (8, .box [.pv (ss D.signs), .pv (.lst (D.next.map ints)), .pv (.lst (D.done.map pNs))]), (10, .box [.pv (ss X.signs), .pv (.lst (X.next.map ints)), .pv (.lst (X.done.map ints))]), (2012, .sl 1 ((toI (meetN L e.topic i)).map fun n => pI n))]⟩) (fun i => i ≤ L.length) (fun i => L.length - i) 0 ?_ (Nat.zero_le _) ?_
 ·simp only [go_sem]
  rfl
 intro i hi
 have hml := meetN_le L e.topic i
 by_cases hil : i < L.length
 ·have r31 := fn31 L[i] e.topic (hs60 _ (List.getElem_mem hil)) htz
  have r32 := fn32 e L[i] (hs60 _ (List.getElem_mem hil)) htz
  have hsn := meetN_succ L e.topic i
  have hgd : L.getD i ⟨#[]⟩ = L[i] := by rw [List.getD_eq_getElem?_getD, List.getElem?_eq_getElem hil]; rfl
  rw [hgd] at hsn
  have htl := toI_len (meetN L e.topic i)
  cases hm : meetsB L[i] e.topic with
  | true =>
   rw [hm] at r31 r32 hsn
   simp only [if_true] at hsn
   simp only [go_sem, B7_1, show (i : Int) < (L.length : Int) by omega, wf_ss, getD_map hil]
   refine runR_callf (by simp only [go_sem]) (by simp only [go_sem] <;> rfl) (r31) ⟨rfl, trivial⟩ trivial ?_
   simp only [go_sem, wf_ss, getD_map hil]
   refine ⟨⟨wf_ints [(i : Int)], by omega, by omega⟩, by omega, ?_⟩
   refine runR_callf (by simp only [go_sem]) (by simp only [go_sem] <;> rfl) (r32) ⟨rfl, trivial⟩ trivial ?_
   simp only [go_sem]
   refine ⟨⟨by omega, by omega⟩, i + 1, ?_, hil, by omega⟩
   rw [hsn, toI_app, List.map_append, List.length_append, List.take_of_length_le (by rw [List.length_map, htl]; exact Nat.le_refl _)]
   rfl
  | false =>
   rw [hm] at r31 r32 hsn
   simp only [Bool.false_eq_true, if_false, List.append_nil] at hsn
   simp only [go_sem, B7_1, show (i : Int) < (L.length : Int) by omega, wf_ss, getD_map hil]
   refine runR_callf (by simp only [go_sem]) (by simp only [go_sem] <;> rfl) (r31) ⟨rfl, trivial⟩ trivial ?_
   simp only [go_sem, wf_ss, getD_map hil]
   refine ⟨by omega, ?_⟩
   refine runR_callf (by simp only [go_sem]) (by simp only [go_sem] <;> rfl) (r32) ⟨rfl, trivial⟩ trivial ?_
   simp only [go_sem]
   refine ⟨⟨by omega, by omega⟩, i + 1, ?_, hil, by omega⟩
   rw [hsn]
   rfl
 ·obtain rfl : i = L.length := by omega
  simp only [go_sem, B7_1, R7_1, show ¬ (L.length : Int) < (L.length : Int) by omega]
  refine runR_call (by simp only [go_sem]) rfl (r33) (.inl rfl) trivial ?_
  simp only [go_sem]
  refine runR_call (by simp only [go_sem]) rfl (r27) (.inl rfl) trivial ?_
  simp only [go_sem]
  refine runR_call (by simp only [go_sem]) rfl (r27i) (.inl rfl) trivial ?_
  simp only [go_sem]
  have htl := toI_len (meetN L e.topic L.length)
  generalize hM : meetN L e.topic L.length = W at *
  refine ⟨fun h => ?_, fun h => ?_⟩
  ·exact absurd h (by rw [htl]; omega)
  clear h
  refine run_loop (T := Nat) (fun i => ⟨[(12, .row 2012 0 W.length), (15, .pv (pNs W)), (16, .pv (pNs W)), (17, .pv (ints (toI W))), (18, .pv (pI i))], [(2012, .sl 1 ((toI W).map fun n => pI n))]⟩) (fun i => i ≤ W.length) (fun i => W.length - i) 0 rfl (Nat.zero_le _) ?_
  intro i hi
  have hWw : WfL 1 ((toI W).map fun n => pI n) := wf_pIs W
  by_cases hil : i < W.length
  ·have hil2 : i < (toI W).length := by omega
   simp only [go_sem, B7_2, hWw, show (i : Int) < (W.length : Int) by omega, getD_map hil2]
   exact ⟨by omega, hil2, by omega, hil2, by omega, hil2, ⟨by omega, by omega⟩, i + 1, rfl, hil, by omega⟩
  ·simp only [go_sem, B7_2, R7_2, show ¬ (i : Int) < (W.length : Int) by omega]
   refine runR_callf (by simp only [go_sem]) (by simp only [go_sem] <;> rfl) (fn29) ⟨rfl, trivial⟩ trivial ?_
   simp only [go_sem]
   done
theorem law7 (bs : List ByteArray) (e : Ev) (hb : bs.length ≤ 9223372036854775807) : Fn Tryz.prog 7 [ss bs, e.pv] (.pv (pB true)) [] := by
 refine Run7 [] (by simp) ?_
 simp only [go_sem, M7]
 by_cases h6 : (6 : Int) < (bs.length : Int)
 ·simp only [go_sem, h6]
  refine ⟨⟨by omega, wf_ss _⟩, ?_⟩
  rw [← List.map_take]
  exact law7_tail (bs.take 6) e (by simp; omega)
 ·simp only [go_sem, h6]
  exact law7_tail bs e (by omega)
end Go.Vc

namespace Go.Vc
open Go.Proofs
set_option maxRecDepth 100000
abbrev shEv : List Sh := [.str, .str, .int .u64, .lst true [.str, .bool, .int .i64, .str]]
theorem fdl_of {p : PV} (h : OkSh (.lst true [.str, .bool, .int .i64, .str]) p) : ∃ l : List Fd, p = .lst (l.map Fd.pv) := by
 simp only [OkSh] at h
 obtain ⟨xs, rfl, _, hx⟩ := h
 obtain ⟨l, rfl⟩ := map_of (f := fun x : Fd => x.pv) (fun x hx' => by
  obtain ⟨qs, rfl, hq⟩ := (hx x hx').1 trivial
  simp only [OkShs, OkSh] at hq
  obtain ⟨_, _, rfl, ⟨a, rfl, _⟩, _, _, rfl, ⟨b, rfl⟩, _, _, rfl, ⟨n, rfl, _⟩, _, _, rfl, ⟨s, rfl, _⟩, rfl⟩ := hq
  exact ⟨⟨a, ⟨b, n, s⟩⟩, rfl⟩)
 exact ⟨l, rfl⟩
theorem ev_of {p : PV} (h : ArgOk (true, shEv) p) : ∃ e : Ev, p = e.pv := by
 obtain ⟨ss, rfl, h⟩ := h
 simp only [OkShs] at h
 obtain ⟨_, _, rfl, h1, _, _, rfl, h2, _, _, rfl, h3, _, _, rfl, h4, rfl⟩ := h
 obtain ⟨l, rfl⟩ := fdl_of h4
 simp only [OkSh] at h1 h2 h3
 obtain ⟨a, rfl, _⟩ := h1
 obtain ⟨b, rfl, _⟩ := h2
 obtain ⟨n, rfl, _⟩ := h3
 exact ⟨⟨a, b, n, l⟩, rfl⟩
end Go.Vc
