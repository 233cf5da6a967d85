/- A part of the proofs of the seat YtmgbbmhljopepaaGreatDoor: the contracts of functions, each proved out of its code. -/
import Derived.Test.YtmgbbmhljopepaaGreatDoorMna
import Derived.Test.YtmgbbmhljopepaaGreatDoorMnd
namespace Go.Vc
set_option linter.unusedSimpArgs false
set_option linter.unusedVariables false
structure DI.Wf (d : DI) : Prop where
 n0 : 0 < d.next.length
 rows : d.Rows
 width : ∀ i, i < d.next.length → (d.next.getD i []).length = d.signs.length + 1
def stI (d : DI) (s a : Nat) : Int := (d.next.getD s []).getD a (-1)
def outI (d : DI) : List Nat → Nat → List Int
 | [], s => d.done.getD s []
 | a :: w, s => if stI d s a = -1 then [] else outI d w (stI d s a).toNat
def outT (d : DI) (t : Int) (w : List Nat) : List Int := if t = -1 then [] else outI d w t.toNat
theorem outI_cons (d : DI) (a : Nat) (w : List Nat) (s : Nat) : outI d (a :: w) s = outT d (stI d s a) w := rfl
theorem getD_at {α : Type} {l : List α} {i : Nat} {d : α} (h : i < l.length) : l.getD i d = l[i] := by simp [List.getD_eq_getElem?_getD, h]
theorem getD_no {α : Type} {l : List α} {i : Nat} {d : α} (h : l.length ≤ i) : l.getD i d = d := by rw [List.getD_eq_getElem?_getD, List.getElem?_eq_none h]; rfl
theorem stI_in {d : DI} {s a : Nat} (h : stI d s a ≠ -1) : stI d s a ∈ d.next.getD s [] := by
 unfold stI at h ⊢
 by_cases ha : a < (d.next.getD s []).length
 ·rw [getD_at ha]; exact List.getElem_mem ha
 ·exact absurd (getD_no (by omega)) h
theorem stI_range {d : DI} (h : d.Wf) (s a : Nat) : -1 ≤ stI d s a ∧ stI d s a < (d.next.length : Int) := by
 by_cases hs : stI d s a = -1
 ·rw [hs]; omega
 ·exact h.rows s _ (stI_in hs)
theorem live_out {d : DI} {s : Nat} (h : d.Live s) : ∃ w, outI d w s ≠ [] := by
 induction h with
 | done hi hd => exact ⟨[], hd⟩
 | @step i to hi hm hl ih =>
  obtain ⟨w, hw⟩ := ih
  obtain ⟨a, ha, he⟩ := List.getElem_of_mem hm
  refine ⟨a :: w, ?_⟩
  have : stI d i a = (to : Int) := by unfold stI; rw [getD_at ha, he]
  rw [outI_cons, outT, this, if_neg (by omega), Int.toNat_natCast]
  exact hw
theorem out_live {d : DI} (hd : d.Wf) : ∀ {w : List Nat} {s : Nat}, s < d.next.length → outI d w s ≠ [] → d.Live s
 | [], s, hs, h => .done hs h
 | a :: w, s, hs, h => by
  rw [outI_cons, outT] at h
  by_cases ht : stI d s a = -1
  ·rw [if_pos ht] at h; exact absurd rfl h
  ·rw [if_neg ht] at h
   have hr := stI_range hd s a
   have hl := out_live hd (by omega) h
   refine .step (to := (stI d s a).toNat) hs ?_ hl
   rw [show (((stI d s a).toNat : Nat) : Int) = stI d s a by omega]
   exact stI_in ht
theorem liveL_at {d : DI} {k : Nat} (h : k < d.next.length) : (liveL d).getD k false = true ↔ d.Live k := by
 unfold liveL
 rw [getD_at (by simpa using h)]
 simp
theorem dead_iff {d : DI} (hd : d.Wf) {t : Int} (h1 : -1 ≤ t) (h2 : t < (d.next.length : Int)) : dead (liveL d) t = true ↔ ∀ w, outT d t w = [] := by
 unfold dead
 rw [Bool.or_eq_true, decide_eq_true_eq]
 constructor
 ·rintro (h | h) w
  ·unfold outT; rw [if_pos h]
  ·unfold outT
   split
   ·rfl
   ·rename_i hne
    apply Classical.byContradiction
    intro ho
    have hl := out_live hd (show t.toNat < d.next.length by omega) ho
    rw [(liveL_at (by omega)).2 hl] at h
    cases h
 ·intro h
  by_cases ht : t = -1
  ·exact .inl ht
  ·right
   rw [Bool.not_eq_true', ← Bool.not_eq_true]
   intro hl
   obtain ⟨w, hw⟩ := live_out ((liveL_at (by omega)).1 hl)
   have := h w
   unfold outT at this
   rw [if_neg ht] at this
   exact hw this
def Eqv (d e : DI) (s t : Nat) : Prop := ∀ w, outI d w s = outI e w t
def EqT (d e : DI) (s t : Int) : Prop := ∀ w, outT d s w = outT e t w
theorem Eqv.way {d e : DI} {s t : Nat} (h : Eqv d e s t) (a : Nat) : EqT d e (stI d s a) (stI e t a) := fun w => h (a :: w)
structure ClOk (d : DI) (cl : List Nat) : Prop where
 len : cl.length = d.next.length
 fine : ∀ i j, i < d.next.length → j < d.next.length → Eqv d d i j → cl.getD i 0 = cl.getD j 0
 done : ∀ i j, i < d.next.length → j < d.next.length → cl.getD i 0 = cl.getD j 0 → d.done.getD i [] = d.done.getD j []
theorem wayC_eqv {d : DI} (hd : d.Wf) {cl : List Nat} (hc : ClOk d cl) {s t : Int} (hs : -1 ≤ s ∧ s < (d.next.length : Int)) (ht : -1 ≤ t ∧ t < (d.next.length : Int)) (h : EqT d d s t) : wayC (liveL d) cl s = wayC (liveL d) cl t := by
 have hdd : dead (liveL d) s = true ↔ dead (liveL d) t = true := by
  rw [dead_iff hd hs.1 hs.2, dead_iff hd ht.1 ht.2]
  exact ⟨fun k w => by rw [← h w]; exact k w, fun k w => by rw [h w]; exact k w⟩
 unfold wayC
 by_cases hk : dead (liveL d) s = true
 ·rw [if_pos hk, if_pos (hdd.1 hk)]
 ·have hk2 : ¬ dead (liveL d) t = true := fun e => hk (hdd.2 e)
  rw [if_neg hk, if_neg hk2]
  have hs1 : s ≠ -1 := fun e => hk (by simp [dead, e])
  have ht1 : t ≠ -1 := fun e => hk2 (by simp [dead, e])
  have := hc.fine s.toNat t.toNat (by omega) (by omega) fun w => by
   have := h w
   unfold outT at this
   rw [if_neg hs1, if_neg ht1] at this
   exact this
  rw [this]
theorem keyC_eqv {d : DI} (hd : d.Wf) {cl : List Nat} (hc : ClOk d cl) {i j : Nat} (hi : i < d.next.length) (hj : j < d.next.length) (h : Eqv d d i j) : keyC d (liveL d) cl i = keyC d (liveL d) cl j := by
 unfold keyC
 rw [hc.fine i j hi hj h]
 congr 1
 refine List.ext_getElem (by rw [List.length_map, List.length_map, hd.width i hi, hd.width j hj]) fun a h1 h2 => ?_
 rw [List.getElem_map, List.getElem_map]
 rw [List.length_map] at h1 h2
 have e1 : (d.next.getD i [])[a] = stI d i a := by unfold stI; rw [getD_at h1]
 have e2 : (d.next.getD j [])[a] = stI d j a := by unfold stI; rw [getD_at h2]
 rw [e1, e2]
 exact wayC_eqv hd hc (stI_range hd _ _) (stI_range hd _ _) (h.way a)
theorem keysC_at {d : DI} {lv : List Bool} {cl : List Nat} {i : Nat} (h : i < d.next.length) : (keysC d lv cl)[i]'(by simp [keysC, h]) = keyC d lv cl i := by simp [keysC]
theorem ClOk.next {d : DI} (hd : d.Wf) {cl : List Nat} (hc : ClOk d cl) : ClOk d (clsOf (keysC d (liveL d) cl)) := by
 have hl : (keysC d (liveL d) cl).length = d.next.length := by simp [keysC]
 refine ⟨by rw [clsOf_len, hl], fun i j hi hj h => ?_, fun i j hi hj h => ?_⟩
 ·rw [clsOf_eq (by omega) (by omega), keysC_at hi, keysC_at hj]
  exact keyC_eqv hd hc hi hj h
 ·rw [clsOf_eq (by omega) (by omega), keysC_at hi, keysC_at hj] at h
  unfold keyC at h
  rw [List.cons.injEq] at h
  exact hc.done i j hi hj (by omega)
theorem ClOk.zero {d : DI} : ClOk d (clsOf (keys0 d)) := by
 have hl : (keys0 d).length = d.next.length := by simp [keys0]
 have hk : ∀ i (h : i < d.next.length), (keys0 d)[i]'(by omega) = d.done.getD i [] := fun i h => by simp [keys0]
 refine ⟨by rw [clsOf_len, hl], fun i j hi hj h => ?_, fun i j hi hj h => ?_⟩
 ·rw [clsOf_eq (by omega) (by omega), hk i hi, hk j hj]
  exact h []
 ·rw [clsOf_eq (by omega) (by omega), hk i hi, hk j hj] at h
  exact h
def Stable (d : DI) (cl : List Nat) : Prop := ∀ i j, i < d.next.length → j < d.next.length → cl.getD i 0 = cl.getD j 0 → keyC d (liveL d) cl i = keyC d (liveL d) cl j
theorem dd_inj {K J : Type} [DecidableEq K] [DecidableEq J] (f : K → J) {ks : List K} (h : (ddF ks).length ≤ (ddF (ks.map f)).length) {a b : K} (ha : a ∈ ks) (hb : b ∈ ks) (he : f a = f b) : a = b := by
 apply Classical.byContradiction
 intro hne
 have hbm : b ∈ ddF ks := ddF_mem.2 hb
 have := List.Nodup.length_le_of_subset (l₂ := ((ddF ks).erase b).map f) (ddF_nodup (ks.map f)) fun x hx => by
  obtain ⟨k, hk, rfl⟩ := List.mem_map.1 (ddF_mem.1 hx)
  by_cases hkb : k = b
  ·subst hkb
   exact List.mem_map.2 ⟨a, (List.mem_erase_of_ne hne).2 (ddF_mem.2 ha), he⟩
  ·exact List.mem_map.2 ⟨k, (List.mem_erase_of_ne hkb).2 (ddF_mem.2 hk), rfl⟩
 rw [List.length_map, List.length_erase_of_mem hbm] at this
 have := List.length_pos_of_mem hbm
 omega
theorem heads {d : DI} {lv : List Bool} {cl : List Nat} (h : cl.length = d.next.length) : (keysC d lv cl).map (fun k => (k.getD 0 0).toNat) = cl := by
 refine List.ext_getElem (by simp [keysC, h]) fun i h1 h2 => ?_
 simp [keysC, keyC, List.getD_eq_getElem?_getD, h2]
theorem stable_of {d : DI} {cl : List Nat} (hl : cl.length = d.next.length) (h : (ddF (keysC d (liveL d) cl)).length = (ddF cl).length) : Stable d cl := fun i j hi hj he => by
 have hkl : (keysC d (liveL d) cl).length = d.next.length := by simp [keysC]
 rw [← keysC_at (lv := liveL d) (cl := cl) hi, ← keysC_at (lv := liveL d) (cl := cl) hj]
 refine dd_inj (fun k : List Int => (k.getD 0 0).toNat) (by rw [heads hl]; omega) (List.getElem_mem _) (List.getElem_mem _) ?_
 rw [keysC_at hi, keysC_at hj]
 simp only [keyC, List.getD_cons_zero, Int.toNat_natCast]
 exact he
theorem dd_cls {K : Type} [DecidableEq K] (ks : List K) : (ddF (clsOf ks)).length = (ddF ks).length :=
 Nat.le_antisymm (ddF_map_le _ ks) (ddF_cls ks)
theorem goC_spec {d : DI} (hd : d.Wf) : ∀ {f : Nat} {cl : List Nat}, ClOk d cl → d.next.length < f + (ddF cl).length → ClOk d (goC d (liveL d) f cl (ddF cl).length) ∧ Stable d (goC d (liveL d) f cl (ddF cl).length)
 | 0, cl, hc, hf => by
  have := ddF_len cl
  rw [hc.len] at this
  omega
 | f + 1, cl, hc, hf => by
  rw [goC]
  split
  ·rename_i h
   exact ⟨hc, stable_of hc.len h⟩
  ·rename_i h
   have h1 := finer d (liveL d) hc.len
   rw [← dd_cls (keysC d (liveL d) cl)]
   exact goC_spec hd (hc.next hd) (by rw [dd_cls]; omega)
theorem classR_spec {d : DI} (hd : d.Wf) : ClOk d (classR d (liveL d)) ∧ Stable d (classR d (liveL d)) := by
 unfold classR
 rw [← dd_cls (keys0 d)]
 exact goC_spec hd ClOk.zero (by omega)
theorem way_pos {lv : List Bool} {cl : List Nat} {t : Int} (h : ¬ dead lv t = true) : wayC lv cl t = (cl.getD t.toNat 0 : Int) := by unfold wayC; rw [if_neg h]
theorem nerode {d : DI} (hd : d.Wf) {cl : List Nat} (hc : ClOk d cl) (hs : Stable d cl) {i j : Nat} (hi : i < d.next.length) (hj : j < d.next.length) : cl.getD i 0 = cl.getD j 0 ↔ Eqv d d i j := by
 refine ⟨fun h w => ?_, hc.fine i j hi hj⟩
 induction w generalizing i j with
 | nil => exact hc.done i j hi hj h
 | cons a w ih =>
  have hk := hs i j hi hj h
  unfold keyC at hk
  rw [List.cons.injEq] at hk
  have hw : wayC (liveL d) cl (stI d i a) = wayC (liveL d) cl (stI d j a) := by
   by_cases ha : a < d.signs.length + 1
   ·have h1 : a < (d.next.getD i []).length := by rw [hd.width i hi]; exact ha
    have h2 : a < (d.next.getD j []).length := by rw [hd.width j hj]; exact ha
    have := congrArg (fun l : List Int => l[a]?) hk.2
    simp only [List.getElem?_map, List.getElem?_eq_getElem h1, List.getElem?_eq_getElem h2, Option.map_some, Option.some.injEq] at this
    unfold stI
    rw [getD_at h1, getD_at h2]
    exact this
   ·unfold stI
    rw [getD_no (by rw [hd.width i hi]; omega), getD_no (by rw [hd.width j hj]; omega)]
  rw [outI_cons, outI_cons]
  have hri := stI_range hd i a
  have hrj := stI_range hd j a
  generalize stI d i a = s at hw hri
  generalize stI d j a = t at hw hrj
  by_cases h1 : dead (liveL d) s = true
  ·have h2 : dead (liveL d) t = true := by
    apply Classical.byContradiction
    intro h2
    rw [way_pos h2] at hw
    unfold wayC at hw
    rw [if_pos h1] at hw
    omega
   rw [(dead_iff hd hri.1 hri.2).1 h1 w, (dead_iff hd hrj.1 hrj.2).1 h2 w]
  ·have h2 : ¬ dead (liveL d) t = true := by
    intro h2
    rw [way_pos h1] at hw
    unfold wayC at hw
    rw [if_pos h2] at hw
    omega
   rw [way_pos h1, way_pos h2] at hw
   have hs1 : s ≠ -1 := fun e => h1 (by simp [dead, e])
   have ht1 : t ≠ -1 := fun e => h2 (by simp [dead, e])
   unfold outT
   rw [if_neg hs1, if_neg ht1]
   exact ih (by omega) (by omega) (by omega)
end Go.Vc

namespace Go.Vc
set_option linter.unusedSimpArgs false
set_option linter.unusedVariables false
structure Cls (d : DI) (cl : List Nat) : Prop where
 wf : d.Wf
 ok : ClOk d cl
 st : Stable d cl
theorem cls_of {d : DI} (h : d.Wf) : Cls d (classR d (liveL d)) := let ⟨h1, h2⟩ := classR_spec h; ⟨h, h1, h2⟩
theorem Cls.eq {d : DI} {cl : List Nat} (h : Cls d cl) {i j : Nat} (hi : i < d.next.length) (hj : j < d.next.length) : cl.getD i 0 = cl.getD j 0 ↔ Eqv d d i j := nerode h.wf h.ok h.st hi hj
theorem map_cl_at {cl F : List Nat} {i : Nat} (h : i < F.length) : (F.map fun s => cl.getD s 0).getD i 0 = cl.getD (F.getD i 0) 0 := by
 rw [getD_at (by simpa using h), getD_at h]; simp
theorem row_eq {d : DI} {s a : Nat} (h : a < (d.next.getD s []).length) : (d.next.getD s []).getD a 0 = stI d s a := by unfold stI; rw [getD_at h, getD_at h]
theorem endF_min {d : DI} {lv : List Bool} {cl : List Nat} : ∀ {f i : Nat}, (∀ j, j < i → j < (firstL d lv cl j).length) → ∀ j, j < endF d lv cl f i → j < (firstL d lv cl j).length
 | 0, i, h, j, hj => h j hj
 | f + 1, i, h, j, hj => by
  simp only [endF] at hj
  split at hj
  ·exact h j hj
  ·refine endF_min (f := f) (i := i + 1) (fun q hq => ?_) j hj
   by_cases hqi : q = i
   ·subst hqi; omega
   ·exact h q (by omega)
theorem leastK_spec {d : DI} (hd : d.Wf) (lv : List Bool) (cl : List Nat) : (firstL d lv cl (leastK d lv cl)).length ≤ leastK d lv cl ∧ (∀ j, j < leastK d lv cl → j < (firstL d lv cl j).length) ∧ leastK d lv cl ≤ d.next.length := by
 have hb : ∀ j, (firstL d lv cl j).length ≤ d.next.length := fun j => (firstOk hd.rows hd.n0 j).len
 have h1 : (firstL d lv cl (leastK d lv cl)).length ≤ leastK d lv cl := endF_at d lv cl (by omega) hb
 have h2 : ∀ j, j < leastK d lv cl → j < (firstL d lv cl j).length := endF_min (fun j hj => by omega)
 refine ⟨h1, h2, ?_⟩
 rcases Nat.eq_zero_or_pos (leastK d lv cl) with h | h
 ·omega
 ·have := h2 (leastK d lv cl - 1) (by omega)
  have := hb (leastK d lv cl - 1)
  omega
end Go.Vc

namespace Go.Vc
set_option linter.unusedSimpArgs false
set_option linter.unusedVariables false
theorem pre_trans {d : DI} {lv : List Bool} {cl : List Nat} : ∀ {i j : Nat}, i ≤ j → firstL d lv cl i <+: firstL d lv cl j
 | i, 0, h => by
  obtain rfl : i = 0 := by omega
  exact List.prefix_refl _
 | i, j + 1, h => by
  rcases Nat.lt_or_ge i (j + 1) with h1 | h1
  ·exact (pre_trans (show i ≤ j by omega)).trans (firstL_pre d lv cl j)
  ·obtain rfl : i = j + 1 := by omega
   exact List.prefix_refl _
theorem pre_getD {A B : List Nat} (h : A <+: B) {i : Nat} (hi : i < A.length) : B.getD i 0 = A.getD i 0 := by
 obtain ⟨X, rfl⟩ := h
 simp [List.getD_eq_getElem?_getD, List.getElem?_append_left hi]
structure Lst (d : DI) (cl : List Nat) (k : Nat) : Prop where
 c : Cls d cl
 len : (firstL d (liveL d) cl k).length = k
 pos : 0 < k
 le : k ≤ d.next.length
 row : ∀ j, j < k → j < (firstL d (liveL d) cl j).length
theorem lst_of {d : DI} {cl : List Nat} (h : Cls d cl) : Lst d cl (leastK d (liveL d) cl) := by
 obtain ⟨k1, k2, k3⟩ := leastK_spec h.wf (liveL d) cl
 generalize leastK d (liveL d) cl = k at k1 k2 k3
 have hp : 0 < k := by
  rcases Nat.eq_zero_or_pos k with h0 | h0
  ·subst h0; simp [firstL] at k1
  ·exact h0
 refine ⟨h, ?_, hp, k3, k2⟩
 have h1 := k2 (k - 1) (by omega)
 have h2 := (pre_trans (d := d) (lv := liveL d) (cl := cl) (show k - 1 ≤ k by omega)).length_le
 omega
noncomputable abbrev fst (d : DI) (cl : List Nat) (k i : Nat) : Nat := (firstL d (liveL d) cl k).getD i 0
theorem Lst.at {d : DI} {cl : List Nat} {k i : Nat} (h : Lst d cl k) (hi : i < k) : (firstL d (liveL d) cl i).getD i 0 = fst d cl k i :=
 (pre_getD (pre_trans (by omega)) (h.row i hi)).symm
theorem Lst.lt {d : DI} {cl : List Nat} {k i : Nat} (h : Lst d cl k) (hi : i < k) : fst d cl k i < d.next.length :=
 (firstOk h.c.wf.rows h.c.wf.n0 k).lt _ (by unfold fst; rw [getD_at (by rw [h.len]; exact hi)]; exact List.getElem_mem _)
theorem ixOf_pre {A B : List Nat} (h : A <+: B) {c : Nat} (hc : c ∈ A) : ixOf B c = ixOf A c := by
 obtain ⟨X, rfl⟩ := h
 exact ixOf_app hc
theorem num_final {lv : List Bool} {cl G F : List Nat} {t : Int} (h : stepF lv cl G t <+: F) (hd : ¬ dead lv t = true) : cl.getD t.toNat 0 ∈ F.map (fun s => cl.getD s 0) ∧ numF lv cl G t = (ixOf (F.map fun s => cl.getD s 0) (cl.getD t.toNat 0) : Int) := by
 unfold stepF at h
 unfold numF
 rw [if_neg hd] at h ⊢
 by_cases hm : cl.getD t.toNat 0 ∈ G.map fun s => cl.getD s 0
 ·rw [if_pos hm] at h
  have hp : (G.map fun s => cl.getD s 0) <+: (F.map fun s => cl.getD s 0) := by
   obtain ⟨X, rfl⟩ := h
   exact ⟨X.map fun s => cl.getD s 0, by rw [List.map_append]⟩
  exact ⟨hp.subset hm, by rw [ixOf_pre hp hm]⟩
 ·rw [if_neg hm] at h
  have hp : (G.map fun s => cl.getD s 0) ++ [cl.getD t.toNat 0] <+: (F.map fun s => cl.getD s 0) := by
   obtain ⟨X, rfl⟩ := h
   exact ⟨X.map fun s => cl.getD s 0, by simp⟩
  exact ⟨hp.subset (by simp), by rw [ixOf_pre hp (by simp), ixOf_new hm, ixOf_out hm]⟩
noncomputable abbrev lstC (d : DI) (cl : List Nat) (k : Nat) : DI := leastC d (liveL d) cl k
theorem lst_next {d : DI} {cl : List Nat} {k i : Nat} (hi : i < k) : (lstC d cl k).next.getD i [] = waysF d (liveL d) cl i := by
 show ((List.range k).map _).getD i [] = _
 rw [getD_at (by simpa using hi)]; simp
theorem lst_done {d : DI} {cl : List Nat} {k i : Nat} (h : Lst d cl k) (hi : i < k) : (lstC d cl k).done.getD i [] = d.done.getD (fst d cl k i) [] := by
 show ((List.range k).map _).getD i [] = _
 rw [getD_at (by simpa using hi)]
 simp only [List.getElem_map, List.getElem_range]
 rw [h.at hi]
theorem rowF_pre2 {lv : List Bool} {cl first : List Nat} {row : List Int} : ∀ {a b : Nat}, a ≤ b → rowF lv cl first row a <+: rowF lv cl first row b
 | a, 0, h => by
  obtain rfl : a = 0 := by omega
  exact List.prefix_refl _
 | a, b + 1, h => by
  rcases Nat.lt_or_ge a (b + 1) with h1 | h1
  ·exact (rowF_pre2 (show a ≤ b by omega)).trans stepF_pre
  ·obtain rfl : a = b + 1 := by omega
   exact List.prefix_refl _
theorem rowW_at {lv : List Bool} {cl first : List Nat} {row : List Int} : ∀ {b a : Nat}, a < b → (rowW lv cl first row b).getD a (-1) = numF lv cl (rowF lv cl first row a) (row.getD a 0)
 | b + 1, a, h => by
  simp only [rowW]
  rcases Nat.lt_or_ge a b with h1 | h1
  ·rw [List.getD_eq_getElem?_getD, List.getElem?_append_left (by rw [rowW_len]; exact h1), ← List.getD_eq_getElem?_getD]
   exact rowW_at h1
  ·obtain rfl : a = b := by omega
   simp [List.getD_eq_getElem?_getD, rowW_len]
theorem lst_way {d : DI} {cl : List Nat} {k i a : Nat} (h : Lst d cl k) (hi : i < k) (ha : a < d.signs.length + 1) :
  stI (lstC d cl k) i a = numF (liveL d) cl (rowF (liveL d) cl (firstL d (liveL d) cl i) (d.next.getD (fst d cl k i) []) a) (stI d (fst d cl k i) a) ∧
  stepF (liveL d) cl (rowF (liveL d) cl (firstL d (liveL d) cl i) (d.next.getD (fst d cl k i) []) a) (stI d (fst d cl k i) a) <+: firstL d (liveL d) cl k := by
 have hw := h.c.wf.width _ (h.lt hi)
 have hra := row_eq (d := d) (s := fst d cl k i) (a := a) (by omega)
 constructor
 ·unfold stI
  rw [lst_next hi]
  unfold waysF
  rw [h.at hi, rowW_at (by omega), hra]; rfl
 ·have e : firstL d (liveL d) cl (i + 1) = rowF (liveL d) cl (firstL d (liveL d) cl i) (d.next.getD (fst d cl k i) []) (d.next.getD (fst d cl k i) []).length := by
   simp only [firstL]; rw [h.at hi]
  have h1 : firstL d (liveL d) cl (i + 1) <+: firstL d (liveL d) cl k := pre_trans (by omega)
  rw [e] at h1
  have h2 := (rowF_pre2 (lv := liveL d) (cl := cl) (first := firstL d (liveL d) cl i) (row := d.next.getD (fst d cl k i) []) (show a + 1 ≤ (d.next.getD (fst d cl k i) []).length by omega)).trans h1
  rw [rowF, hra] at h2
  exact h2
theorem lst_out {d : DI} {cl : List Nat} {k : Nat} (h : Lst d cl k) : ∀ (w : List Nat) (i : Nat), i < k → outI (lstC d cl k) w i = outI d w (fst d cl k i)
 | [], i, hi => lst_done h hi
 | a :: w, i, hi => by
  have hlt := h.lt hi
  have hw := h.c.wf.width _ hlt
  by_cases ha : a < d.signs.length + 1
  ·obtain ⟨h1, h2⟩ := lst_way h hi ha
   have hr := stI_range h.c.wf (fst d cl k i) a
   rw [outI_cons, outI_cons, h1]
   generalize rowF (liveL d) cl (firstL d (liveL d) cl i) (d.next.getD (fst d cl k i) []) a = G at h1 h2
   generalize stI d (fst d cl k i) a = t at h1 h2 hr
   by_cases hd : dead (liveL d) t = true
   ·rw [(dead_iff h.c.wf hr.1 hr.2).1 hd w]
    unfold outT numF
    rw [if_pos hd, if_pos rfl]
   ·obtain ⟨g1, g2⟩ := num_final h2 hd
    have ht1 : t ≠ -1 := fun e => hd (by simp [dead, e])
    have hj := ixOf_lt g1
    have hget : ((firstL d (liveL d) cl k).map fun s => cl.getD s 0).getD (ixOf ((firstL d (liveL d) cl k).map fun s => cl.getD s 0) (cl.getD t.toNat 0)) 0 = cl.getD t.toNat 0 := (getD_at hj).trans (ixOf_get g1)
    rw [List.length_map, h.len] at hj
    rw [g2]
    generalize hje : ixOf ((firstL d (liveL d) cl k).map fun s => cl.getD s 0) (cl.getD t.toNat 0) = j at hj hget
    have hcl : cl.getD (fst d cl k j) 0 = cl.getD t.toNat 0 := by
     rw [map_cl_at (by rw [h.len]; exact hj)] at hget
     exact hget
    have hq := (h.c.eq (h.lt hj) (show t.toNat < d.next.length by omega)).1 hcl
    unfold outT
    rw [if_neg (by omega), if_neg ht1, Int.toNat_natCast, lst_out h w j hj]
    exact hq w
  ·rw [outI_cons, outI_cons]
   have e1 : stI d (fst d cl k i) a = -1 := by unfold stI; rw [getD_no (by omega)]
   have e2 : stI (lstC d cl k) i a = -1 := by
    unfold stI
    rw [lst_next hi]
    unfold waysF
    rw [h.at hi, getD_no (by rw [rowW_len]; omega)]
   rw [e1, e2]; rfl
theorem fst_zero {d : DI} {cl : List Nat} {k : Nat} (h : Lst d cl k) : fst d cl k 0 = 0 := by
 rw [← h.at h.pos]; simp [firstL]
theorem lst_len (d : DI) (cl : List Nat) (k : Nat) : (lstC d cl k).next.length = k := by show ((List.range k).map _).length = k; simp
theorem lst_wf {d : DI} {cl : List Nat} {k : Nat} (h : Lst d cl k) : (lstC d cl k).Wf := by
 refine ⟨by rw [lst_len]; exact h.pos, fun i t ht => ?_, fun i hi => ?_⟩
 ·rw [lst_len]
  by_cases hi : i < k
  ·obtain ⟨a, ha, he⟩ := List.getElem_of_mem ht
   have hal := ha
   rw [lst_next hi] at hal
   unfold waysF at hal
   rw [rowW_len, h.at hi, h.c.wf.width _ (h.lt hi)] at hal
   obtain ⟨h1, h2⟩ := lst_way h hi hal
   have e : stI (lstC d cl k) i a = t := by unfold stI; rw [getD_at ha, he]
   rw [e] at h1
   rw [h1]
   by_cases hd : dead (liveL d) (stI d (fst d cl k i) a) = true
   ·unfold numF; rw [if_pos hd]; have := h.pos; omega
   ·obtain ⟨g1, g2⟩ := num_final h2 hd
    have hj := ixOf_lt g1
    rw [List.length_map, h.len] at hj
    rw [g2]; omega
  ·rw [getD_no (by rw [lst_len]; omega)] at ht; cases ht
 ·rw [lst_len] at hi
  rw [lst_next hi]
  unfold waysF
  rw [rowW_len, h.at hi, h.c.wf.width _ (h.lt hi)]
  rfl
theorem least_out {d : DI} (hd : d.Wf) : (leastR d).Wf ∧ (leastR d).signs = d.signs ∧ Eqv (leastR d) d 0 0 ∧ (leastR d).next.length ≤ d.next.length := by
 have h := lst_of (cls_of hd)
 refine ⟨lst_wf h, rfl, fun w => ?_, ?_⟩
 ·have := lst_out h w 0 h.pos
  rw [fst_zero h] at this
  exact this
 ·show (lstC d (classR d (liveL d)) _).next.length ≤ _
  rw [lst_len]; exact h.le
end Go.Vc

namespace Go.Vc
set_option linter.unusedSimpArgs false
set_option linter.unusedVariables false
theorem wf_may {d : DI} (hm : mayB d = true) : d.Wf := by
 unfold mayB at hm
 simp only [Bool.and_eq_true, decide_eq_true_eq, List.all_eq_true, List.mem_range] at hm
 obtain ⟨h1, h2, h3, h4⟩ := hm
 refine ⟨by omega, fun i t ht => ?_, fun i hi => ?_⟩
 ·by_cases hi : i < d.next.length
  ·have := h4 i hi
   unfold okRow at this
   simp only [Bool.and_eq_true, decide_eq_true_eq, List.all_eq_true] at this
   exact this.2.1 t ht
  ·rw [getD_no (by omega)] at ht; cases ht
 ·have := h4 i hi
  unfold okRow at this
  simp only [Bool.and_eq_true, decide_eq_true_eq] at this
  exact this.1
theorem end_neg (d : DF) : ∀ T : List ByteArray, endO d (T.foldl (stepO d) (some (-1))) = []
 | [] => by simp [endO]
 | q :: T => by
  rw [List.foldl_cons]
  have : stepO d (some (-1)) q = none := by unfold stepO; simp
  rw [this, stepO_none]; rfl
theorem out_resO {d : DF} (hw : d.toDI.Wf) (hdl : d.done.length = d.next.length) : ∀ (T : List ByteArray) (s : Nat), s < d.next.length → outI d.toDI (T.map (letterN d.signs)) s = toI (endO d (T.foldl (stepO d) (some (s : Int))))
 | [], s, hs => by
  show d.toDI.done.getD s [] = toI (if _ then d.done.getD _ [] else [])
  rw [if_pos ⟨by omega, by omega, by omega⟩, Int.toNat_natCast]
  simp only [DF.toDI]
  rw [getD_at (by rw [List.length_map]; omega), getD_at (by omega), List.getElem_map]
 | q :: T, s, hs => by
  have hwid : (d.next.getD s []).length = d.signs.length + 1 := hw.width s hs
  have hle := letterN_le d.signs q
  have hst : stI d.toDI s (letterN d.signs q) = (d.next.getD s []).getD (letterN d.signs q) 0 := by
   have hlt : letterN d.signs q < (d.next.getD s []).length := by omega
   exact (getD_at hlt).trans (getD_at hlt).symm
  have hso : stepO d (some (s : Int)) q = some (stI d.toDI s (letterN d.signs q)) := by
   rw [hst]
   unfold stepO
   simp only [Int.toNat_natCast]
   rw [if_pos ⟨by omega, by omega, by omega⟩]
  have hr := stI_range hw s (letterN d.signs q)
  rw [List.map_cons, outI_cons, List.foldl_cons, hso]
  generalize stI d.toDI s (letterN d.signs q) = t at hr
  unfold outT
  by_cases ht : t = -1
  ·rw [if_pos ht, ht, end_neg]; rfl
  ·rw [if_neg ht]
   have hn : t < (d.next.length : Int) := hr.2
   have := out_resO hw hdl T t.toNat (by omega)
   rw [show ((t.toNat : Nat) : Int) = t by omega] at this
   exact this
end Go.Vc
