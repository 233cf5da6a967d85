/- A part of the proofs of the seat YtmgbbmhljopepaaGreatDoor: the contracts of functions, each proved out of its code. -/
import Derived.Test.YtmgbbmhljopepaaGreatDoorMna
import Derived.Test.YtmgbbmhljopepaaGreatDoorMnd
import Derived.Test.YtmgbbmhljopepaaGreatDoorVh
import Derived.Test.YtmgbbmhljopepaaGreatDoorProg
import Derived.Test.YtmgbbmhljopepaaGreatDoorMne
namespace Go.Vc
set_option linter.unusedSimpArgs false
set_option linter.unusedVariables false

/-! ## What the least automaton is: just what is told behind words parts its states -/
structure DI.Wf (d : DI) : Prop where
  n0 : 0 < d.next.length
  rows : d.Rows
  width : ∀ i, i < d.next.length → (d.next.getD i []).length = d.signs.length + 1
def stI (d : DI) (s a : Nat) : Int := (d.next.getD s []).getD a (-1)
def outI (d : DI) : List Nat → Nat → List Int
  | [], s => d.done.getD s []
  | a :: w, s => if stI d s a = -1 then [] else outI d w (stI d s a).toNat
def outT (d : DI) (t : Int) (w : List Nat) : List Int := if t = -1 then [] else outI d w t.toNat
theorem outI_cons (d : DI) (a : Nat) (w : List Nat) (s : Nat) : outI d (a :: w) s = outT d (stI d s a) w := rfl
theorem getD_at {α : Type} {l : List α} {i : Nat} {d : α} (h : i < l.length) : l.getD i d = l[i] := by simp [List.getD_eq_getElem?_getD, h]
theorem getD_no {α : Type} {l : List α} {i : Nat} {d : α} (h : l.length ≤ i) : l.getD i d = d := by rw [List.getD_eq_getElem?_getD, List.getElem?_eq_none h]; rfl
theorem stI_in {d : DI} {s a : Nat} (h : stI d s a ≠ -1) : stI d s a ∈ d.next.getD s [] := by
  unfold stI at h ⊢
  by_cases ha : a < (d.next.getD s []).length
  · rw [getD_at ha]; exact List.getElem_mem ha
  · exact absurd (getD_no (by omega)) h
theorem stI_range {d : DI} (h : d.Wf) (s a : Nat) : -1 ≤ stI d s a ∧ stI d s a < (d.next.length : Int) := by
  by_cases hs : stI d s a = -1
  · rw [hs]; omega
  · exact h.rows s _ (stI_in hs)
theorem live_out {d : DI} {s : Nat} (h : d.Live s) : ∃ w, outI d w s ≠ [] := by
  induction h with
  | done hi hd => exact ⟨[], hd⟩
  | @step i to hi hm hl ih =>
    obtain ⟨w, hw⟩ := ih
    obtain ⟨a, ha, he⟩ := List.getElem_of_mem hm
    refine ⟨a :: w, ?_⟩
    have : stI d i a = (to : Int) := by unfold stI; rw [getD_at ha, he]
    rw [outI_cons, outT, this, if_neg (by omega), Int.toNat_natCast]
    exact hw
theorem out_live {d : DI} (hd : d.Wf) : ∀ {w : List Nat} {s : Nat}, s < d.next.length → outI d w s ≠ [] → d.Live s
  | [], s, hs, h => .done hs h
  | a :: w, s, hs, h => by
    rw [outI_cons, outT] at h
    by_cases ht : stI d s a = -1
    · rw [if_pos ht] at h; exact absurd rfl h
    · rw [if_neg ht] at h
      have hr := stI_range hd s a
      have hl := out_live hd (by omega) h
      refine .step (to := (stI d s a).toNat) hs ?_ hl
      rw [show (((stI d s a).toNat : Nat) : Int) = stI d s a by omega]
      exact stI_in ht
theorem liveL_at {d : DI} {k : Nat} (h : k < d.next.length) : (liveL d).getD k false = true ↔ d.Live k := by
  unfold liveL
  rw [getD_at (by simpa using h)]
  simp
theorem dead_iff {d : DI} (hd : d.Wf) {t : Int} (h1 : -1 ≤ t) (h2 : t < (d.next.length : Int)) : dead (liveL d) t = true ↔ ∀ w, outT d t w = [] := by
  unfold dead
  rw [Bool.or_eq_true, decide_eq_true_eq]
  constructor
  · rintro (h | h) w
    · unfold outT; rw [if_pos h]
    · unfold outT
      split
      · rfl
      · rename_i hne
        apply Classical.byContradiction
        intro ho
        have hl := out_live hd (show t.toNat < d.next.length by omega) ho
        rw [(liveL_at (by omega)).2 hl] at h
        cases h
  · intro h
    by_cases ht : t = -1
    · exact .inl ht
    · right
      rw [Bool.not_eq_true', ← Bool.not_eq_true]
      intro hl
      obtain ⟨w, hw⟩ := live_out ((liveL_at (by omega)).1 hl)
      have := h w
      unfold outT at this
      rw [if_neg ht] at this
      exact hw this

/-! ### the classes -/
def Eqv (d e : DI) (s t : Nat) : Prop := ∀ w, outI d w s = outI e w t
def EqT (d e : DI) (s t : Int) : Prop := ∀ w, outT d s w = outT e t w
theorem Eqv.way {d e : DI} {s t : Nat} (h : Eqv d e s t) (a : Nat) : EqT d e (stI d s a) (stI e t a) := fun w => h (a :: w)
structure ClOk (d : DI) (cl : List Nat) : Prop where
  len : cl.length = d.next.length
  fine : ∀ i j, i < d.next.length → j < d.next.length → Eqv d d i j → cl.getD i 0 = cl.getD j 0
  done : ∀ i j, i < d.next.length → j < d.next.length → cl.getD i 0 = cl.getD j 0 → d.done.getD i [] = d.done.getD j []
theorem wayC_eqv {d : DI} (hd : d.Wf) {cl : List Nat} (hc : ClOk d cl) {s t : Int} (hs : -1 ≤ s ∧ s < (d.next.length : Int)) (ht : -1 ≤ t ∧ t < (d.next.length : Int)) (h : EqT d d s t) : wayC (liveL d) cl s = wayC (liveL d) cl t := by
  have hdd : dead (liveL d) s = true ↔ dead (liveL d) t = true := by
    rw [dead_iff hd hs.1 hs.2, dead_iff hd ht.1 ht.2]
    exact ⟨fun k w => by rw [← h w]; exact k w, fun k w => by rw [h w]; exact k w⟩
  unfold wayC
  by_cases hk : dead (liveL d) s = true
  · rw [if_pos hk, if_pos (hdd.1 hk)]
  · have hk2 : ¬ dead (liveL d) t = true := fun e => hk (hdd.2 e)
    rw [if_neg hk, if_neg hk2]
    have hs1 : s ≠ -1 := fun e => hk (by simp [dead, e])
    have ht1 : t ≠ -1 := fun e => hk2 (by simp [dead, e])
    have := hc.fine s.toNat t.toNat (by omega) (by omega) fun w => by
      have := h w
      unfold outT at this
      rw [if_neg hs1, if_neg ht1] at this
      exact this
    rw [this]
theorem keyC_eqv {d : DI} (hd : d.Wf) {cl : List Nat} (hc : ClOk d cl) {i j : Nat} (hi : i < d.next.length) (hj : j < d.next.length) (h : Eqv d d i j) : keyC d (liveL d) cl i = keyC d (liveL d) cl j := by
  unfold keyC
  rw [hc.fine i j hi hj h]
  congr 1
  refine List.ext_getElem (by rw [List.length_map, List.length_map, hd.width i hi, hd.width j hj]) fun a h1 h2 => ?_
  rw [List.getElem_map, List.getElem_map]
  rw [List.length_map] at h1 h2
  have e1 : (d.next.getD i [])[a] = stI d i a := by unfold stI; rw [getD_at h1]
  have e2 : (d.next.getD j [])[a] = stI d j a := by unfold stI; rw [getD_at h2]
  rw [e1, e2]
  exact wayC_eqv hd hc (stI_range hd _ _) (stI_range hd _ _) (h.way a)
theorem keysC_at {d : DI} {lv : List Bool} {cl : List Nat} {i : Nat} (h : i < d.next.length) : (keysC d lv cl)[i]'(by simp [keysC, h]) = keyC d lv cl i := by simp [keysC]
theorem ClOk.next {d : DI} (hd : d.Wf) {cl : List Nat} (hc : ClOk d cl) : ClOk d (clsOf (keysC d (liveL d) cl)) := by
  have hl : (keysC d (liveL d) cl).length = d.next.length := by simp [keysC]
  refine ⟨by rw [clsOf_len, hl], fun i j hi hj h => ?_, fun i j hi hj h => ?_⟩
  · rw [clsOf_eq (by omega) (by omega), keysC_at hi, keysC_at hj]
    exact keyC_eqv hd hc hi hj h
  · rw [clsOf_eq (by omega) (by omega), keysC_at hi, keysC_at hj] at h
    unfold keyC at h
    rw [List.cons.injEq] at h
    exact hc.done i j hi hj (by omega)
theorem ClOk.zero {d : DI} : ClOk d (clsOf (keys0 d)) := by
  have hl : (keys0 d).length = d.next.length := by simp [keys0]
  have hk : ∀ i (h : i < d.next.length), (keys0 d)[i]'(by omega) = d.done.getD i [] := fun i h => by simp [keys0]
  refine ⟨by rw [clsOf_len, hl], fun i j hi hj h => ?_, fun i j hi hj h => ?_⟩
  · rw [clsOf_eq (by omega) (by omega), hk i hi, hk j hj]
    exact h []
  · rw [clsOf_eq (by omega) (by omega), hk i hi, hk j hj] at h
    exact h
def Stable (d : DI) (cl : List Nat) : Prop := ∀ i j, i < d.next.length → j < d.next.length → cl.getD i 0 = cl.getD j 0 → keyC d (liveL d) cl i = keyC d (liveL d) cl j
theorem dd_inj {K J : Type} [DecidableEq K] [DecidableEq J] (f : K → J) {ks : List K} (h : (ddF ks).length ≤ (ddF (ks.map f)).length) {a b : K} (ha : a ∈ ks) (hb : b ∈ ks) (he : f a = f b) : a = b := by
  apply Classical.byContradiction
  intro hne
  have hbm : b ∈ ddF ks := ddF_mem.2 hb
  have := List.Nodup.length_le_of_subset (l₂ := ((ddF ks).erase b).map f) (ddF_nodup (ks.map f)) fun x hx => by
    obtain ⟨k, hk, rfl⟩ := List.mem_map.1 (ddF_mem.1 hx)
    by_cases hkb : k = b
    · subst hkb
      exact List.mem_map.2 ⟨a, (List.mem_erase_of_ne hne).2 (ddF_mem.2 ha), he⟩
    · exact List.mem_map.2 ⟨k, (List.mem_erase_of_ne hkb).2 (ddF_mem.2 hk), rfl⟩
  rw [List.length_map, List.length_erase_of_mem hbm] at this
  have := List.length_pos_of_mem hbm
  omega
theorem heads {d : DI} {lv : List Bool} {cl : List Nat} (h : cl.length = d.next.length) : (keysC d lv cl).map (fun k => (k.getD 0 0).toNat) = cl := by
  refine List.ext_getElem (by simp [keysC, h]) fun i h1 h2 => ?_
  simp [keysC, keyC, List.getD_eq_getElem?_getD, h2]
theorem stable_of {d : DI} {cl : List Nat} (hl : cl.length = d.next.length) (h : (ddF (keysC d (liveL d) cl)).length = (ddF cl).length) : Stable d cl := fun i j hi hj he => by
  have hkl : (keysC d (liveL d) cl).length = d.next.length := by simp [keysC]
  rw [← keysC_at (lv := liveL d) (cl := cl) hi, ← keysC_at (lv := liveL d) (cl := cl) hj]
  refine dd_inj (fun k : List Int => (k.getD 0 0).toNat) (by rw [heads hl]; omega) (List.getElem_mem _) (List.getElem_mem _) ?_
  rw [keysC_at hi, keysC_at hj]
  simp only [keyC, List.getD_cons_zero, Int.toNat_natCast]
  exact he
theorem dd_cls {K : Type} [DecidableEq K] (ks : List K) : (ddF (clsOf ks)).length = (ddF ks).length :=
  Nat.le_antisymm (ddF_map_le _ ks) (ddF_cls ks)
theorem goC_spec {d : DI} (hd : d.Wf) : ∀ {f : Nat} {cl : List Nat}, ClOk d cl → d.next.length < f + (ddF cl).length → ClOk d (goC d (liveL d) f cl (ddF cl).length) ∧ Stable d (goC d (liveL d) f cl (ddF cl).length)
  | 0, cl, hc, hf => by
    have := ddF_len cl
    rw [hc.len] at this
    omega
  | f + 1, cl, hc, hf => by
    rw [goC]
    split
    · rename_i h
      exact ⟨hc, stable_of hc.len h⟩
    · rename_i h
      have h1 := finer d (liveL d) hc.len
      rw [← dd_cls (keysC d (liveL d) cl)]
      exact goC_spec hd (hc.next hd) (by rw [dd_cls]; omega)
theorem classR_spec {d : DI} (hd : d.Wf) : ClOk d (classR d (liveL d)) ∧ Stable d (classR d (liveL d)) := by
  unfold classR
  rw [← dd_cls (keys0 d)]
  exact goC_spec hd ClOk.zero (by omega)
theorem way_pos {lv : List Bool} {cl : List Nat} {t : Int} (h : ¬ dead lv t = true) : wayC lv cl t = (cl.getD t.toNat 0 : Int) := by unfold wayC; rw [if_neg h]
/-- two states have one number just if they tell the same -/
theorem nerode {d : DI} (hd : d.Wf) {cl : List Nat} (hc : ClOk d cl) (hs : Stable d cl) {i j : Nat} (hi : i < d.next.length) (hj : j < d.next.length) : cl.getD i 0 = cl.getD j 0 ↔ Eqv d d i j := by
  refine ⟨fun h w => ?_, hc.fine i j hi hj⟩
  induction w generalizing i j with
  | nil => exact hc.done i j hi hj h
  | cons a w ih =>
    have hk := hs i j hi hj h
    unfold keyC at hk
    rw [List.cons.injEq] at hk
    have hw : wayC (liveL d) cl (stI d i a) = wayC (liveL d) cl (stI d j a) := by
      by_cases ha : a < d.signs.length + 1
      · have h1 : a < (d.next.getD i []).length := by rw [hd.width i hi]; exact ha
        have h2 : a < (d.next.getD j []).length := by rw [hd.width j hj]; exact ha
        have := congrArg (fun l : List Int => l[a]?) hk.2
        simp only [List.getElem?_map, List.getElem?_eq_getElem h1, List.getElem?_eq_getElem h2, Option.map_some, Option.some.injEq] at this
        unfold stI
        rw [getD_at h1, getD_at h2]
        exact this
      · unfold stI
        rw [getD_no (by rw [hd.width i hi]; omega), getD_no (by rw [hd.width j hj]; omega)]
    rw [outI_cons, outI_cons]
    have hri := stI_range hd i a
    have hrj := stI_range hd j a
    generalize stI d i a = s at hw hri
    generalize stI d j a = t at hw hrj
    by_cases h1 : dead (liveL d) s = true
    · have h2 : dead (liveL d) t = true := by
        apply Classical.byContradiction
        intro h2
        rw [way_pos h2] at hw
        unfold wayC at hw
        rw [if_pos h1] at hw
        omega
      rw [(dead_iff hd hri.1 hri.2).1 h1 w, (dead_iff hd hrj.1 hrj.2).1 h2 w]
    · have h2 : ¬ dead (liveL d) t = true := by
        intro h2
        rw [way_pos h1] at hw
        unfold wayC at hw
        rw [if_pos h2] at hw
        omega
      rw [way_pos h1, way_pos h2] at hw
      have hs1 : s ≠ -1 := fun e => h1 (by simp [dead, e])
      have ht1 : t ≠ -1 := fun e => h2 (by simp [dead, e])
      unfold outT
      rw [if_neg hs1, if_neg ht1]
      exact ih (by omega) (by omega) (by omega)
end Go.Vc

namespace Go.Vc
set_option linter.unusedSimpArgs false
set_option linter.unusedVariables false

/-! ## What tells the same has the same least one -/
/-- an automaton with its classes -/
structure Cls (d : DI) (cl : List Nat) : Prop where
  wf : d.Wf
  ok : ClOk d cl
  st : Stable d cl
theorem cls_of {d : DI} (h : d.Wf) : Cls d (classR d (liveL d)) := let ⟨h1, h2⟩ := classR_spec h; ⟨h, h1, h2⟩
theorem Cls.eq {d : DI} {cl : List Nat} (h : Cls d cl) {i j : Nat} (hi : i < d.next.length) (hj : j < d.next.length) : cl.getD i 0 = cl.getD j 0 ↔ Eqv d d i j := nerode h.wf h.ok h.st hi hj
structure RelF (d e : DI) (F G : List Nat) : Prop where
  len : F.length = G.length
  f : ∀ s ∈ F, s < d.next.length
  g : ∀ s ∈ G, s < e.next.length
  eqv : ∀ i, i < F.length → Eqv d e (F.getD i 0) (G.getD i 0)
theorem ixOf_congr : ∀ {A B : List Nat} {a b : Nat}, A.length = B.length → (∀ i, i < A.length → (A.getD i 0 = a ↔ B.getD i 0 = b)) → ixOf A a = ixOf B b
  | [], [], _, _, _, _ => rfl
  | [], b :: B, _, _, h, _ => by simp at h
  | a :: A, [], _, _, h, _ => by simp at h
  | x :: A, y :: B, a, b, hl, h => by
    rw [ixOf_cons, ixOf_cons]
    have h0 := h 0 (by simp)
    simp only [List.getD_cons_zero] at h0
    have ih := ixOf_congr (A := A) (B := B) (a := a) (b := b) (by simpa using hl) fun i hi => by simpa using h (i + 1) (by simpa using hi)
    by_cases hx : x = a
    · rw [if_pos hx, if_pos (h0.1 hx)]
    · rw [if_neg hx, if_neg fun k => hx (h0.2 k), ih]
theorem map_cl_at {cl F : List Nat} {i : Nat} (h : i < F.length) : (F.map fun s => cl.getD s 0).getD i 0 = cl.getD (F.getD i 0) 0 := by
  rw [getD_at (by simpa using h), getD_at h]; simp
theorem eqt_dead {d e : DI} (hd : d.Wf) (he : e.Wf) {t u : Int} (ht : -1 ≤ t ∧ t < (d.next.length : Int)) (hu : -1 ≤ u ∧ u < (e.next.length : Int)) (h : EqT d e t u) : dead (liveL d) t = true ↔ dead (liveL e) u = true := by
  rw [dead_iff hd ht.1 ht.2, dead_iff he hu.1 hu.2]
  exact ⟨fun k w => by rw [← h w]; exact k w, fun k w => by rw [h w]; exact k w⟩
theorem eqt_eqv {d e : DI} {t u : Int} (ht : t ≠ -1) (hu : u ≠ -1) (h : EqT d e t u) : Eqv d e t.toNat u.toNat := fun w => by
  have := h w
  unfold outT at this
  rwa [if_neg ht, if_neg hu] at this
theorem RelF.same {d e : DI} {cd ce F G : List Nat} (h : RelF d e F G) (hc : Cls d cd) (he : Cls e ce) {t u : Nat} (ht : t < d.next.length) (hu : u < e.next.length) (htu : Eqv d e t u) :
    ∀ i, i < F.length → (cd.getD (F.getD i 0) 0 = cd.getD t 0 ↔ ce.getD (G.getD i 0) 0 = ce.getD u 0) := fun i hi => by
  have hf := h.f (F.getD i 0) (by rw [getD_at hi]; exact List.getElem_mem hi)
  have hg := h.g (G.getD i 0) (by rw [getD_at (by rw [← h.len]; exact hi)]; exact List.getElem_mem _)
  have hq := h.eqv i hi
  rw [hc.eq hf ht, he.eq hg hu]
  exact ⟨fun k w => by rw [← hq w, k w, htu w], fun k w => by rw [hq w, k w, htu w]⟩
theorem mem_map_iff {cl F : List Nat} {c : Nat} : (c ∈ F.map fun s => cl.getD s 0) ↔ ∃ i, i < F.length ∧ cl.getD (F.getD i 0) 0 = c := by
  constructor
  · intro h
    obtain ⟨s, hs, rfl⟩ := List.mem_map.1 h
    obtain ⟨i, hi, rfl⟩ := List.getElem_of_mem hs
    exact ⟨i, hi, by rw [getD_at hi]⟩
  · rintro ⟨i, hi, rfl⟩
    exact List.mem_map.2 ⟨F.getD i 0, by rw [getD_at hi]; exact List.getElem_mem hi, rfl⟩
theorem RelF.step {d e : DI} {cd ce F G : List Nat} (h : RelF d e F G) (hc : Cls d cd) (he : Cls e ce) {t u : Int} (ht : -1 ≤ t ∧ t < (d.next.length : Int)) (hu : -1 ≤ u ∧ u < (e.next.length : Int)) (htu : EqT d e t u) :
    RelF d e (stepF (liveL d) cd F t) (stepF (liveL e) ce G u) ∧ numF (liveL d) cd F t = numF (liveL e) ce G u := by
  have hdd := eqt_dead hc.wf he.wf ht hu htu
  unfold stepF numF
  by_cases h1 : dead (liveL d) t = true
  · rw [if_pos h1, if_pos (hdd.1 h1), if_pos h1, if_pos (hdd.1 h1)]
    exact ⟨h, rfl⟩
  · have h2 : ¬ dead (liveL e) u = true := fun k => h1 (hdd.2 k)
    have ht1 : t ≠ -1 := fun k => h1 (by simp [dead, k])
    have hu1 : u ≠ -1 := fun k => h2 (by simp [dead, k])
    have hq := eqt_eqv ht1 hu1 htu
    have hs := h.same hc he (show t.toNat < d.next.length by omega) (show u.toNat < e.next.length by omega) hq
    rw [if_neg h1, if_neg h2, if_neg h1, if_neg h2]
    have hmem : (cd.getD t.toNat 0 ∈ F.map fun s => cd.getD s 0) ↔ (ce.getD u.toNat 0 ∈ G.map fun s => ce.getD s 0) := by
      rw [mem_map_iff, mem_map_iff]
      exact ⟨fun ⟨i, hi, k⟩ => ⟨i, by rw [← h.len]; exact hi, (hs i hi).1 k⟩, fun ⟨i, hi, k⟩ => ⟨i, by rw [h.len]; exact hi, (hs i (by rw [h.len]; exact hi)).2 k⟩⟩
    refine ⟨?_, ?_⟩
    · by_cases hm : cd.getD t.toNat 0 ∈ F.map fun s => cd.getD s 0
      · rw [if_pos hm, if_pos (hmem.1 hm)]; exact h
      · rw [if_neg hm, if_neg fun k => hm (hmem.2 k)]
        refine ⟨by simp [h.len], fun s hs => ?_, fun s hs => ?_, fun i hi => ?_⟩
        · rcases List.mem_append.1 hs with hs | hs
          · exact h.f s hs
          · rw [List.mem_singleton] at hs; omega
        · rcases List.mem_append.1 hs with hs | hs
          · exact h.g s hs
          · rw [List.mem_singleton] at hs; omega
        · rw [List.length_append, List.length_singleton] at hi
          by_cases hil : i < F.length
          · have e1 : (F ++ [t.toNat]).getD i 0 = F.getD i 0 := by simp [List.getD_eq_getElem?_getD, List.getElem?_append_left hil]
            have e2 : (G ++ [u.toNat]).getD i 0 = G.getD i 0 := by simp [List.getD_eq_getElem?_getD, List.getElem?_append_left (show i < G.length by rw [← h.len]; exact hil)]
            rw [e1, e2]; exact h.eqv i hil
          · obtain rfl : i = F.length := by omega
            have e1 : (F ++ [t.toNat]).getD F.length 0 = t.toNat := by simp [List.getD_eq_getElem?_getD]
            have e2 : (G ++ [u.toNat]).getD F.length 0 = u.toNat := by rw [h.len]; simp [List.getD_eq_getElem?_getD]
            rw [e1, e2]; exact hq
    · congr 1
      exact ixOf_congr (by simp [h.len]) fun i hi => by
        rw [List.length_map] at hi
        rw [map_cl_at hi, map_cl_at (by rw [← h.len]; exact hi)]
        exact hs i hi
theorem row_eq {d : DI} {s a : Nat} (h : a < (d.next.getD s []).length) : (d.next.getD s []).getD a 0 = stI d s a := by unfold stI; rw [getD_at h, getD_at h]
theorem RelF.row {d e : DI} {cd ce F G : List Nat} (h : RelF d e F G) (hc : Cls d cd) (he : Cls e ce) (hsg : d.signs = e.signs) {s t : Nat} (hs : s < d.next.length) (ht : t < e.next.length) (hst : Eqv d e s t) :
    ∀ {a : Nat}, a ≤ d.signs.length + 1 → RelF d e (rowF (liveL d) cd F (d.next.getD s []) a) (rowF (liveL e) ce G (e.next.getD t []) a) ∧ rowW (liveL d) cd F (d.next.getD s []) a = rowW (liveL e) ce G (e.next.getD t []) a
  | 0, _ => ⟨h, rfl⟩
  | a + 1, ha => by
    obtain ⟨h1, h2⟩ := h.row hc he hsg hs ht hst (a := a) (by omega)
    have hl1 := hc.wf.width s hs
    have hl2 := he.wf.width t ht
    rw [← hsg] at hl2
    have e1 := row_eq (d := d) (s := s) (a := a) (by omega)
    have e2 := row_eq (d := e) (s := t) (a := a) (by omega)
    simp only [rowF, rowW]
    rw [e1, e2, h2]
    obtain ⟨k1, k2⟩ := h1.step hc he (stI_range hc.wf s a) (stI_range he.wf t a) (hst.way a)
    exact ⟨k1, by rw [k2]⟩
theorem RelF.at {d e : DI} {F G : List Nat} (h : RelF d e F G) (hd : d.Wf) (he : e.Wf) (h0 : Eqv d e 0 0) (i : Nat) : F.getD i 0 < d.next.length ∧ G.getD i 0 < e.next.length ∧ Eqv d e (F.getD i 0) (G.getD i 0) := by
  by_cases hi : i < F.length
  · refine ⟨h.f _ ?_, h.g _ ?_, h.eqv i hi⟩
    · rw [getD_at hi]; exact List.getElem_mem hi
    · rw [getD_at (by rw [← h.len]; exact hi)]; exact List.getElem_mem _
  · rw [getD_no (by omega), getD_no (by rw [← h.len]; omega)]
    exact ⟨hd.n0, he.n0, h0⟩
theorem relF {d e : DI} {cd ce : List Nat} (hc : Cls d cd) (he : Cls e ce) (hsg : d.signs = e.signs) (h0 : Eqv d e 0 0) : ∀ i, RelF d e (firstL d (liveL d) cd i) (firstL e (liveL e) ce i)
  | 0 => ⟨rfl, by simp [firstL]; exact hc.wf.n0, by simp [firstL]; exact he.wf.n0, fun i hi => by
    simp only [firstL, List.length_singleton] at hi
    obtain rfl : i = 0 := by omega
    exact h0⟩
  | i + 1 => by
    have ih := relF hc he hsg h0 i
    obtain ⟨g1, g2, g3⟩ := ih.at hc.wf he.wf h0 i
    simp only [firstL]
    rw [hc.wf.width _ g1, he.wf.width _ g2, ← hsg]
    exact (ih.row hc he hsg g1 g2 g3 (Nat.le_refl _)).1
theorem endF_first {d : DI} {lv : List Bool} {cl : List Nat} {k : Nat} (h1 : (firstL d lv cl k).length ≤ k) (h2 : ∀ j, j < k → j < (firstL d lv cl j).length) : ∀ {f i : Nat}, i ≤ k → k ≤ f + i → endF d lv cl f i = k
  | 0, i, hi, hk => by simp only [endF]; omega
  | f + 1, i, hi, hk => by
    simp only [endF]
    by_cases he : i = k
    · subst he; rw [if_pos h1]
    · rw [if_neg (by have := h2 i (by omega); omega)]
      exact endF_first h1 h2 (by omega) (by omega)
theorem endF_min {d : DI} {lv : List Bool} {cl : List Nat} : ∀ {f i : Nat}, (∀ j, j < i → j < (firstL d lv cl j).length) → ∀ j, j < endF d lv cl f i → j < (firstL d lv cl j).length
  | 0, i, h, j, hj => h j hj
  | f + 1, i, h, j, hj => by
    simp only [endF] at hj
    split at hj
    · exact h j hj
    · refine endF_min (f := f) (i := i + 1) (fun q hq => ?_) j hj
      by_cases hqi : q = i
      · subst hqi; omega
      · exact h q (by omega)
theorem leastK_spec {d : DI} (hd : d.Wf) (lv : List Bool) (cl : List Nat) : (firstL d lv cl (leastK d lv cl)).length ≤ leastK d lv cl ∧ (∀ j, j < leastK d lv cl → j < (firstL d lv cl j).length) ∧ leastK d lv cl ≤ d.next.length := by
  have hb : ∀ j, (firstL d lv cl j).length ≤ d.next.length := fun j => (firstOk hd.rows hd.n0 j).len
  have h1 : (firstL d lv cl (leastK d lv cl)).length ≤ leastK d lv cl := endF_at d lv cl (by omega) hb
  have h2 : ∀ j, j < leastK d lv cl → j < (firstL d lv cl j).length := endF_min (fun j hj => by omega)
  refine ⟨h1, h2, ?_⟩
  rcases Nat.eq_zero_or_pos (leastK d lv cl) with h | h
  · omega
  · have := h2 (leastK d lv cl - 1) (by omega)
    have := hb (leastK d lv cl - 1)
    omega
/-- WHAT TELLS THE SAME HAS THE SAME LEAST ONE -/
theorem least_eq {d e : DI} (hd : d.Wf) (he : e.Wf) (hsg : d.signs = e.signs) (h0 : Eqv d e 0 0) : leastR d = leastR e := by
  have hc := cls_of hd
  have hce := cls_of he
  unfold leastR leastOf
  generalize classR d (liveL d) = cd at hc
  generalize classR e (liveL e) = ce at hce
  have hr := relF hc hce hsg h0
  obtain ⟨k1, k2, k3⟩ := leastK_spec hd (liveL d) cd
  have hK : leastK e (liveL e) ce = leastK d (liveL d) cd := by
    unfold leastK at k1 k2 k3 ⊢
    generalize endF d (liveL d) cd (d.next.length + 1) 0 = k at k1 k2 k3
    refine endF_first (by rw [← (hr k).len]; exact k1) (fun j hj => by rw [← (hr j).len]; exact k2 j hj) (Nat.zero_le _) ?_
    rcases Nat.eq_zero_or_pos k with h | h
    · omega
    · have h3 := k2 (k - 1) (by omega)
      rw [(hr (k - 1)).len] at h3
      have h4 : (firstL e (liveL e) ce (k - 1)).length ≤ e.next.length := (firstOk he.rows he.n0 (k - 1)).len
      omega
  rw [hK]
  unfold leastC
  rw [hsg]
  congr 1
  · refine List.map_congr_left fun i _ => ?_
    obtain ⟨g1, g2, g3⟩ := (hr i).at hd he h0 i
    unfold waysF
    rw [hd.width _ g1, he.width _ g2, ← hsg]
    exact ((hr i).row hc hce hsg g1 g2 g3 (Nat.le_refl _)).2
  · refine List.map_congr_left fun i _ => ?_
    obtain ⟨g1, g2, g3⟩ := (hr i).at hd he h0 i
    exact g3 []
end Go.Vc

namespace Go.Vc
set_option linter.unusedSimpArgs false
set_option linter.unusedVariables false

/-! ## Globs that meet the same have the same least automaton -/
theorem wf_may {d : DI} (hm : mayB d = true) : d.Wf := by
  unfold mayB at hm
  simp only [Bool.and_eq_true, decide_eq_true_eq, List.all_eq_true, List.mem_range] at hm
  obtain ⟨h1, h2, h3, h4⟩ := hm
  refine ⟨by omega, fun i t ht => ?_, fun i hi => ?_⟩
  · by_cases hi : i < d.next.length
    · have := h4 i hi
      unfold okRow at this
      simp only [Bool.and_eq_true, decide_eq_true_eq, List.all_eq_true] at this
      exact this.2.1 t ht
    · rw [getD_no (by omega)] at ht; cases ht
  · have := h4 i hi
    unfold okRow at this
    simp only [Bool.and_eq_true, decide_eq_true_eq] at this
    exact this.1
theorem end_neg (d : DF) : ∀ T : List ByteArray, endO d (T.foldl (stepO d) (some (-1))) = []
  | [] => by simp [endO]
  | q :: T => by
    rw [List.foldl_cons]
    have : stepO d (some (-1)) q = none := by unfold stepO; simp
    rw [this, stepO_none]; rfl
theorem out_resO {d : DF} (hw : d.toDI.Wf) (hdl : d.done.length = d.next.length) : ∀ (T : List ByteArray) (s : Nat), s < d.next.length → outI d.toDI (T.map (letterN d.signs)) s = toI (endO d (T.foldl (stepO d) (some (s : Int))))
  | [], s, hs => by
    show d.toDI.done.getD s [] = toI (if _ then d.done.getD _ [] else [])
    rw [if_pos ⟨by omega, by omega, by omega⟩, Int.toNat_natCast]
    simp only [DF.toDI]
    rw [getD_at (by rw [List.length_map]; omega), getD_at (by omega), List.getElem_map]
  | q :: T, s, hs => by
    have hwid : (d.next.getD s []).length = d.signs.length + 1 := hw.width s hs
    have hle := letterN_le d.signs q
    have hst : stI d.toDI s (letterN d.signs q) = (d.next.getD s []).getD (letterN d.signs q) 0 := by
      have hlt : letterN d.signs q < (d.next.getD s []).length := by omega
      exact (getD_at hlt).trans (getD_at hlt).symm
    have hso : stepO d (some (s : Int)) q = some (stI d.toDI s (letterN d.signs q)) := by
      rw [hst]
      unfold stepO
      simp only [Int.toNat_natCast]
      rw [if_pos ⟨by omega, by omega, by omega⟩]
    have hr := stI_range hw s (letterN d.signs q)
    rw [List.map_cons, outI_cons, List.foldl_cons, hso]
    generalize stI d.toDI s (letterN d.signs q) = t at hr
    unfold outT
    by_cases ht : t = -1
    · rw [if_pos ht, ht, end_neg]; rfl
    · rw [if_neg ht]
      have hn : t < (d.next.length : Int) := hr.2
      have := out_resO hw hdl T t.toNat (by omega)
      rw [show ((t.toNat : Nat) : Int) = t by omega] at this
      exact this
theorem out_bad {d : DI} (hd : d.Wf) : ∀ {w : List Nat} {s : Nat}, s < d.next.length → (∃ a ∈ w, d.signs.length + 1 ≤ a) → outI d w s = []
  | [], s, _, h => by obtain ⟨a, h, _⟩ := h; cases h
  | b :: w, s, hs, h => by
    rw [outI_cons]
    unfold outT
    by_cases ht : stI d s b = -1
    · rw [if_pos ht]
    · rw [if_neg ht]
      have hr := stI_range hd s b
      obtain ⟨a, ha, hal⟩ := h
      rcases List.mem_cons.1 ha with rfl | ha
      · exact absurd (by unfold stI; rw [getD_no (by rw [hd.width s hs]; exact hal)]) ht
      · exact out_bad hd (by omega) ⟨a, ha, hal⟩
theorem fresh_part (l : List ByteArray) : ∃ p, p ∉ l := by
  refine ⟨⟨Array.replicate ((l.map (·.size)).sum + 1) 0⟩, fun h => ?_⟩
  have : ∀ {l : List ByteArray} {p : ByteArray}, p ∈ l → p.size ≤ (l.map (·.size)).sum := fun {l} => by
    induction l with
    | nil => intro p h; cases h
    | cons q l ih =>
      intro p h
      simp only [List.map_cons, List.sum_cons]
      rcases List.mem_cons.1 h with rfl | h
      · omega
      · have := ih h; omega
  have h2 := this h
  rw [show ByteArray.size ⟨Array.replicate ((l.map (·.size)).sum + 1) 0⟩ = (l.map (·.size)).sum + 1 from Array.size_replicate] at h2
  omega
theorem word_parts {sg : List ByteArray} (hr : RisB sg) : ∀ {w : List Nat}, (∀ a ∈ w, a < sg.length + 1) → ∃ T : List ByteArray, T.map (letterN sg) = w
  | [], _ => ⟨[], rfl⟩
  | a :: w, h => by
    obtain ⟨T, hT⟩ := word_parts hr (w := w) fun b hb => h b (List.mem_cons_of_mem _ hb)
    have ha := h a (by simp)
    by_cases hl : a < sg.length
    · refine ⟨sg[a] :: T, ?_⟩
      rw [List.map_cons, hT]
      congr 1
      have h1 := letterN_in (List.getElem_mem (h := hl))
      have h2 := letterN_get h1
      rw [getD_at h1] at h2
      have hn := risB_nodup hr
      rcases Nat.lt_trichotomy (letterN sg sg[a]) a with hlt | he | hgt
      · exact absurd h2 (List.pairwise_iff_getElem.1 hn _ _ h1 hl hlt)
      · exact he
      · exact absurd h2.symm (List.pairwise_iff_getElem.1 hn _ _ hl h1 hgt)
    · obtain ⟨p, hp⟩ := fresh_part sg
      refine ⟨p :: T, ?_⟩
      rw [List.map_cons, hT]
      congr 1
      have : letterN sg p = sg.length := by
        unfold letterN
        rw [List.findIdx_eq_length]
        intro x hx
        have : x ≠ p := fun e => hp (e ▸ hx)
        simpa using this
      omega
theorem of_signs {bs : List ByteArray} {most : Int} {k : Nat} (h : OfOk bs most k) : (ofR bs most).signs = signsOf (bs.map cutS) := by rw [h.r]; rfl
/-- two lists of globs with the same signs, which meet the same, have the same least automaton -/
theorem globs_least {gs bs : List ByteArray} {m1 m2 : Int} {k1 k2 : Nat} (h1 : OfOk gs m1 k1) (h2 : OfOk bs m2 k2) (hs : signsOf (gs.map cutS) = signsOf (bs.map cutS)) (hr : ∀ t, resN (gs.map cutS) t = resN (bs.map cutS) t) :
    leastR (ofR gs m1).toDI = leastR (ofR bs m2).toDI := by
  have w1 := wf_may (may_of h1)
  have w2 := wf_may (may_of h2)
  have hsg : (ofR gs m1).toDI.signs = (ofR bs m2).toDI.signs := by show (ofR gs m1).signs = (ofR bs m2).signs; rw [of_signs h1, of_signs h2, hs]
  have hsg' : (ofR gs m1).signs = (ofR bs m2).signs := hsg
  refine least_eq w1 w2 hsg fun w => ?_
  by_cases hw : ∀ a ∈ w, a < (ofR gs m1).signs.length + 1
  · have hris : RisB (ofR gs m1).signs := by rw [of_signs h1]; exact signsOf_ris _
    obtain ⟨T, rfl⟩ := word_parts hris hw
    have d1 : (ofR gs m1).done.length = (ofR gs m1).next.length := by rw [h1.r, next_len, done_len]
    have d2 : (ofR bs m2).done.length = (ofR bs m2).next.length := by rw [h2.r, next_len, done_len]
    have e1 : outI (ofR gs m1).toDI (T.map (letterN (ofR gs m1).signs)) 0 = toI (endO (ofR gs m1) (T.foldl (stepO (ofR gs m1)) (some 0))) := out_resO w1 d1 T 0 w1.n0
    have e2 : outI (ofR bs m2).toDI (T.map (letterN (ofR bs m2).signs)) 0 = toI (endO (ofR bs m2) (T.foldl (stepO (ofR bs m2)) (some 0))) := out_resO w2 d2 T 0 w2.n0
    have r1 := of_res h1 T
    have r2 := of_res h2 T
    unfold resO runO at r1 r2
    rw [e1, r1, hr T, ← r2, hsg']
    exact e2.symm
  · obtain ⟨a, ha, hal⟩ : ∃ a ∈ w, (ofR gs m1).signs.length + 1 ≤ a := by
      apply Classical.byContradiction
      intro hno
      exact hw fun a ha => by
        apply Classical.byContradiction
        intro h
        exact hno ⟨a, ha, by omega⟩
    rw [out_bad w1 w1.n0 ⟨a, ha, hal⟩, out_bad w2 w2.n0 ⟨a, ha, by rw [← hsg]; exact hal⟩]

/-! ### the pairs -/
theorem mat_app_congr {H M1 M2 T : List ByteArray} (h : ∀ u, MatchP M1 u ↔ MatchP M2 u) (t : List ByteArray) : MatchP (H ++ M1 ++ T) t ↔ MatchP (H ++ M2 ++ T) t := by
  rw [matchP_app, matchP_app]
  constructor
  · rintro ⟨t1, t2, rfl, h1, h2⟩
    rw [matchP_app] at h1
    obtain ⟨u1, u2, rfl, g1, g2⟩ := h1
    exact ⟨_, t2, rfl, matchP_app.2 ⟨u1, u2, rfl, g1, (h u2).1 g2⟩, h2⟩
  · rintro ⟨t1, t2, rfl, h1, h2⟩
    rw [matchP_app] at h1
    obtain ⟨u1, u2, rfl, g1, g2⟩ := h1
    exact ⟨_, t2, rfl, matchP_app.2 ⟨u1, u2, rfl, g1, (h u2).2 g2⟩, h2⟩
theorem any_ne : sAny ≠ sAll := by decide
theorem mat_any {t : List ByteArray} : MatchP [sAny] t ↔ t.length = 1 := by
  rw [match_one any_ne]
  constructor
  · rintro ⟨q, rfl, _⟩; rfl
  · intro h
    match t, h with
    | [q], _ => exact ⟨q, rfl, .inl rfl⟩
theorem pair1 (u : List ByteArray) : MatchP [sAll] u ↔ MatchP [sAll, sAll] u :=
  ⟨fun _ => matchP_app (g1 := [sAll]) (g2 := [sAll]).2 ⟨[], u, rfl, match_some _, match_some _⟩, fun _ => match_some _⟩
theorem pair2 (u : List ByteArray) : MatchP [sAny, sAll] u ↔ MatchP [sAll, sAny] u := by
  have h1 : MatchP [sAny, sAll] u ↔ 1 ≤ u.length := by
    rw [show [sAny, sAll] = [sAny] ++ [sAll] from rfl, matchP_app]
    constructor
    · rintro ⟨t1, t2, rfl, h1, _⟩
      rw [mat_any] at h1
      rw [List.length_append]; omega
    · intro h
      exact ⟨u.take 1, u.drop 1, by rw [List.take_append_drop], mat_any.2 (by rw [List.length_take]; omega), match_some _⟩
  have h2 : MatchP [sAll, sAny] u ↔ 1 ≤ u.length := by
    rw [show [sAll, sAny] = [sAll] ++ [sAny] from rfl, matchP_app]
    constructor
    · rintro ⟨t1, t2, rfl, _, h1⟩
      rw [mat_any] at h1
      rw [List.length_append]; omega
    · intro h
      exact ⟨u.take (u.length - 1), u.drop (u.length - 1), by rw [List.take_append_drop], match_some _, mat_any.2 (by rw [List.length_drop]; omega)⟩
  rw [h1, h2]
theorem pair3 (u : List ByteArray) : MatchP [sAny, sAll, sAny] u ↔ MatchP [sAll, sAny, sAny] u := by
  have := mat_app_congr (H := []) (T := [sAny]) pair2 u
  exact this
theorem res_one {p q : ByteArray} (h : ∀ t, MatchP (cutS p) t ↔ MatchP (cutS q) t) (t : List ByteArray) : resN ([p].map cutS) t = resN ([q].map cutS) t := by
  unfold resN
  simp only [List.map_cons, List.map_nil, List.length_singleton]
  refine List.filter_congr fun i hi => ?_
  have hi0 : i = 0 := by have := List.mem_range.1 hi; omega
  subst hi0
  simp only [List.getD_cons_zero]
  rw [Bool.eq_iff_iff, matchL_iff, matchL_iff]
  exact h t
def joinM (h t mid : ByteArray) : ByteArray := if t ≠ ⟨#[]⟩ then (if h ≠ ⟨#[]⟩ then h ++ sDot ++ mid else mid) ++ (sDot ++ t) else (if h ≠ ⟨#[]⟩ then h ++ sDot ++ mid else mid)
def endP (s : ByteArray) : List ByteArray := if s ≠ ⟨#[]⟩ then cutS s else []
theorem cut_joinM (h t mid : ByteArray) : cutS (joinM h t mid) = endP h ++ cutS mid ++ endP t := by
  have hh : cutS (if h ≠ ⟨#[]⟩ then h ++ sDot ++ mid else mid) = endP h ++ cutS mid := by
    unfold endP
    by_cases e : h ≠ ⟨#[]⟩
    · rw [if_pos e, if_pos e, cutS_app]
    · rw [if_neg e, if_neg e]; rfl
  unfold joinM
  by_cases e : t ≠ ⟨#[]⟩
  · rw [if_pos e, ← ByteArray.append_assoc, cutS_app, hh]
    congr 1
    unfold endP; rw [if_pos e]
  · rw [if_neg e, hh]
    unfold endP
    rw [if_neg e]
    simp
theorem signs_pair {H T M1 M2 : List ByteArray} (h1 : ∀ p ∈ M1, p = sAny ∨ p = sAll) (h2 : ∀ p ∈ M2, p = sAny ∨ p = sAll) : signsOf [H ++ M1 ++ T] = signsOf [H ++ M2 ++ T] := by
  refine risB_ext (signsOf_ris _) (signsOf_ris _) fun y => ?_
  rw [signsOf_mem, signsOf_mem]
  have key : ∀ {A B : List ByteArray}, (∀ p ∈ A, p = sAny ∨ p = sAll) → (∃ ps ∈ [H ++ A ++ T], y ∈ ps ∧ y ≠ sAny ∧ y ≠ sAll) → (∃ ps ∈ [H ++ B ++ T], y ∈ ps ∧ y ≠ sAny ∧ y ≠ sAll) := by
    rintro A B hA ⟨ps, hps, hy, h3, h4⟩
    rw [List.mem_singleton] at hps
    subst hps
    refine ⟨H ++ B ++ T, List.mem_singleton.2 rfl, ?_, h3, h4⟩
    rcases List.mem_append.1 hy with hy | hy
    · rcases List.mem_append.1 hy with hy | hy
      · exact List.mem_append.2 (.inl (List.mem_append.2 (.inl hy)))
      · rcases hA y hy with h | h
        · exact absurd h h3
        · exact absurd h h4
    · exact List.mem_append.2 (.inr hy)
  exact ⟨key h1, key h2⟩
theorem pair_least {h t m1 m2 : ByteArray} {M1 M2 : List ByteArray} (c1 : cutS m1 = M1) (c2 : cutS m2 = M2) (hm : ∀ u, MatchP M1 u ↔ MatchP M2 u) (s1 : ∀ p ∈ M1, p = sAny ∨ p = sAll) (s2 : ∀ p ∈ M2, p = sAny ∨ p = sAll)
    (e1 : ofE [joinM h t m1] 200 = 0) (e2 : ofE [joinM h t m2] 200 = 0) : leastR (ofR [joinM h t m1] 200).toDI = leastR (ofR [joinM h t m2] 200).toDI := by
  rcases of_cases [joinM h t m1] 200 with ⟨k1, h1⟩ | ⟨h1, _⟩
  · rcases of_cases [joinM h t m2] 200 with ⟨k2, h2⟩ | ⟨h2, _⟩
    · refine globs_least h1 h2 ?_ (res_one fun u => ?_)
      · simp only [List.map_cons, List.map_nil]
        rw [cut_joinM, cut_joinM, c1, c2]
        exact signs_pair s1 s2
      · rw [cut_joinM, cut_joinM, c1, c2]
        exact mat_app_congr hm u
    · exact absurd e2 h2
  · exact absurd e1 h1
end Go.Vc

namespace Go.Vc
open Go.Proofs
set_option maxRecDepth 100000

/-- 'trystlaw08.MiniWords.1' -/
def M18 : MC := (.seq (.reg [⟨(some 4), none, (.q (.mv (.c (.string ⟨#[]⟩))))⟩] [] [0, 1, 2] []) (.seq (.reg [⟨(some 6), none, (.q (.mv (.t 0)))⟩, ⟨(some 5), none, (.q (.mv (.t 6)))⟩] [] [1, 2, 5] [])
  (.seq (.seq (.reg [⟨(some 7), none, (.q (.ld (.t 1) 1 false))⟩, ⟨(some 8), none, (.q (.bin .neq (.t 7) (.c (.string ⟨#[]⟩))))⟩] [] [1, 2, 5, 8] []) (.cond (.t 8) (.reg [⟨(some 9), none,
  (.q (.ld (.t 1) 1 false))⟩, ⟨(some 10), none, (.q (.bin .add (.t 9) (.c (.string ⟨#[46]⟩))))⟩, ⟨(some 11), none, (.q (.mv (.t 5)))⟩, ⟨(some 12), none, (.q (.bin .add (.t 10) (.t 11)))⟩, ⟨(some 5),
  none, (.q (.mv (.t 12)))⟩] [] [2, 5] []) .skip)) (.seq (.seq (.reg [⟨(some 13), none, (.q (.ld (.t 2) 1 false))⟩, ⟨(some 14), none, (.q (.bin .neq (.t 13) (.c (.string ⟨#[]⟩))))⟩] [] [2, 5, 14] [])
  (.cond (.t 14) (.reg [⟨(some 15), none, (.q (.mv (.t 5)))⟩, ⟨(some 16), none, (.q (.ld (.t 2) 1 false))⟩, ⟨(some 17), none, (.q (.bin .add (.c (.string ⟨#[46]⟩)) (.t 16)))⟩, ⟨(some 18), none,
  (.q (.bin .add (.t 15) (.t 17)))⟩, ⟨(some 5), none, (.q (.mv (.t 18)))⟩] [] [5] []) .skip)) (.seq (.reg [⟨(some 19), none, (.q (.mv (.t 5)))⟩, ⟨(some 4), none, (.q (.mv (.t 19)))⟩] [] [4] [])
  .ret)))))
theorem mc18 : ofCode Tryz.prog [] Tryz.f18.ntmps [(0, ⟨[0, 1, 2], [], [], 0, [], none⟩),
    (1, ⟨[1, 2, 5], [], [], 0, [], none⟩),
    (2, ⟨[1, 2, 5, 8], [], [], 0, [], none⟩),
    (3, ⟨[2, 5], [], [], 0, [], none⟩),
    (4, ⟨[2, 5, 14], [], [], 0, [], none⟩),
    (5, ⟨[5], [], [], 0, [], none⟩),
    (6, ⟨[4], [], [], 0, [], none⟩)] (Tryz.f18.body.getD .skip) = some M18 := by kernel_rfl
theorem Run18 {args : List PV} {v : AV} {rs : List (Nat × List PV)} (ids : List Bool) (h : args.length ≤ 20) (hv : run Tryz.prog (retK [RV.tmp 4] ids v rs) M18 [] ⟨entry 0 args, []⟩) : Fn Tryz.prog 18 args v rs :=
  Fn_run ids (by kernel_rfl) Tryz.func18 (by decide) rfl mc18 (by kernel_rfl) (by rw [Tryz.ntmps18]; exact h) (by rw [Tryz.ntmps18]; decide) hv

/-- 'trystlaw08.MiniWords' -/
def B4_0 : MC := (.seq (.seq (.reg [⟨(some 33), none, (.q (.mv (.t 7)))⟩, ⟨(some 34), none, (.q (.mv (.t 6)))⟩, ⟨(some 35), none, (.q (.len (.t 34) false))⟩, ⟨(some 36), none, (.q (.bin .lss (.t 33)
  (.t 35)))⟩] [] [6, 7, 36] []) (.cond (.t 36) .skip (.exit 0))) (.seq (.block 1 (.seq (.reg [⟨(some 40), none, (.q (.mv (.t 6)))⟩, ⟨(some 41), none, (.q (.mv (.t 7)))⟩, ⟨(some 42), none,
  (.q (.ia (.t 40) (.t 41) 2))⟩, ⟨(some 43), none, (.q (.iaa (.t 42) (.c (.int .i64 0)) 2 1))⟩, ⟨(some 44), none, (.q (.ld (.t 43) 1 false))⟩, ⟨(some 45), none, (.lits [(.t 44)] 1)⟩, ⟨(some 46), none,
  (.call (.f 19) [(.t 45), (.c (.int .i64 200))])⟩, ⟨(some 39), none, (.q (.mv (.t 46)))⟩, ⟨(some 47), none, (.q (.ext (.t 39) 0))⟩, ⟨(some 48), none, (.q (.ext (.t 39) 1))⟩, ⟨(some 8), none,
  (.alloc [.e0, .e0, .e0])⟩, ⟨none, none, (.st (.t 8) (.t 47) 3)⟩, ⟨(some 9), none, (.q (.mv (.t 48)))⟩] [] [6, 7, 8, 9] [8, 1046]) (.seq (.reg [⟨(some 50), none, (.q (.mv (.t 6)))⟩, ⟨(some 51), none,
  (.q (.mv (.t 7)))⟩, ⟨(some 52), none, (.q (.ia (.t 50) (.t 51) 2))⟩, ⟨(some 53), none, (.q (.iaa (.t 52) (.c (.int .i64 1)) 2 1))⟩, ⟨(some 54), none, (.q (.ld (.t 53) 1 false))⟩, ⟨(some 55), none,
  (.lits [(.t 54)] 1)⟩, ⟨(some 56), none, (.call (.f 19) [(.t 55), (.c (.int .i64 200))])⟩, ⟨(some 49), none, (.q (.mv (.t 56)))⟩, ⟨(some 57), none, (.q (.ext (.t 49) 0))⟩, ⟨(some 58), none,
  (.q (.ext (.t 49) 1))⟩, ⟨(some 10), none, (.alloc [.e0, .e0, .e0])⟩, ⟨none, none, (.st (.t 10) (.t 57) 3)⟩, ⟨(some 11), none, (.q (.mv (.t 58)))⟩] [] [6, 7, 8, 9, 10, 11] [8, 10, 1046, 1056])
  (.seq (.reg [⟨(some 59), none, (.q (.mv (.t 9)))⟩, ⟨(some 60), none, (.q (.bin .eql (.t 59) (.c (.int .i64 0))))⟩, ⟨(some 61), none, (.q (.mv (.t 60)))⟩, ⟨(some 62), (some (61, true)),
  (.q (.mv (.t 11)))⟩, ⟨(some 63), (some (61, true)), (.q (.bin .eql (.t 62) (.c (.int .i64 0))))⟩, ⟨(some 64), none, (.q (.pick (.t 61) (.t 63) (.c (.bool false))))⟩, ⟨(some 65), none,
  (.q (.mv (.t 64)))⟩, ⟨(some 66), (some (65, true)), (.q (.ld (.t 8) 3 true))⟩, ⟨(some 67), (some (65, true)), (.q (.ld (.t 10) 3 true))⟩, ⟨(some 68), (some (65, true)), (.call (.f 15) [(.t 66),
  (.t 67)])⟩, ⟨(some 69), (some (65, true)), (.q (.not (.t 68)))⟩, ⟨(some 70), none, (.q (.pick (.t 65) (.t 69) (.c (.bool false))))⟩] [] [6, 7, 70] [1046, 1056, 1068]) (.cond (.t 70)
  (.seq (.reg [⟨(some 4), none, (.q (.mv (.c (.bool false))))⟩] [] [4] [1071]) .ret) .skip))))) (.reg [⟨(some 37), none, (.q (.mv (.t 7)))⟩, ⟨(some 38), none, (.q (.bin .add (.t 37)
  (.c (.int .i64 1))))⟩, ⟨(some 7), none, (.q (.mv (.t 38)))⟩] [] [6, 7] [])))
def R4_0 : MC := (.seq (.reg [⟨(some 71), none, (.call (.f 20) [])⟩, ⟨(some 4), none, (.q (.mv (.t 71)))⟩] [] [4] [1071]) .ret)
def M4 : MC := (.seq (.reg [⟨(some 2), none, (.box (.t 0))⟩, ⟨(some 3), none, (.box (.t 1))⟩, ⟨(some 4), none, (.q (.mv (.c (.bool false))))⟩] [] [2, 3] [2, 3, 1013, 1015]) (.seq (.reg [⟨(some 12),
  none, (.q (.ld (.t 2) 1 false))⟩, ⟨(some 14), none, (.q (.ld (.t 3) 1 false))⟩, ⟨(some 13), none, (.call (.f 17) [(.t 12)])⟩, ⟨(some 15), none, (.call (.f 17) [(.t 14)])⟩, ⟨none, none, (.st (.t 2)
  (.t 13) 1)⟩, ⟨none, none, (.st (.t 3) (.t 15) 1)⟩] [] [2, 3] [2, 3, 1013, 1015]) (.seq (.reg [⟨(some 16), none, (.q (.clo 18 [(.t 2), (.t 3)]))⟩, ⟨(some 5), none, (.q (.mv (.t 16)))⟩] [] [5] [2, 3,
  1013, 1015]) (.seq (.reg [⟨(some 17), none, (.q (.mv (.t 5)))⟩, ⟨(some 18), none, (.call (.t 17) [(.c (.string ⟨#[42, 42]⟩))])⟩, ⟨(some 19), none, (.q (.mv (.t 5)))⟩, ⟨(some 20), none,
  (.call (.t 19) [(.c (.string ⟨#[42, 42, 46, 42, 42]⟩))])⟩, ⟨(some 21), none, (.q (.mk [(.pv (.sc (.string ⟨#[]⟩))), (.pv (.sc (.string ⟨#[]⟩)))] [(0, 1, (.t 18)), (1, 1, (.t 20))]))⟩, ⟨(some 22),
  none, (.q (.mv (.t 5)))⟩, ⟨(some 23), none, (.call (.t 22) [(.c (.string ⟨#[42, 46, 42, 42]⟩))])⟩, ⟨(some 24), none, (.q (.mv (.t 5)))⟩, ⟨(some 25), none, (.call (.t 24) [(.c (.string ⟨#[42, 42, 46,
  42]⟩))])⟩, ⟨(some 26), none, (.q (.mk [(.pv (.sc (.string ⟨#[]⟩))), (.pv (.sc (.string ⟨#[]⟩)))] [(0, 1, (.t 23)), (1, 1, (.t 25))]))⟩, ⟨(some 27), none, (.q (.mv (.t 5)))⟩, ⟨(some 28), none,
  (.call (.t 27) [(.c (.string ⟨#[42, 46, 42, 42, 46, 42]⟩))])⟩, ⟨(some 29), none, (.q (.mv (.t 5)))⟩, ⟨(some 30), none, (.call (.t 29) [(.c (.string ⟨#[42, 42, 46, 42, 46, 42]⟩))])⟩, ⟨(some 31),
  none, (.q (.mk [(.pv (.sc (.string ⟨#[]⟩))), (.pv (.sc (.string ⟨#[]⟩)))] [(0, 1, (.t 28)), (1, 1, (.t 30))]))⟩, ⟨(some 32), none, (.lits [(.t 21), (.t 26), (.t 31)] 2)⟩, ⟨(some 6), none,
  (.q (.mv (.t 32)))⟩] [] [6] []) (.seq (.seq (.reg [⟨(some 7), none, (.q (.mv (.c (.int .i64 0))))⟩] [] [6, 7] []) (.block 0 (.loop B4_0))) R4_0)))))
theorem mc4 : ofCode Tryz.prog [] Tryz.f4.ntmps [(0, ⟨[2, 3], [2, 3, 1013, 1015], [], 0, [], none⟩),
    (1, ⟨[2, 3], [2, 3, 1013, 1015], [(0, 59), (2, 60), (1, 0), (3, 0), (4, 0), (5, 0)], 15, [], none⟩),
    (2, ⟨[5], [2, 3, 1013, 1015], [], 0, [], none⟩),
    (3, ⟨[6], [], [], 0, [], none⟩),
    (4, ⟨[6, 7], [], [], 0, [], none⟩),
    (5, ⟨[6, 7, 36], [], [], 0, [], none⟩),
    (6, ⟨[6, 7], [], [], 0, [], none⟩),
    (7, ⟨[6, 7, 8, 9], [8, 1046], [], 0, [], none⟩),
    (8, ⟨[6, 7, 8, 9, 10, 11], [8, 10, 1046, 1056], [], 0, [], none⟩),
    (9, ⟨[6, 7, 70], [1046, 1056, 1068], [], 0, [], none⟩),
    (10, ⟨[4], [1071], [], 0, [], none⟩),
    (11, ⟨[4], [1071], [], 0, [], none⟩)] (Tryz.f4.body.getD .skip) = some M4 := by kernel_rfl
theorem Run4 {args : List PV} {v : AV} {rs : List (Nat × List PV)} (ids : List Bool) (h : args.length ≤ 72) (hv : run Tryz.prog (retK [RV.tmp 4] ids v rs) M4 [] ⟨entry 0 args, []⟩) : Fn Tryz.prog 4 args v rs :=
  Fn_run ids (by kernel_rfl) Tryz.func4 (by decide) rfl mc4 (by kernel_rfl) (by rw [Tryz.ntmps4]; exact h) (by rw [Tryz.ntmps4]; decide) hv

end Go.Vc

namespace Go.Vc
open Go.Proofs
set_option linter.unusedSimpArgs false
set_option linter.unusedVariables false

/-! ## MiniWords -/
theorem joinM_size {h t mid : ByteArray} (h1 : h.size ≤ 60) (h2 : t.size ≤ 60) (h3 : mid.size ≤ 60) : (joinM h t mid).size ≤ 1000 := by
  have hd : sDot.size = 1 := rfl
  unfold joinM
  split <;> split <;> first | omega | (simp only [ByteArray.size_append, hd]; omega)
theorem fn18 (h t mid : ByteArray) (h1 : h.size ≤ 60) (h2 : t.size ≤ 60) (h3 : mid.size ≤ 60) : Fn Tryz.prog 18 [pS mid, .pt [pS h], .pt [pS t]] (.pv (pS (joinM h t mid))) [] := by
  refine Run18 [] (by simp) ?_
  have hd : ByteArray.size ⟨#[46]⟩ = 1 := rfl
  unfold joinM
  by_cases e1 : h = ⟨#[]⟩
  · by_cases e2 : t = ⟨#[]⟩
    · subst e1; subst e2
      simp only [go_sem, Nat.reduceEqDiff, Nat.reduceBEq, Nat.reduceAdd, Nat.reduceMul, Nat.reduceSub, Nat.reduceLeDiff, Nat.reduceLT, reduceIte, reduceCtorEq, Int.reduceToNat, Int.reduceLE, Int.reduceLT, Int.reduceNeg, Bool.not_not, and_self, Bool.and_eq_false_iff, Int.cast_ofNat_Int, Int.reduceAdd, Int.reduceSub, Int.reduceMul, Int.reduceEq, Int.reduceNe, M18, ne_eq, not_true_eq_false]
    · subst e1
      simp only [go_sem, Nat.reduceEqDiff, Nat.reduceBEq, Nat.reduceAdd, Nat.reduceMul, Nat.reduceSub, Nat.reduceLeDiff, Nat.reduceLT, reduceIte, reduceCtorEq, Int.reduceToNat, Int.reduceLE, Int.reduceLT, Int.reduceNeg, Bool.not_not, and_self, Bool.and_eq_false_iff, Int.cast_ofNat_Int, Int.reduceAdd, Int.reduceSub, Int.reduceMul, Int.reduceEq, Int.reduceNe, M18, e2, ne_eq, not_true_eq_false, not_false_eq_true, ByteArray.size_append, hd]
      exact ⟨by omega, by omega⟩
  · by_cases e2 : t = ⟨#[]⟩
    · subst e2
      simp only [go_sem, Nat.reduceEqDiff, Nat.reduceBEq, Nat.reduceAdd, Nat.reduceMul, Nat.reduceSub, Nat.reduceLeDiff, Nat.reduceLT, reduceIte, reduceCtorEq, Int.reduceToNat, Int.reduceLE, Int.reduceLT, Int.reduceNeg, Bool.not_not, and_self, Bool.and_eq_false_iff, Int.cast_ofNat_Int, Int.reduceAdd, Int.reduceSub, Int.reduceMul, Int.reduceEq, Int.reduceNe, M18, e1, ne_eq, not_true_eq_false, not_false_eq_true, ByteArray.size_append, hd]
      exact ⟨by omega, by omega⟩
    · simp only [go_sem, Nat.reduceEqDiff, Nat.reduceBEq, Nat.reduceAdd, Nat.reduceMul, Nat.reduceSub, Nat.reduceLeDiff, Nat.reduceLT, reduceIte, reduceCtorEq, Int.reduceToNat, Int.reduceLE, Int.reduceLT, Int.reduceNeg, Bool.not_not, and_self, Bool.and_eq_false_iff, Int.cast_ofNat_Int, Int.reduceAdd, Int.reduceSub, Int.reduceMul, Int.reduceEq, Int.reduceNe, M18, e1, e2, ne_eq, not_false_eq_true, ByteArray.size_append, hd]
      exact ⟨by omega, by omega, by omega, by omega⟩
structure PairOk (p q : ByteArray) : Prop where
  sp : p.size ≤ 1000
  sq : q.size ≤ 1000
  eq : ofE [p] 200 = 0 → ofE [q] 200 = 0 → leastR (ofR [p] 200).toDI = leastR (ofR [q] 200).toDI
abbrev glA : ByteArray := ⟨#[42, 42]⟩
abbrev glB : ByteArray := ⟨#[42, 42, 46, 42, 42]⟩
abbrev glC : ByteArray := ⟨#[42, 46, 42, 42]⟩
abbrev glD : ByteArray := ⟨#[42, 42, 46, 42]⟩
abbrev glE : ByteArray := ⟨#[42, 46, 42, 42, 46, 42]⟩
abbrev glF : ByteArray := ⟨#[42, 42, 46, 42, 46, 42]⟩
theorem pairs_ok (h t : ByteArray) (h1 : h.size ≤ 60) (h2 : t.size ≤ 60) : ∀ p ∈ [(joinM h t glA, joinM h t glB), (joinM h t glC, joinM h t glD), (joinM h t glE, joinM h t glF)], PairOk p.1 p.2 := by
  intro p hp
  simp only [List.mem_cons, List.not_mem_nil, or_false] at hp
  rcases hp with rfl | rfl | rfl
  · exact ⟨joinM_size h1 h2 (by decide), joinM_size h1 h2 (by decide), pair_least (M1 := [sAll]) (M2 := [sAll, sAll]) (by decide) (by decide) pair1 (by simp) (by simp)⟩
  · exact ⟨joinM_size h1 h2 (by decide), joinM_size h1 h2 (by decide), pair_least (M1 := [sAny, sAll]) (M2 := [sAll, sAny]) (by decide) (by decide) pair2 (by simp) (by simp)⟩
  · exact ⟨joinM_size h1 h2 (by decide), joinM_size h1 h2 (by decide), pair_least (M1 := [sAny, sAll, sAny]) (M2 := [sAll, sAny, sAny]) (by decide) (by decide) pair3 (by simp) (by simp)⟩
abbrev pP (p : ByteArray × ByteArray) : PV := .agg [pS p.1, pS p.2]
theorem wf_pP (l : List (ByteArray × ByteArray)) : WfL 2 (l.map pP) := wf_map (f := pP) (s := 2) (fun a => ⟨rfl, fun c hc => by
  simp only [PV.cells, List.mem_cons, List.not_mem_nil, or_false] at hc
  rcases hc with rfl | rfl <;> rfl⟩) l
set_option maxHeartbeats 4000000 in
theorem law4 (a b : ByteArray) : Fn Tryz.prog 4 [pS a, pS b] (.pv (pB true)) [] := by
  have hh := fewS_size a
  have ht := fewS_size b
  have ra := fn17 a
  have rb := fn17 b
  generalize fewS a = h at hh ra
  generalize fewS b = t at ht rb
  have hP := pairs_ok h t hh ht
  obtain ⟨PL, hPL⟩ : ∃ PL, PL = [(joinM h t glA, joinM h t glB), (joinM h t glC, joinM h t glD), (joinM h t glE, joinM h t glF)] := ⟨_, rfl⟩
  have hll : PL.length = 3 := by rw [hPL]; rfl
  rw [← hPL] at hP
  refine Run4 [] (by simp) ?_
  have hd := hh
  simp only [go_sem, Nat.reduceEqDiff, Nat.reduceBEq, Nat.reduceAdd, Nat.reduceMul, Nat.reduceSub, Nat.reduceLeDiff, Nat.reduceLT, reduceIte, reduceCtorEq, Int.reduceToNat, Int.reduceLE, Int.reduceLT, Int.reduceNeg, Bool.not_not, and_self, Bool.and_eq_false_iff, Int.cast_ofNat_Int, Int.reduceAdd, Int.reduceSub, Int.reduceMul, Int.reduceEq, Int.reduceNe, M4]
  refine runR_callf (by simp only [go_sem, Nat.reduceEqDiff, Nat.reduceBEq, Nat.reduceAdd, Nat.reduceMul, Nat.reduceSub, Nat.reduceLeDiff, Nat.reduceLT, reduceIte, reduceCtorEq, Int.reduceToNat, Int.reduceLE, Int.reduceLT, Int.reduceNeg, Bool.not_not, and_self, Bool.and_eq_false_iff, Int.cast_ofNat_Int, Int.reduceAdd, Int.reduceSub, Int.reduceMul, Int.reduceEq, Int.reduceNe]) (by simp only [go_sem, Nat.reduceEqDiff, Nat.reduceBEq, Nat.reduceAdd, Nat.reduceMul, Nat.reduceSub, Nat.reduceLeDiff, Nat.reduceLT, reduceIte, reduceCtorEq, Int.reduceToNat, Int.reduceLE, Int.reduceLT, Int.reduceNeg, Bool.not_not, and_self, Bool.and_eq_false_iff, Int.cast_ofNat_Int, Int.reduceAdd, Int.reduceSub, Int.reduceMul, Int.reduceEq, Int.reduceNe] <;> rfl) (ra) ⟨rfl, trivial⟩ trivial ?_
  simp only [go_sem, Nat.reduceEqDiff, Nat.reduceBEq, Nat.reduceAdd, Nat.reduceMul, Nat.reduceSub, Nat.reduceLeDiff, Nat.reduceLT, reduceIte, reduceCtorEq, Int.reduceToNat, Int.reduceLE, Int.reduceLT, Int.reduceNeg, Bool.not_not, and_self, Bool.and_eq_false_iff, Int.cast_ofNat_Int, Int.reduceAdd, Int.reduceSub, Int.reduceMul, Int.reduceEq, Int.reduceNe]
  refine runR_callf (by simp only [go_sem, Nat.reduceEqDiff, Nat.reduceBEq, Nat.reduceAdd, Nat.reduceMul, Nat.reduceSub, Nat.reduceLeDiff, Nat.reduceLT, reduceIte, reduceCtorEq, Int.reduceToNat, Int.reduceLE, Int.reduceLT, Int.reduceNeg, Bool.not_not, and_self, Bool.and_eq_false_iff, Int.cast_ofNat_Int, Int.reduceAdd, Int.reduceSub, Int.reduceMul, Int.reduceEq, Int.reduceNe]) (by simp only [go_sem, Nat.reduceEqDiff, Nat.reduceBEq, Nat.reduceAdd, Nat.reduceMul, Nat.reduceSub, Nat.reduceLeDiff, Nat.reduceLT, reduceIte, reduceCtorEq, Int.reduceToNat, Int.reduceLE, Int.reduceLT, Int.reduceNeg, Bool.not_not, and_self, Bool.and_eq_false_iff, Int.cast_ofNat_Int, Int.reduceAdd, Int.reduceSub, Int.reduceMul, Int.reduceEq, Int.reduceNe] <;> rfl) (rb) ⟨rfl, trivial⟩ trivial ?_
  simp only [go_sem, Nat.reduceEqDiff, Nat.reduceBEq, Nat.reduceAdd, Nat.reduceMul, Nat.reduceSub, Nat.reduceLeDiff, Nat.reduceLT, reduceIte, reduceCtorEq, Int.reduceToNat, Int.reduceLE, Int.reduceLT, Int.reduceNeg, Bool.not_not, and_self, Bool.and_eq_false_iff, Int.cast_ofNat_Int, Int.reduceAdd, Int.reduceSub, Int.reduceMul, Int.reduceEq, Int.reduceNe]
  refine runR_callf (by simp only [go_sem, Nat.reduceEqDiff, Nat.reduceBEq, Nat.reduceAdd, Nat.reduceMul, Nat.reduceSub, Nat.reduceLeDiff, Nat.reduceLT, reduceIte, reduceCtorEq, Int.reduceToNat, Int.reduceLE, Int.reduceLT, Int.reduceNeg, Bool.not_not, and_self, Bool.and_eq_false_iff, Int.cast_ofNat_Int, Int.reduceAdd, Int.reduceSub, Int.reduceMul, Int.reduceEq, Int.reduceNe]) (by simp only [go_sem, Nat.reduceEqDiff, Nat.reduceBEq, Nat.reduceAdd, Nat.reduceMul, Nat.reduceSub, Nat.reduceLeDiff, Nat.reduceLT, reduceIte, reduceCtorEq, Int.reduceToNat, Int.reduceLE, Int.reduceLT, Int.reduceNeg, Bool.not_not, and_self, Bool.and_eq_false_iff, Int.cast_ofNat_Int, Int.reduceAdd, Int.reduceSub, Int.reduceMul, Int.reduceEq, Int.reduceNe] <;> rfl) (fn18 h t glA hh ht (by decide)) ⟨rfl, trivial⟩ trivial ?_
  simp only [go_sem, Nat.reduceEqDiff, Nat.reduceBEq, Nat.reduceAdd, Nat.reduceMul, Nat.reduceSub, Nat.reduceLeDiff, Nat.reduceLT, reduceIte, reduceCtorEq, Int.reduceToNat, Int.reduceLE, Int.reduceLT, Int.reduceNeg, Bool.not_not, and_self, Bool.and_eq_false_iff, Int.cast_ofNat_Int, Int.reduceAdd, Int.reduceSub, Int.reduceMul, Int.reduceEq, Int.reduceNe]
  refine runR_callf (by simp only [go_sem, Nat.reduceEqDiff, Nat.reduceBEq, Nat.reduceAdd, Nat.reduceMul, Nat.reduceSub, Nat.reduceLeDiff, Nat.reduceLT, reduceIte, reduceCtorEq, Int.reduceToNat, Int.reduceLE, Int.reduceLT, Int.reduceNeg, Bool.not_not, and_self, Bool.and_eq_false_iff, Int.cast_ofNat_Int, Int.reduceAdd, Int.reduceSub, Int.reduceMul, Int.reduceEq, Int.reduceNe]) (by simp only [go_sem, Nat.reduceEqDiff, Nat.reduceBEq, Nat.reduceAdd, Nat.reduceMul, Nat.reduceSub, Nat.reduceLeDiff, Nat.reduceLT, reduceIte, reduceCtorEq, Int.reduceToNat, Int.reduceLE, Int.reduceLT, Int.reduceNeg, Bool.not_not, and_self, Bool.and_eq_false_iff, Int.cast_ofNat_Int, Int.reduceAdd, Int.reduceSub, Int.reduceMul, Int.reduceEq, Int.reduceNe] <;> rfl) (fn18 h t glB hh ht (by decide)) ⟨rfl, trivial⟩ trivial ?_
  simp only [go_sem, Nat.reduceEqDiff, Nat.reduceBEq, Nat.reduceAdd, Nat.reduceMul, Nat.reduceSub, Nat.reduceLeDiff, Nat.reduceLT, reduceIte, reduceCtorEq, Int.reduceToNat, Int.reduceLE, Int.reduceLT, Int.reduceNeg, Bool.not_not, and_self, Bool.and_eq_false_iff, Int.cast_ofNat_Int, Int.reduceAdd, Int.reduceSub, Int.reduceMul, Int.reduceEq, Int.reduceNe]
  refine runR_callf (by simp only [go_sem, Nat.reduceEqDiff, Nat.reduceBEq, Nat.reduceAdd, Nat.reduceMul, Nat.reduceSub, Nat.reduceLeDiff, Nat.reduceLT, reduceIte, reduceCtorEq, Int.reduceToNat, Int.reduceLE, Int.reduceLT, Int.reduceNeg, Bool.not_not, and_self, Bool.and_eq_false_iff, Int.cast_ofNat_Int, Int.reduceAdd, Int.reduceSub, Int.reduceMul, Int.reduceEq, Int.reduceNe]) (by simp only [go_sem, Nat.reduceEqDiff, Nat.reduceBEq, Nat.reduceAdd, Nat.reduceMul, Nat.reduceSub, Nat.reduceLeDiff, Nat.reduceLT, reduceIte, reduceCtorEq, Int.reduceToNat, Int.reduceLE, Int.reduceLT, Int.reduceNeg, Bool.not_not, and_self, Bool.and_eq_false_iff, Int.cast_ofNat_Int, Int.reduceAdd, Int.reduceSub, Int.reduceMul, Int.reduceEq, Int.reduceNe] <;> rfl) (fn18 h t glC hh ht (by decide)) ⟨rfl, trivial⟩ trivial ?_
  simp only [go_sem, Nat.reduceEqDiff, Nat.reduceBEq, Nat.reduceAdd, Nat.reduceMul, Nat.reduceSub, Nat.reduceLeDiff, Nat.reduceLT, reduceIte, reduceCtorEq, Int.reduceToNat, Int.reduceLE, Int.reduceLT, Int.reduceNeg, Bool.not_not, and_self, Bool.and_eq_false_iff, Int.cast_ofNat_Int, Int.reduceAdd, Int.reduceSub, Int.reduceMul, Int.reduceEq, Int.reduceNe]
  refine runR_callf (by simp only [go_sem, Nat.reduceEqDiff, Nat.reduceBEq, Nat.reduceAdd, Nat.reduceMul, Nat.reduceSub, Nat.reduceLeDiff, Nat.reduceLT, reduceIte, reduceCtorEq, Int.reduceToNat, Int.reduceLE, Int.reduceLT, Int.reduceNeg, Bool.not_not, and_self, Bool.and_eq_false_iff, Int.cast_ofNat_Int, Int.reduceAdd, Int.reduceSub, Int.reduceMul, Int.reduceEq, Int.reduceNe]) (by simp only [go_sem, Nat.reduceEqDiff, Nat.reduceBEq, Nat.reduceAdd, Nat.reduceMul, Nat.reduceSub, Nat.reduceLeDiff, Nat.reduceLT, reduceIte, reduceCtorEq, Int.reduceToNat, Int.reduceLE, Int.reduceLT, Int.reduceNeg, Bool.not_not, and_self, Bool.and_eq_false_iff, Int.cast_ofNat_Int, Int.reduceAdd, Int.reduceSub, Int.reduceMul, Int.reduceEq, Int.reduceNe] <;> rfl) (fn18 h t glD hh ht (by decide)) ⟨rfl, trivial⟩ trivial ?_
  simp only [go_sem, Nat.reduceEqDiff, Nat.reduceBEq, Nat.reduceAdd, Nat.reduceMul, Nat.reduceSub, Nat.reduceLeDiff, Nat.reduceLT, reduceIte, reduceCtorEq, Int.reduceToNat, Int.reduceLE, Int.reduceLT, Int.reduceNeg, Bool.not_not, and_self, Bool.and_eq_false_iff, Int.cast_ofNat_Int, Int.reduceAdd, Int.reduceSub, Int.reduceMul, Int.reduceEq, Int.reduceNe]
  refine runR_callf (by simp only [go_sem, Nat.reduceEqDiff, Nat.reduceBEq, Nat.reduceAdd, Nat.reduceMul, Nat.reduceSub, Nat.reduceLeDiff, Nat.reduceLT, reduceIte, reduceCtorEq, Int.reduceToNat, Int.reduceLE, Int.reduceLT, Int.reduceNeg, Bool.not_not, and_self, Bool.and_eq_false_iff, Int.cast_ofNat_Int, Int.reduceAdd, Int.reduceSub, Int.reduceMul, Int.reduceEq, Int.reduceNe]) (by simp only [go_sem, Nat.reduceEqDiff, Nat.reduceBEq, Nat.reduceAdd, Nat.reduceMul, Nat.reduceSub, Nat.reduceLeDiff, Nat.reduceLT, reduceIte, reduceCtorEq, Int.reduceToNat, Int.reduceLE, Int.reduceLT, Int.reduceNeg, Bool.not_not, and_self, Bool.and_eq_false_iff, Int.cast_ofNat_Int, Int.reduceAdd, Int.reduceSub, Int.reduceMul, Int.reduceEq, Int.reduceNe] <;> rfl) (fn18 h t glE hh ht (by decide)) ⟨rfl, trivial⟩ trivial ?_
  simp only [go_sem, Nat.reduceEqDiff, Nat.reduceBEq, Nat.reduceAdd, Nat.reduceMul, Nat.reduceSub, Nat.reduceLeDiff, Nat.reduceLT, reduceIte, reduceCtorEq, Int.reduceToNat, Int.reduceLE, Int.reduceLT, Int.reduceNeg, Bool.not_not, and_self, Bool.and_eq_false_iff, Int.cast_ofNat_Int, Int.reduceAdd, Int.reduceSub, Int.reduceMul, Int.reduceEq, Int.reduceNe]
  refine runR_callf (by simp only [go_sem, Nat.reduceEqDiff, Nat.reduceBEq, Nat.reduceAdd, Nat.reduceMul, Nat.reduceSub, Nat.reduceLeDiff, Nat.reduceLT, reduceIte, reduceCtorEq, Int.reduceToNat, Int.reduceLE, Int.reduceLT, Int.reduceNeg, Bool.not_not, and_self, Bool.and_eq_false_iff, Int.cast_ofNat_Int, Int.reduceAdd, Int.reduceSub, Int.reduceMul, Int.reduceEq, Int.reduceNe]) (by simp only [go_sem, Nat.reduceEqDiff, Nat.reduceBEq, Nat.reduceAdd, Nat.reduceMul, Nat.reduceSub, Nat.reduceLeDiff, Nat.reduceLT, reduceIte, reduceCtorEq, Int.reduceToNat, Int.reduceLE, Int.reduceLT, Int.reduceNeg, Bool.not_not, and_self, Bool.and_eq_false_iff, Int.cast_ofNat_Int, Int.reduceAdd, Int.reduceSub, Int.reduceMul, Int.reduceEq, Int.reduceNe] <;> rfl) (fn18 h t glF hh ht (by decide)) ⟨rfl, trivial⟩ trivial ?_
  simp only [go_sem, Nat.reduceEqDiff, Nat.reduceBEq, Nat.reduceAdd, Nat.reduceMul, Nat.reduceSub, Nat.reduceLeDiff, Nat.reduceLT, reduceIte, reduceCtorEq, Int.reduceToNat, Int.reduceLE, Int.reduceLT, Int.reduceNeg, Bool.not_not, and_self, Bool.and_eq_false_iff, Int.cast_ofNat_Int, Int.reduceAdd, Int.reduceSub, Int.reduceMul, Int.reduceEq, Int.reduceNe]
  refine run_loopN (T := Nat) [6, 7] [] (fun i => ⟨[(6, .pv (.lst (PL.map pP))), (7, .pv (pI i))], []⟩) (fun i => i ≤ 3) (fun i => 3 - i) 0 ?_ (Nat.zero_le _) ?_
  · rw [hPL]
    simp only [go_sem, Nat.reduceEqDiff, Nat.reduceBEq, Nat.reduceAdd, Nat.reduceMul, Nat.reduceSub, Nat.reduceLeDiff, Nat.reduceLT, reduceIte, reduceCtorEq, Int.reduceToNat, Int.reduceLE, Int.reduceLT, Int.reduceNeg, Bool.not_not, and_self, Bool.and_eq_false_iff, Int.cast_ofNat_Int, Int.reduceAdd, Int.reduceSub, Int.reduceMul, Int.reduceEq, Int.reduceNe]
  intro i hi
  by_cases hlt : i < PL.length
  · obtain ⟨sp, sq, heq⟩ := hP PL[i] (List.getElem_mem hlt)
    generalize hpq : PL[i] = pq at sp sq heq
    obtain ⟨p, q⟩ := pq
    simp only at sp sq heq
    have rp := fn19 [p] 200 (by simp) (by simpa using sp) (by omega)
    have rq := fn19 [q] 200 (by simp) (by simpa using sq) (by omega)
    have hi1 : -9223372036854775808 ≤ (i : Int) + 1 ∧ (i : Int) + 1 ≤ 9223372036854775807 := ⟨by omega, by omega⟩
    simp only [go_sem, Nat.reduceEqDiff, Nat.reduceBEq, Nat.reduceAdd, Nat.reduceMul, Nat.reduceSub, Nat.reduceLeDiff, Nat.reduceLT, reduceIte, reduceCtorEq, Int.reduceToNat, Int.reduceLE, Int.reduceLT, Int.reduceNeg, Bool.not_not, and_self, Bool.and_eq_false_iff, Int.cast_ofNat_Int, Int.reduceAdd, Int.reduceSub, Int.reduceMul, Int.reduceEq, Int.reduceNe, B4_0, show (i : Int) < (PL.length : Int) by omega, getD_map hlt, hpq, wf_pP]
    refine runR_call (by simp only [go_sem, Nat.reduceEqDiff, Nat.reduceBEq, Nat.reduceAdd, Nat.reduceMul, Nat.reduceSub, Nat.reduceLeDiff, Nat.reduceLT, reduceIte, reduceCtorEq, Int.reduceToNat, Int.reduceLE, Int.reduceLT, Int.reduceNeg, Bool.not_not, and_self, Bool.and_eq_false_iff, Int.cast_ofNat_Int, Int.reduceAdd, Int.reduceSub, Int.reduceMul, Int.reduceEq, Int.reduceNe]) rfl (rp) (.inl rfl) trivial ?_
    simp only [go_sem, Nat.reduceEqDiff, Nat.reduceBEq, Nat.reduceAdd, Nat.reduceMul, Nat.reduceSub, Nat.reduceLeDiff, Nat.reduceLT, reduceIte, reduceCtorEq, Int.reduceToNat, Int.reduceLE, Int.reduceLT, Int.reduceNeg, Bool.not_not, and_self, Bool.and_eq_false_iff, Int.cast_ofNat_Int, Int.reduceAdd, Int.reduceSub, Int.reduceMul, Int.reduceEq, Int.reduceNe, getD_map hlt, hpq, wf_pP]
    refine ⟨by omega, ?_⟩
    refine runR_call (by simp only [go_sem, Nat.reduceEqDiff, Nat.reduceBEq, Nat.reduceAdd, Nat.reduceMul, Nat.reduceSub, Nat.reduceLeDiff, Nat.reduceLT, reduceIte, reduceCtorEq, Int.reduceToNat, Int.reduceLE, Int.reduceLT, Int.reduceNeg, Bool.not_not, and_self, Bool.and_eq_false_iff, Int.cast_ofNat_Int, Int.reduceAdd, Int.reduceSub, Int.reduceMul, Int.reduceEq, Int.reduceNe]) rfl (rq) (.inl rfl) trivial ?_
    by_cases e1 : ofE [p] 200 = 0
    · by_cases e2 : ofE [q] 200 = 0
      · rcases of_cases [q] 200 with ⟨k, h⟩ | ⟨h, _⟩
        · have r15 := fn15t _ (sm_least (may_ok (sm_toDI (sm_of [q] 200 (by omega))) (I64_ofR [q] 200) (may_of h)))
          rw [if_pos e1, if_pos e2, e1, e2, heq e1 e2]
          generalize leastR (ofR [q] 200).toDI = L at r15
          simp only [go_sem, Nat.reduceEqDiff, Nat.reduceBEq, Nat.reduceAdd, Nat.reduceMul, Nat.reduceSub, Nat.reduceLeDiff, Nat.reduceLT, reduceIte, reduceCtorEq, Int.reduceToNat, Int.reduceLE, Int.reduceLT, Int.reduceNeg, Bool.not_not, and_self, Bool.and_eq_false_iff, Int.cast_ofNat_Int, Int.reduceAdd, Int.reduceSub, Int.reduceMul, Int.reduceEq, Int.reduceNe]
          refine runR_callgf (by simp only [go_sem, Nat.reduceEqDiff, Nat.reduceBEq, Nat.reduceAdd, Nat.reduceMul, Nat.reduceSub, Nat.reduceLeDiff, Nat.reduceLT, reduceIte, reduceCtorEq, Int.reduceToNat, Int.reduceLE, Int.reduceLT, Int.reduceNeg, Bool.not_not, and_self, Bool.and_eq_false_iff, Int.cast_ofNat_Int, Int.reduceAdd, Int.reduceSub, Int.reduceMul, Int.reduceEq, Int.reduceNe]) (by simp only [go_sem, Nat.reduceEqDiff, Nat.reduceBEq, Nat.reduceAdd, Nat.reduceMul, Nat.reduceSub, Nat.reduceLeDiff, Nat.reduceLT, reduceIte, reduceCtorEq, Int.reduceToNat, Int.reduceLE, Int.reduceLT, Int.reduceNeg, Bool.not_not, and_self, Bool.and_eq_false_iff, Int.cast_ofNat_Int, Int.reduceAdd, Int.reduceSub, Int.reduceMul, Int.reduceEq, Int.reduceNe]) (by simp only [go_sem, Nat.reduceEqDiff, Nat.reduceBEq, Nat.reduceAdd, Nat.reduceMul, Nat.reduceSub, Nat.reduceLeDiff, Nat.reduceLT, reduceIte, reduceCtorEq, Int.reduceToNat, Int.reduceLE, Int.reduceLT, Int.reduceNeg, Bool.not_not, and_self, Bool.and_eq_false_iff, Int.cast_ofNat_Int, Int.reduceAdd, Int.reduceSub, Int.reduceMul, Int.reduceEq, Int.reduceNe] <;> rfl) (fun _ => r15) rfl ?_
          simp only [go_sem, Nat.reduceEqDiff, Nat.reduceBEq, Nat.reduceAdd, Nat.reduceMul, Nat.reduceSub, Nat.reduceLeDiff, Nat.reduceLT, reduceIte, reduceCtorEq, Int.reduceToNat, Int.reduceLE, Int.reduceLT, Int.reduceNeg, Bool.not_not, and_self, Bool.and_eq_false_iff, Int.cast_ofNat_Int, Int.reduceAdd, Int.reduceSub, Int.reduceMul, Int.reduceEq, Int.reduceNe]
          exact ⟨hi1, i + 1, rfl, by omega, by omega⟩
        · exact absurd e2 h
      · rw [if_neg e2]
        generalize (if ofE [p] 200 = 0 then leastR (ofR [p] 200).toDI else zDi) = L
        have r15 : ∀ Q : Prop, (false = true → Q) := fun Q h => by cases h
        generalize ofE [q] 200 = x at e2
        rw [e1]
        simp only [go_sem, Nat.reduceEqDiff, Nat.reduceBEq, Nat.reduceAdd, Nat.reduceMul, Nat.reduceSub, Nat.reduceLeDiff, Nat.reduceLT, reduceIte, reduceCtorEq, Int.reduceToNat, Int.reduceLE, Int.reduceLT, Int.reduceNeg, Bool.not_not, and_self, Bool.and_eq_false_iff, Int.cast_ofNat_Int, Int.reduceAdd, Int.reduceSub, Int.reduceMul, Int.reduceEq, Int.reduceNe, e2]
        refine runR_callgf (by simp only [go_sem, Nat.reduceEqDiff, Nat.reduceBEq, Nat.reduceAdd, Nat.reduceMul, Nat.reduceSub, Nat.reduceLeDiff, Nat.reduceLT, reduceIte, reduceCtorEq, Int.reduceToNat, Int.reduceLE, Int.reduceLT, Int.reduceNeg, Bool.not_not, and_self, Bool.and_eq_false_iff, Int.cast_ofNat_Int, Int.reduceAdd, Int.reduceSub, Int.reduceMul, Int.reduceEq, Int.reduceNe]) (by simp only [go_sem, Nat.reduceEqDiff, Nat.reduceBEq, Nat.reduceAdd, Nat.reduceMul, Nat.reduceSub, Nat.reduceLeDiff, Nat.reduceLT, reduceIte, reduceCtorEq, Int.reduceToNat, Int.reduceLE, Int.reduceLT, Int.reduceNeg, Bool.not_not, and_self, Bool.and_eq_false_iff, Int.cast_ofNat_Int, Int.reduceAdd, Int.reduceSub, Int.reduceMul, Int.reduceEq, Int.reduceNe]) (by simp only [go_sem, Nat.reduceEqDiff, Nat.reduceBEq, Nat.reduceAdd, Nat.reduceMul, Nat.reduceSub, Nat.reduceLeDiff, Nat.reduceLT, reduceIte, reduceCtorEq, Int.reduceToNat, Int.reduceLE, Int.reduceLT, Int.reduceNeg, Bool.not_not, and_self, Bool.and_eq_false_iff, Int.cast_ofNat_Int, Int.reduceAdd, Int.reduceSub, Int.reduceMul, Int.reduceEq, Int.reduceNe] <;> rfl) (fun h => by cases h) (p := pB true) rfl ?_
        simp only [go_sem, Nat.reduceEqDiff, Nat.reduceBEq, Nat.reduceAdd, Nat.reduceMul, Nat.reduceSub, Nat.reduceLeDiff, Nat.reduceLT, reduceIte, reduceCtorEq, Int.reduceToNat, Int.reduceLE, Int.reduceLT, Int.reduceNeg, Bool.not_not, and_self, Bool.and_eq_false_iff, Int.cast_ofNat_Int, Int.reduceAdd, Int.reduceSub, Int.reduceMul, Int.reduceEq, Int.reduceNe]
        exact ⟨hi1, i + 1, rfl, by omega, by omega⟩
    · generalize (if ofE [p] 200 = 0 then leastR (ofR [p] 200).toDI else zDi) = L
      generalize (if ofE [q] 200 = 0 then leastR (ofR [q] 200).toDI else zDi) = M
      generalize ofE [p] 200 = x at e1
      generalize ofE [q] 200 = y
      simp only [go_sem, Nat.reduceEqDiff, Nat.reduceBEq, Nat.reduceAdd, Nat.reduceMul, Nat.reduceSub, Nat.reduceLeDiff, Nat.reduceLT, reduceIte, reduceCtorEq, Int.reduceToNat, Int.reduceLE, Int.reduceLT, Int.reduceNeg, Bool.not_not, and_self, Bool.and_eq_false_iff, Int.cast_ofNat_Int, Int.reduceAdd, Int.reduceSub, Int.reduceMul, Int.reduceEq, Int.reduceNe, e1]
      refine runR_callgf (by simp only [go_sem, Nat.reduceEqDiff, Nat.reduceBEq, Nat.reduceAdd, Nat.reduceMul, Nat.reduceSub, Nat.reduceLeDiff, Nat.reduceLT, reduceIte, reduceCtorEq, Int.reduceToNat, Int.reduceLE, Int.reduceLT, Int.reduceNeg, Bool.not_not, and_self, Bool.and_eq_false_iff, Int.cast_ofNat_Int, Int.reduceAdd, Int.reduceSub, Int.reduceMul, Int.reduceEq, Int.reduceNe]) (by simp only [go_sem, Nat.reduceEqDiff, Nat.reduceBEq, Nat.reduceAdd, Nat.reduceMul, Nat.reduceSub, Nat.reduceLeDiff, Nat.reduceLT, reduceIte, reduceCtorEq, Int.reduceToNat, Int.reduceLE, Int.reduceLT, Int.reduceNeg, Bool.not_not, and_self, Bool.and_eq_false_iff, Int.cast_ofNat_Int, Int.reduceAdd, Int.reduceSub, Int.reduceMul, Int.reduceEq, Int.reduceNe]) (by simp only [go_sem, Nat.reduceEqDiff, Nat.reduceBEq, Nat.reduceAdd, Nat.reduceMul, Nat.reduceSub, Nat.reduceLeDiff, Nat.reduceLT, reduceIte, reduceCtorEq, Int.reduceToNat, Int.reduceLE, Int.reduceLT, Int.reduceNeg, Bool.not_not, and_self, Bool.and_eq_false_iff, Int.cast_ofNat_Int, Int.reduceAdd, Int.reduceSub, Int.reduceMul, Int.reduceEq, Int.reduceNe] <;> rfl) (fun h => by cases h) (p := pB true) rfl ?_
      simp only [go_sem, Nat.reduceEqDiff, Nat.reduceBEq, Nat.reduceAdd, Nat.reduceMul, Nat.reduceSub, Nat.reduceLeDiff, Nat.reduceLT, reduceIte, reduceCtorEq, Int.reduceToNat, Int.reduceLE, Int.reduceLT, Int.reduceNeg, Bool.not_not, and_self, Bool.and_eq_false_iff, Int.cast_ofNat_Int, Int.reduceAdd, Int.reduceSub, Int.reduceMul, Int.reduceEq, Int.reduceNe]
      exact ⟨hi1, i + 1, rfl, by omega, by omega⟩
  · simp only [go_sem, Nat.reduceEqDiff, Nat.reduceBEq, Nat.reduceAdd, Nat.reduceMul, Nat.reduceSub, Nat.reduceLeDiff, Nat.reduceLT, reduceIte, reduceCtorEq, Int.reduceToNat, Int.reduceLE, Int.reduceLT, Int.reduceNeg, Bool.not_not, and_self, Bool.and_eq_false_iff, Int.cast_ofNat_Int, Int.reduceAdd, Int.reduceSub, Int.reduceMul, Int.reduceEq, Int.reduceNe, B4_0, R4_0, show ¬ (i : Int) < (PL.length : Int) by omega]
    refine runR_callf (by simp only [go_sem, Nat.reduceEqDiff, Nat.reduceBEq, Nat.reduceAdd, Nat.reduceMul, Nat.reduceSub, Nat.reduceLeDiff, Nat.reduceLT, reduceIte, reduceCtorEq, Int.reduceToNat, Int.reduceLE, Int.reduceLT, Int.reduceNeg, Bool.not_not, and_self, Bool.and_eq_false_iff, Int.cast_ofNat_Int, Int.reduceAdd, Int.reduceSub, Int.reduceMul, Int.reduceEq, Int.reduceNe]) (by simp only [go_sem, Nat.reduceEqDiff, Nat.reduceBEq, Nat.reduceAdd, Nat.reduceMul, Nat.reduceSub, Nat.reduceLeDiff, Nat.reduceLT, reduceIte, reduceCtorEq, Int.reduceToNat, Int.reduceLE, Int.reduceLT, Int.reduceNeg, Bool.not_not, and_self, Bool.and_eq_false_iff, Int.cast_ofNat_Int, Int.reduceAdd, Int.reduceSub, Int.reduceMul, Int.reduceEq, Int.reduceNe] <;> rfl) (fn20) ⟨rfl, trivial⟩ trivial ?_
    simp only [go_sem, Nat.reduceEqDiff, Nat.reduceBEq, Nat.reduceAdd, Nat.reduceMul, Nat.reduceSub, Nat.reduceLeDiff, Nat.reduceLT, reduceIte, reduceCtorEq, Int.reduceToNat, Int.reduceLE, Int.reduceLT, Int.reduceNeg, Bool.not_not, and_self, Bool.and_eq_false_iff, Int.cast_ofNat_Int, Int.reduceAdd, Int.reduceSub, Int.reduceMul, Int.reduceEq, Int.reduceNe]
end Go.Vc
