/- A part of the proofs of the seat YtjkldmepdenlfaaDoor: the contracts of functions, each proved out of its code. -/
import Derived.Test.YtjkldmepdenlfaaDoorMta
import Derived.Test.YtjkldmepdenlfaaDoorMte
import Derived.Test.YtjkldmepdenlfaaDoorVh
import Derived.Test.YtjkldmepdenlfaaDoorProg
namespace Go.Vc
set_option linter.unusedSimpArgs false
set_option linter.unusedVariables false

/-! ## What the least automaton is: just what is told behind words parts its states -/
structure DI.Wf (d : DI) : Prop where
  n0 : 0 < d.next.length
  rows : d.Rows
  width : ∀ i, i < d.next.length → (d.next.getD i []).length = d.signs.length + 1
def stI (d : DI) (s a : Nat) : Int := (d.next.getD s []).getD a (-1)
def outI (d : DI) : List Nat → Nat → List Int
  | [], s => d.done.getD s []
  | a :: w, s => if stI d s a = -1 then [] else outI d w (stI d s a).toNat
def outT (d : DI) (t : Int) (w : List Nat) : List Int := if t = -1 then [] else outI d w t.toNat
theorem outI_cons (d : DI) (a : Nat) (w : List Nat) (s : Nat) : outI d (a :: w) s = outT d (stI d s a) w := rfl
theorem getD_at {α : Type} {l : List α} {i : Nat} {d : α} (h : i < l.length) : l.getD i d = l[i] := by simp [List.getD_eq_getElem?_getD, h]
theorem getD_no {α : Type} {l : List α} {i : Nat} {d : α} (h : l.length ≤ i) : l.getD i d = d := by rw [List.getD_eq_getElem?_getD, List.getElem?_eq_none h]; rfl
theorem stI_in {d : DI} {s a : Nat} (h : stI d s a ≠ -1) : stI d s a ∈ d.next.getD s [] := by
  unfold stI at h ⊢
  by_cases ha : a < (d.next.getD s []).length
  · rw [getD_at ha]; exact List.getElem_mem ha
  · exact absurd (getD_no (by omega)) h
theorem stI_range {d : DI} (h : d.Wf) (s a : Nat) : -1 ≤ stI d s a ∧ stI d s a < (d.next.length : Int) := by
  by_cases hs : stI d s a = -1
  · rw [hs]; omega
  · exact h.rows s _ (stI_in hs)
theorem live_lt {d : DI} {k : Nat} (h : d.Live k) : k < d.next.length := by cases h <;> assumption
theorem live_out {d : DI} {s : Nat} (h : d.Live s) : ∃ w, outI d w s ≠ [] := by
  induction h with
  | done hi hd => exact ⟨[], hd⟩
  | @step i to hi hm hl ih =>
    obtain ⟨w, hw⟩ := ih
    obtain ⟨a, ha, he⟩ := List.getElem_of_mem hm
    refine ⟨a :: w, ?_⟩
    have : stI d i a = (to : Int) := by unfold stI; rw [getD_at ha, he]
    rw [outI_cons, outT, this, if_neg (by omega), Int.toNat_natCast]
    exact hw
theorem out_live {d : DI} (hd : d.Wf) : ∀ {w : List Nat} {s : Nat}, s < d.next.length → outI d w s ≠ [] → d.Live s
  | [], s, hs, h => .done hs h
  | a :: w, s, hs, h => by
    rw [outI_cons, outT] at h
    by_cases ht : stI d s a = -1
    · rw [if_pos ht] at h; exact absurd rfl h
    · rw [if_neg ht] at h
      have hr := stI_range hd s a
      have hl := out_live hd (by omega) h
      refine .step (to := (stI d s a).toNat) hs ?_ hl
      rw [show (((stI d s a).toNat : Nat) : Int) = stI d s a by omega]
      exact stI_in ht
theorem liveL_at {d : DI} {k : Nat} (h : k < d.next.length) : (liveL d).getD k false = true ↔ d.Live k := by
  unfold liveL
  rw [getD_at (by simpa using h)]
  simp
theorem dead_iff {d : DI} (hd : d.Wf) {t : Int} (h1 : -1 ≤ t) (h2 : t < (d.next.length : Int)) : dead (liveL d) t = true ↔ ∀ w, outT d t w = [] := by
  unfold dead
  rw [Bool.or_eq_true, decide_eq_true_eq]
  constructor
  · rintro (h | h) w
    · unfold outT; rw [if_pos h]
    · unfold outT
      split
      · rfl
      · rename_i hne
        apply Classical.byContradiction
        intro ho
        have hl := out_live hd (show t.toNat < d.next.length by omega) ho
        rw [(liveL_at (by omega)).2 hl] at h
        cases h
  · intro h
    by_cases ht : t = -1
    · exact .inl ht
    · right
      rw [Bool.not_eq_true', ← Bool.not_eq_true]
      intro hl
      obtain ⟨w, hw⟩ := live_out ((liveL_at (by omega)).1 hl)
      have := h w
      unfold outT at this
      rw [if_neg ht] at this
      exact hw this

/-! ### the classes -/
def Eqv (d e : DI) (s t : Nat) : Prop := ∀ w, outI d w s = outI e w t
def EqT (d e : DI) (s t : Int) : Prop := ∀ w, outT d s w = outT e t w
theorem Eqv.way {d e : DI} {s t : Nat} (h : Eqv d e s t) (a : Nat) : EqT d e (stI d s a) (stI e t a) := fun w => h (a :: w)
structure ClOk (d : DI) (cl : List Nat) : Prop where
  len : cl.length = d.next.length
  fine : ∀ i j, i < d.next.length → j < d.next.length → Eqv d d i j → cl.getD i 0 = cl.getD j 0
  done : ∀ i j, i < d.next.length → j < d.next.length → cl.getD i 0 = cl.getD j 0 → d.done.getD i [] = d.done.getD j []
theorem wayC_eqv {d : DI} (hd : d.Wf) {cl : List Nat} (hc : ClOk d cl) {s t : Int} (hs : -1 ≤ s ∧ s < (d.next.length : Int)) (ht : -1 ≤ t ∧ t < (d.next.length : Int)) (h : EqT d d s t) : wayC (liveL d) cl s = wayC (liveL d) cl t := by
  have hdd : dead (liveL d) s = true ↔ dead (liveL d) t = true := by
    rw [dead_iff hd hs.1 hs.2, dead_iff hd ht.1 ht.2]
    exact ⟨fun k w => by rw [← h w]; exact k w, fun k w => by rw [h w]; exact k w⟩
  unfold wayC
  by_cases hk : dead (liveL d) s = true
  · rw [if_pos hk, if_pos (hdd.1 hk)]
  · have hk2 : ¬ dead (liveL d) t = true := fun e => hk (hdd.2 e)
    rw [if_neg hk, if_neg hk2]
    have hs1 : s ≠ -1 := fun e => hk (by simp [dead, e])
    have ht1 : t ≠ -1 := fun e => hk2 (by simp [dead, e])
    have := hc.fine s.toNat t.toNat (by omega) (by omega) fun w => by
      have := h w
      unfold outT at this
      rw [if_neg hs1, if_neg ht1] at this
      exact this
    rw [this]
theorem keyC_eqv {d : DI} (hd : d.Wf) {cl : List Nat} (hc : ClOk d cl) {i j : Nat} (hi : i < d.next.length) (hj : j < d.next.length) (h : Eqv d d i j) : keyC d (liveL d) cl i = keyC d (liveL d) cl j := by
  unfold keyC
  rw [hc.fine i j hi hj h]
  congr 1
  refine List.ext_getElem (by rw [List.length_map, List.length_map, hd.width i hi, hd.width j hj]) fun a h1 h2 => ?_
  rw [List.getElem_map, List.getElem_map]
  rw [List.length_map] at h1 h2
  have e1 : (d.next.getD i [])[a] = stI d i a := by unfold stI; rw [getD_at h1]
  have e2 : (d.next.getD j [])[a] = stI d j a := by unfold stI; rw [getD_at h2]
  rw [e1, e2]
  exact wayC_eqv hd hc (stI_range hd _ _) (stI_range hd _ _) (h.way a)
theorem keysC_at {d : DI} {lv : List Bool} {cl : List Nat} {i : Nat} (h : i < d.next.length) : (keysC d lv cl)[i]'(by simp [keysC, h]) = keyC d lv cl i := by simp [keysC]
theorem ClOk.next {d : DI} (hd : d.Wf) {cl : List Nat} (hc : ClOk d cl) : ClOk d (clsOf (keysC d (liveL d) cl)) := by
  have hl : (keysC d (liveL d) cl).length = d.next.length := by simp [keysC]
  refine ⟨by rw [clsOf_len, hl], fun i j hi hj h => ?_, fun i j hi hj h => ?_⟩
  · rw [clsOf_eq (by omega) (by omega), keysC_at hi, keysC_at hj]
    exact keyC_eqv hd hc hi hj h
  · rw [clsOf_eq (by omega) (by omega), keysC_at hi, keysC_at hj] at h
    unfold keyC at h
    rw [List.cons.injEq] at h
    exact hc.done i j hi hj (by omega)
theorem ClOk.zero {d : DI} : ClOk d (clsOf (keys0 d)) := by
  have hl : (keys0 d).length = d.next.length := by simp [keys0]
  have hk : ∀ i (h : i < d.next.length), (keys0 d)[i]'(by omega) = d.done.getD i [] := fun i h => by simp [keys0]
  refine ⟨by rw [clsOf_len, hl], fun i j hi hj h => ?_, fun i j hi hj h => ?_⟩
  · rw [clsOf_eq (by omega) (by omega), hk i hi, hk j hj]
    exact h []
  · rw [clsOf_eq (by omega) (by omega), hk i hi, hk j hj] at h
    exact h
def Stable (d : DI) (cl : List Nat) : Prop := ∀ i j, i < d.next.length → j < d.next.length → cl.getD i 0 = cl.getD j 0 → keyC d (liveL d) cl i = keyC d (liveL d) cl j
theorem dd_inj {K J : Type} [DecidableEq K] [DecidableEq J] (f : K → J) {ks : List K} (h : (ddF ks).length ≤ (ddF (ks.map f)).length) {a b : K} (ha : a ∈ ks) (hb : b ∈ ks) (he : f a = f b) : a = b := by
  apply Classical.byContradiction
  intro hne
  have hbm : b ∈ ddF ks := ddF_mem.2 hb
  have := List.Nodup.length_le_of_subset (l₂ := ((ddF ks).erase b).map f) (ddF_nodup (ks.map f)) fun x hx => by
    obtain ⟨k, hk, rfl⟩ := List.mem_map.1 (ddF_mem.1 hx)
    by_cases hkb : k = b
    · subst hkb
      exact List.mem_map.2 ⟨a, (List.mem_erase_of_ne hne).2 (ddF_mem.2 ha), he⟩
    · exact List.mem_map.2 ⟨k, (List.mem_erase_of_ne hkb).2 (ddF_mem.2 hk), rfl⟩
  rw [List.length_map, List.length_erase_of_mem hbm] at this
  have := List.length_pos_of_mem hbm
  omega
theorem heads {d : DI} {lv : List Bool} {cl : List Nat} (h : cl.length = d.next.length) : (keysC d lv cl).map (fun k => (k.getD 0 0).toNat) = cl := by
  refine List.ext_getElem (by simp [keysC, h]) fun i h1 h2 => ?_
  simp [keysC, keyC, List.getD_eq_getElem?_getD, h2]
theorem stable_of {d : DI} {cl : List Nat} (hl : cl.length = d.next.length) (h : (ddF (keysC d (liveL d) cl)).length = (ddF cl).length) : Stable d cl := fun i j hi hj he => by
  have hkl : (keysC d (liveL d) cl).length = d.next.length := by simp [keysC]
  rw [← keysC_at (lv := liveL d) (cl := cl) hi, ← keysC_at (lv := liveL d) (cl := cl) hj]
  refine dd_inj (fun k : List Int => (k.getD 0 0).toNat) (by rw [heads hl]; omega) (List.getElem_mem _) (List.getElem_mem _) ?_
  rw [keysC_at hi, keysC_at hj]
  simp only [keyC, List.getD_cons_zero, Int.toNat_natCast]
  exact he
theorem dd_cls {K : Type} [DecidableEq K] (ks : List K) : (ddF (clsOf ks)).length = (ddF ks).length :=
  Nat.le_antisymm (ddF_map_le _ ks) (ddF_cls ks)
theorem goC_spec {d : DI} (hd : d.Wf) : ∀ {f : Nat} {cl : List Nat}, ClOk d cl → d.next.length < f + (ddF cl).length → ClOk d (goC d (liveL d) f cl (ddF cl).length) ∧ Stable d (goC d (liveL d) f cl (ddF cl).length)
  | 0, cl, hc, hf => by
    have := ddF_len cl
    rw [hc.len] at this
    omega
  | f + 1, cl, hc, hf => by
    rw [goC]
    split
    · rename_i h
      exact ⟨hc, stable_of hc.len h⟩
    · rename_i h
      have h1 := finer d (liveL d) hc.len
      rw [← dd_cls (keysC d (liveL d) cl)]
      exact goC_spec hd (hc.next hd) (by rw [dd_cls]; omega)
theorem classR_spec {d : DI} (hd : d.Wf) : ClOk d (classR d (liveL d)) ∧ Stable d (classR d (liveL d)) := by
  unfold classR
  rw [← dd_cls (keys0 d)]
  exact goC_spec hd ClOk.zero (by omega)
theorem way_pos {lv : List Bool} {cl : List Nat} {t : Int} (h : ¬ dead lv t = true) : wayC lv cl t = (cl.getD t.toNat 0 : Int) := by unfold wayC; rw [if_neg h]
/-- two states have one number just if they tell the same -/
theorem nerode {d : DI} (hd : d.Wf) {cl : List Nat} (hc : ClOk d cl) (hs : Stable d cl) {i j : Nat} (hi : i < d.next.length) (hj : j < d.next.length) : cl.getD i 0 = cl.getD j 0 ↔ Eqv d d i j := by
  refine ⟨fun h w => ?_, hc.fine i j hi hj⟩
  induction w generalizing i j with
  | nil => exact hc.done i j hi hj h
  | cons a w ih =>
    have hk := hs i j hi hj h
    unfold keyC at hk
    rw [List.cons.injEq] at hk
    have hw : wayC (liveL d) cl (stI d i a) = wayC (liveL d) cl (stI d j a) := by
      by_cases ha : a < d.signs.length + 1
      · have h1 : a < (d.next.getD i []).length := by rw [hd.width i hi]; exact ha
        have h2 : a < (d.next.getD j []).length := by rw [hd.width j hj]; exact ha
        have := congrArg (fun l : List Int => l[a]?) hk.2
        simp only [List.getElem?_map, List.getElem?_eq_getElem h1, List.getElem?_eq_getElem h2, Option.map_some, Option.some.injEq] at this
        unfold stI
        rw [getD_at h1, getD_at h2]
        exact this
      · unfold stI
        rw [getD_no (by rw [hd.width i hi]; omega), getD_no (by rw [hd.width j hj]; omega)]
    rw [outI_cons, outI_cons]
    have hri := stI_range hd i a
    have hrj := stI_range hd j a
    generalize stI d i a = s at hw hri
    generalize stI d j a = t at hw hrj
    by_cases h1 : dead (liveL d) s = true
    · have h2 : dead (liveL d) t = true := by
        apply Classical.byContradiction
        intro h2
        rw [way_pos h2] at hw
        unfold wayC at hw
        rw [if_pos h1] at hw
        omega
      rw [(dead_iff hd hri.1 hri.2).1 h1 w, (dead_iff hd hrj.1 hrj.2).1 h2 w]
    · have h2 : ¬ dead (liveL d) t = true := by
        intro h2
        rw [way_pos h1] at hw
        unfold wayC at hw
        rw [if_pos h2] at hw
        omega
      rw [way_pos h1, way_pos h2] at hw
      have hs1 : s ≠ -1 := fun e => h1 (by simp [dead, e])
      have ht1 : t ≠ -1 := fun e => h2 (by simp [dead, e])
      unfold outT
      rw [if_neg hs1, if_neg ht1]
      exact ih (by omega) (by omega) (by omega)
end Go.Vc

namespace Go.Vc
set_option linter.unusedSimpArgs false
set_option linter.unusedVariables false

/-! ## What tells the same has the same least one -/
/-- an automaton with its classes -/
structure Cls (d : DI) (cl : List Nat) : Prop where
  wf : d.Wf
  ok : ClOk d cl
  st : Stable d cl
theorem cls_of {d : DI} (h : d.Wf) : Cls d (classR d (liveL d)) := let ⟨h1, h2⟩ := classR_spec h; ⟨h, h1, h2⟩
theorem Cls.eq {d : DI} {cl : List Nat} (h : Cls d cl) {i j : Nat} (hi : i < d.next.length) (hj : j < d.next.length) : cl.getD i 0 = cl.getD j 0 ↔ Eqv d d i j := nerode h.wf h.ok h.st hi hj
structure RelF (d e : DI) (F G : List Nat) : Prop where
  len : F.length = G.length
  f : ∀ s ∈ F, s < d.next.length
  g : ∀ s ∈ G, s < e.next.length
  eqv : ∀ i, i < F.length → Eqv d e (F.getD i 0) (G.getD i 0)
theorem ixOf_congr : ∀ {A B : List Nat} {a b : Nat}, A.length = B.length → (∀ i, i < A.length → (A.getD i 0 = a ↔ B.getD i 0 = b)) → ixOf A a = ixOf B b
  | [], [], _, _, _, _ => rfl
  | [], b :: B, _, _, h, _ => by simp at h
  | a :: A, [], _, _, h, _ => by simp at h
  | x :: A, y :: B, a, b, hl, h => by
    rw [ixOf_cons, ixOf_cons]
    have h0 := h 0 (by simp)
    simp only [List.getD_cons_zero] at h0
    have ih := ixOf_congr (A := A) (B := B) (a := a) (b := b) (by simpa using hl) fun i hi => by simpa using h (i + 1) (by simpa using hi)
    by_cases hx : x = a
    · rw [if_pos hx, if_pos (h0.1 hx)]
    · rw [if_neg hx, if_neg fun k => hx (h0.2 k), ih]
theorem map_cl_at {cl F : List Nat} {i : Nat} (h : i < F.length) : (F.map fun s => cl.getD s 0).getD i 0 = cl.getD (F.getD i 0) 0 := by
  rw [getD_at (by simpa using h), getD_at h]; simp
theorem eqt_dead {d e : DI} (hd : d.Wf) (he : e.Wf) {t u : Int} (ht : -1 ≤ t ∧ t < (d.next.length : Int)) (hu : -1 ≤ u ∧ u < (e.next.length : Int)) (h : EqT d e t u) : dead (liveL d) t = true ↔ dead (liveL e) u = true := by
  rw [dead_iff hd ht.1 ht.2, dead_iff he hu.1 hu.2]
  exact ⟨fun k w => by rw [← h w]; exact k w, fun k w => by rw [h w]; exact k w⟩
theorem eqt_eqv {d e : DI} {t u : Int} (ht : t ≠ -1) (hu : u ≠ -1) (h : EqT d e t u) : Eqv d e t.toNat u.toNat := fun w => by
  have := h w
  unfold outT at this
  rwa [if_neg ht, if_neg hu] at this
theorem RelF.same {d e : DI} {cd ce F G : List Nat} (h : RelF d e F G) (hc : Cls d cd) (he : Cls e ce) {t u : Nat} (ht : t < d.next.length) (hu : u < e.next.length) (htu : Eqv d e t u) :
    ∀ i, i < F.length → (cd.getD (F.getD i 0) 0 = cd.getD t 0 ↔ ce.getD (G.getD i 0) 0 = ce.getD u 0) := fun i hi => by
  have hf := h.f (F.getD i 0) (by rw [getD_at hi]; exact List.getElem_mem hi)
  have hg := h.g (G.getD i 0) (by rw [getD_at (by rw [← h.len]; exact hi)]; exact List.getElem_mem _)
  have hq := h.eqv i hi
  rw [hc.eq hf ht, he.eq hg hu]
  exact ⟨fun k w => by rw [← hq w, k w, htu w], fun k w => by rw [hq w, k w, htu w]⟩
theorem mem_map_iff {cl F : List Nat} {c : Nat} : (c ∈ F.map fun s => cl.getD s 0) ↔ ∃ i, i < F.length ∧ cl.getD (F.getD i 0) 0 = c := by
  constructor
  · intro h
    obtain ⟨s, hs, rfl⟩ := List.mem_map.1 h
    obtain ⟨i, hi, rfl⟩ := List.getElem_of_mem hs
    exact ⟨i, hi, by rw [getD_at hi]⟩
  · rintro ⟨i, hi, rfl⟩
    exact List.mem_map.2 ⟨F.getD i 0, by rw [getD_at hi]; exact List.getElem_mem hi, rfl⟩
theorem RelF.step {d e : DI} {cd ce F G : List Nat} (h : RelF d e F G) (hc : Cls d cd) (he : Cls e ce) {t u : Int} (ht : -1 ≤ t ∧ t < (d.next.length : Int)) (hu : -1 ≤ u ∧ u < (e.next.length : Int)) (htu : EqT d e t u) :
    RelF d e (stepF (liveL d) cd F t) (stepF (liveL e) ce G u) ∧ numF (liveL d) cd F t = numF (liveL e) ce G u := by
  have hdd := eqt_dead hc.wf he.wf ht hu htu
  unfold stepF numF
  by_cases h1 : dead (liveL d) t = true
  · rw [if_pos h1, if_pos (hdd.1 h1), if_pos h1, if_pos (hdd.1 h1)]
    exact ⟨h, rfl⟩
  · have h2 : ¬ dead (liveL e) u = true := fun k => h1 (hdd.2 k)
    have ht1 : t ≠ -1 := fun k => h1 (by simp [dead, k])
    have hu1 : u ≠ -1 := fun k => h2 (by simp [dead, k])
    have hq := eqt_eqv ht1 hu1 htu
    have hs := h.same hc he (show t.toNat < d.next.length by omega) (show u.toNat < e.next.length by omega) hq
    rw [if_neg h1, if_neg h2, if_neg h1, if_neg h2]
    have hmem : (cd.getD t.toNat 0 ∈ F.map fun s => cd.getD s 0) ↔ (ce.getD u.toNat 0 ∈ G.map fun s => ce.getD s 0) := by
      rw [mem_map_iff, mem_map_iff]
      exact ⟨fun ⟨i, hi, k⟩ => ⟨i, by rw [← h.len]; exact hi, (hs i hi).1 k⟩, fun ⟨i, hi, k⟩ => ⟨i, by rw [h.len]; exact hi, (hs i (by rw [h.len]; exact hi)).2 k⟩⟩
    refine ⟨?_, ?_⟩
    · by_cases hm : cd.getD t.toNat 0 ∈ F.map fun s => cd.getD s 0
      · rw [if_pos hm, if_pos (hmem.1 hm)]; exact h
      · rw [if_neg hm, if_neg fun k => hm (hmem.2 k)]
        refine ⟨by simp [h.len], fun s hs => ?_, fun s hs => ?_, fun i hi => ?_⟩
        · rcases List.mem_append.1 hs with hs | hs
          · exact h.f s hs
          · rw [List.mem_singleton] at hs; omega
        · rcases List.mem_append.1 hs with hs | hs
          · exact h.g s hs
          · rw [List.mem_singleton] at hs; omega
        · rw [List.length_append, List.length_singleton] at hi
          by_cases hil : i < F.length
          · have e1 : (F ++ [t.toNat]).getD i 0 = F.getD i 0 := by simp [List.getD_eq_getElem?_getD, List.getElem?_append_left hil]
            have e2 : (G ++ [u.toNat]).getD i 0 = G.getD i 0 := by simp [List.getD_eq_getElem?_getD, List.getElem?_append_left (show i < G.length by rw [← h.len]; exact hil)]
            rw [e1, e2]; exact h.eqv i hil
          · obtain rfl : i = F.length := by omega
            have e1 : (F ++ [t.toNat]).getD F.length 0 = t.toNat := by simp [List.getD_eq_getElem?_getD]
            have e2 : (G ++ [u.toNat]).getD F.length 0 = u.toNat := by rw [h.len]; simp [List.getD_eq_getElem?_getD]
            rw [e1, e2]; exact hq
    · congr 1
      exact ixOf_congr (by simp [h.len]) fun i hi => by
        rw [List.length_map] at hi
        rw [map_cl_at hi, map_cl_at (by rw [← h.len]; exact hi)]
        exact hs i hi
theorem row_eq {d : DI} {s a : Nat} (h : a < (d.next.getD s []).length) : (d.next.getD s []).getD a 0 = stI d s a := by unfold stI; rw [getD_at h, getD_at h]
theorem RelF.row {d e : DI} {cd ce F G : List Nat} (h : RelF d e F G) (hc : Cls d cd) (he : Cls e ce) (hsg : d.signs = e.signs) {s t : Nat} (hs : s < d.next.length) (ht : t < e.next.length) (hst : Eqv d e s t) :
    ∀ {a : Nat}, a ≤ d.signs.length + 1 → RelF d e (rowF (liveL d) cd F (d.next.getD s []) a) (rowF (liveL e) ce G (e.next.getD t []) a) ∧ rowW (liveL d) cd F (d.next.getD s []) a = rowW (liveL e) ce G (e.next.getD t []) a
  | 0, _ => ⟨h, rfl⟩
  | a + 1, ha => by
    obtain ⟨h1, h2⟩ := h.row hc he hsg hs ht hst (a := a) (by omega)
    have hl1 := hc.wf.width s hs
    have hl2 := he.wf.width t ht
    rw [← hsg] at hl2
    have e1 := row_eq (d := d) (s := s) (a := a) (by omega)
    have e2 := row_eq (d := e) (s := t) (a := a) (by omega)
    simp only [rowF, rowW]
    rw [e1, e2, h2]
    obtain ⟨k1, k2⟩ := h1.step hc he (stI_range hc.wf s a) (stI_range he.wf t a) (hst.way a)
    exact ⟨k1, by rw [k2]⟩
theorem RelF.at {d e : DI} {F G : List Nat} (h : RelF d e F G) (hd : d.Wf) (he : e.Wf) (h0 : Eqv d e 0 0) (i : Nat) : F.getD i 0 < d.next.length ∧ G.getD i 0 < e.next.length ∧ Eqv d e (F.getD i 0) (G.getD i 0) := by
  by_cases hi : i < F.length
  · refine ⟨h.f _ ?_, h.g _ ?_, h.eqv i hi⟩
    · rw [getD_at hi]; exact List.getElem_mem hi
    · rw [getD_at (by rw [← h.len]; exact hi)]; exact List.getElem_mem _
  · rw [getD_no (by omega), getD_no (by rw [← h.len]; omega)]
    exact ⟨hd.n0, he.n0, h0⟩
theorem relF {d e : DI} {cd ce : List Nat} (hc : Cls d cd) (he : Cls e ce) (hsg : d.signs = e.signs) (h0 : Eqv d e 0 0) : ∀ i, RelF d e (firstL d (liveL d) cd i) (firstL e (liveL e) ce i)
  | 0 => ⟨rfl, by simp [firstL]; exact hc.wf.n0, by simp [firstL]; exact he.wf.n0, fun i hi => by
    simp only [firstL, List.length_singleton] at hi
    obtain rfl : i = 0 := by omega
    exact h0⟩
  | i + 1 => by
    have ih := relF hc he hsg h0 i
    obtain ⟨g1, g2, g3⟩ := ih.at hc.wf he.wf h0 i
    simp only [firstL]
    rw [hc.wf.width _ g1, he.wf.width _ g2, ← hsg]
    exact (ih.row hc he hsg g1 g2 g3 (Nat.le_refl _)).1
theorem endF_first {d : DI} {lv : List Bool} {cl : List Nat} {k : Nat} (h1 : (firstL d lv cl k).length ≤ k) (h2 : ∀ j, j < k → j < (firstL d lv cl j).length) : ∀ {f i : Nat}, i ≤ k → k ≤ f + i → endF d lv cl f i = k
  | 0, i, hi, hk => by simp only [endF]; omega
  | f + 1, i, hi, hk => by
    simp only [endF]
    by_cases he : i = k
    · subst he; rw [if_pos h1]
    · rw [if_neg (by have := h2 i (by omega); omega)]
      exact endF_first h1 h2 (by omega) (by omega)
theorem endF_min {d : DI} {lv : List Bool} {cl : List Nat} : ∀ {f i : Nat}, (∀ j, j < i → j < (firstL d lv cl j).length) → ∀ j, j < endF d lv cl f i → j < (firstL d lv cl j).length
  | 0, i, h, j, hj => h j hj
  | f + 1, i, h, j, hj => by
    simp only [endF] at hj
    split at hj
    · exact h j hj
    · refine endF_min (f := f) (i := i + 1) (fun q hq => ?_) j hj
      by_cases hqi : q = i
      · subst hqi; omega
      · exact h q (by omega)
theorem leastK_spec {d : DI} (hd : d.Wf) (lv : List Bool) (cl : List Nat) : (firstL d lv cl (leastK d lv cl)).length ≤ leastK d lv cl ∧ (∀ j, j < leastK d lv cl → j < (firstL d lv cl j).length) ∧ leastK d lv cl ≤ d.next.length := by
  have hb : ∀ j, (firstL d lv cl j).length ≤ d.next.length := fun j => (firstOk hd.rows hd.n0 j).len
  have h1 : (firstL d lv cl (leastK d lv cl)).length ≤ leastK d lv cl := endF_at d lv cl (by omega) hb
  have h2 : ∀ j, j < leastK d lv cl → j < (firstL d lv cl j).length := endF_min (fun j hj => by omega)
  refine ⟨h1, h2, ?_⟩
  rcases Nat.eq_zero_or_pos (leastK d lv cl) with h | h
  · omega
  · have := h2 (leastK d lv cl - 1) (by omega)
    have := hb (leastK d lv cl - 1)
    omega
/-- WHAT TELLS THE SAME HAS THE SAME LEAST ONE -/
theorem least_eq {d e : DI} (hd : d.Wf) (he : e.Wf) (hsg : d.signs = e.signs) (h0 : Eqv d e 0 0) : leastR d = leastR e := by
  have hc := cls_of hd
  have hce := cls_of he
  unfold leastR leastOf
  generalize classR d (liveL d) = cd at hc
  generalize classR e (liveL e) = ce at hce
  have hr := relF hc hce hsg h0
  obtain ⟨k1, k2, k3⟩ := leastK_spec hd (liveL d) cd
  have hK : leastK e (liveL e) ce = leastK d (liveL d) cd := by
    unfold leastK at k1 k2 k3 ⊢
    generalize endF d (liveL d) cd (d.next.length + 1) 0 = k at k1 k2 k3
    refine endF_first (by rw [← (hr k).len]; exact k1) (fun j hj => by rw [← (hr j).len]; exact k2 j hj) (Nat.zero_le _) ?_
    rcases Nat.eq_zero_or_pos k with h | h
    · omega
    · have h3 := k2 (k - 1) (by omega)
      rw [(hr (k - 1)).len] at h3
      have h4 : (firstL e (liveL e) ce (k - 1)).length ≤ e.next.length := (firstOk he.rows he.n0 (k - 1)).len
      omega
  rw [hK]
  unfold leastC
  rw [hsg]
  congr 1
  · refine List.map_congr_left fun i _ => ?_
    obtain ⟨g1, g2, g3⟩ := (hr i).at hd he h0 i
    unfold waysF
    rw [hd.width _ g1, he.width _ g2, ← hsg]
    exact ((hr i).row hc hce hsg g1 g2 g3 (Nat.le_refl _)).2
  · refine List.map_congr_left fun i _ => ?_
    obtain ⟨g1, g2, g3⟩ := (hr i).at hd he h0 i
    exact g3 []
end Go.Vc

namespace Go.Vc
set_option linter.unusedSimpArgs false
set_option linter.unusedVariables false

/-! ## The least one tells the same -/
theorem pre_trans {d : DI} {lv : List Bool} {cl : List Nat} : ∀ {i j : Nat}, i ≤ j → firstL d lv cl i <+: firstL d lv cl j
  | i, 0, h => by
    obtain rfl : i = 0 := by omega
    exact List.prefix_refl _
  | i, j + 1, h => by
    rcases Nat.lt_or_ge i (j + 1) with h1 | h1
    · exact (pre_trans (show i ≤ j by omega)).trans (firstL_pre d lv cl j)
    · obtain rfl : i = j + 1 := by omega
      exact List.prefix_refl _
theorem pre_getD {A B : List Nat} (h : A <+: B) {i : Nat} (hi : i < A.length) : B.getD i 0 = A.getD i 0 := by
  obtain ⟨X, rfl⟩ := h
  simp [List.getD_eq_getElem?_getD, List.getElem?_append_left hi]
structure Lst (d : DI) (cl : List Nat) (k : Nat) : Prop where
  c : Cls d cl
  len : (firstL d (liveL d) cl k).length = k
  pos : 0 < k
  le : k ≤ d.next.length
  row : ∀ j, j < k → j < (firstL d (liveL d) cl j).length
theorem lst_of {d : DI} {cl : List Nat} (h : Cls d cl) : Lst d cl (leastK d (liveL d) cl) := by
  obtain ⟨k1, k2, k3⟩ := leastK_spec h.wf (liveL d) cl
  generalize leastK d (liveL d) cl = k at k1 k2 k3
  have hp : 0 < k := by
    rcases Nat.eq_zero_or_pos k with h0 | h0
    · subst h0; simp [firstL] at k1
    · exact h0
  refine ⟨h, ?_, hp, k3, k2⟩
  have h1 := k2 (k - 1) (by omega)
  have h2 := (pre_trans (d := d) (lv := liveL d) (cl := cl) (show k - 1 ≤ k by omega)).length_le
  omega
noncomputable abbrev fst (d : DI) (cl : List Nat) (k i : Nat) : Nat := (firstL d (liveL d) cl k).getD i 0
theorem Lst.at {d : DI} {cl : List Nat} {k i : Nat} (h : Lst d cl k) (hi : i < k) : (firstL d (liveL d) cl i).getD i 0 = fst d cl k i :=
  (pre_getD (pre_trans (by omega)) (h.row i hi)).symm
theorem Lst.lt {d : DI} {cl : List Nat} {k i : Nat} (h : Lst d cl k) (hi : i < k) : fst d cl k i < d.next.length :=
  (firstOk h.c.wf.rows h.c.wf.n0 k).lt _ (by unfold fst; rw [getD_at (by rw [h.len]; exact hi)]; exact List.getElem_mem _)
theorem ixOf_pre {A B : List Nat} (h : A <+: B) {c : Nat} (hc : c ∈ A) : ixOf B c = ixOf A c := by
  obtain ⟨X, rfl⟩ := h
  exact ixOf_app hc
theorem num_final {lv : List Bool} {cl G F : List Nat} {t : Int} (h : stepF lv cl G t <+: F) (hd : ¬ dead lv t = true) : cl.getD t.toNat 0 ∈ F.map (fun s => cl.getD s 0) ∧ numF lv cl G t = (ixOf (F.map fun s => cl.getD s 0) (cl.getD t.toNat 0) : Int) := by
  unfold stepF at h
  unfold numF
  rw [if_neg hd] at h ⊢
  by_cases hm : cl.getD t.toNat 0 ∈ G.map fun s => cl.getD s 0
  · rw [if_pos hm] at h
    have hp : (G.map fun s => cl.getD s 0) <+: (F.map fun s => cl.getD s 0) := by
      obtain ⟨X, rfl⟩ := h
      exact ⟨X.map fun s => cl.getD s 0, by rw [List.map_append]⟩
    exact ⟨hp.subset hm, by rw [ixOf_pre hp hm]⟩
  · rw [if_neg hm] at h
    have hp : (G.map fun s => cl.getD s 0) ++ [cl.getD t.toNat 0] <+: (F.map fun s => cl.getD s 0) := by
      obtain ⟨X, rfl⟩ := h
      exact ⟨X.map fun s => cl.getD s 0, by simp⟩
    exact ⟨hp.subset (by simp), by rw [ixOf_pre hp (by simp), ixOf_new hm, ixOf_out hm]⟩
noncomputable abbrev lstC (d : DI) (cl : List Nat) (k : Nat) : DI := leastC d (liveL d) cl k
theorem lst_next {d : DI} {cl : List Nat} {k i : Nat} (hi : i < k) : (lstC d cl k).next.getD i [] = waysF d (liveL d) cl i := by
  show ((List.range k).map _).getD i [] = _
  rw [getD_at (by simpa using hi)]; simp
theorem lst_done {d : DI} {cl : List Nat} {k i : Nat} (h : Lst d cl k) (hi : i < k) : (lstC d cl k).done.getD i [] = d.done.getD (fst d cl k i) [] := by
  show ((List.range k).map _).getD i [] = _
  rw [getD_at (by simpa using hi)]
  simp only [List.getElem_map, List.getElem_range]
  rw [h.at hi]
theorem rowF_pre2 {lv : List Bool} {cl first : List Nat} {row : List Int} : ∀ {a b : Nat}, a ≤ b → rowF lv cl first row a <+: rowF lv cl first row b
  | a, 0, h => by
    obtain rfl : a = 0 := by omega
    exact List.prefix_refl _
  | a, b + 1, h => by
    rcases Nat.lt_or_ge a (b + 1) with h1 | h1
    · exact (rowF_pre2 (show a ≤ b by omega)).trans stepF_pre
    · obtain rfl : a = b + 1 := by omega
      exact List.prefix_refl _
theorem rowW_at {lv : List Bool} {cl first : List Nat} {row : List Int} : ∀ {b a : Nat}, a < b → (rowW lv cl first row b).getD a (-1) = numF lv cl (rowF lv cl first row a) (row.getD a 0)
  | b + 1, a, h => by
    simp only [rowW]
    rcases Nat.lt_or_ge a b with h1 | h1
    · rw [List.getD_eq_getElem?_getD, List.getElem?_append_left (by rw [rowW_len]; exact h1), ← List.getD_eq_getElem?_getD]
      exact rowW_at h1
    · obtain rfl : a = b := by omega
      simp [List.getD_eq_getElem?_getD, rowW_len]
/-- the ways of the least one -/
theorem lst_way {d : DI} {cl : List Nat} {k i a : Nat} (h : Lst d cl k) (hi : i < k) (ha : a < d.signs.length + 1) :
    stI (lstC d cl k) i a = numF (liveL d) cl (rowF (liveL d) cl (firstL d (liveL d) cl i) (d.next.getD (fst d cl k i) []) a) (stI d (fst d cl k i) a) ∧
    stepF (liveL d) cl (rowF (liveL d) cl (firstL d (liveL d) cl i) (d.next.getD (fst d cl k i) []) a) (stI d (fst d cl k i) a) <+: firstL d (liveL d) cl k := by
  have hw := h.c.wf.width _ (h.lt hi)
  have hra := row_eq (d := d) (s := fst d cl k i) (a := a) (by omega)
  constructor
  · unfold stI
    rw [lst_next hi]
    unfold waysF
    rw [h.at hi, rowW_at (by omega), hra]; rfl
  · have e : firstL d (liveL d) cl (i + 1) = rowF (liveL d) cl (firstL d (liveL d) cl i) (d.next.getD (fst d cl k i) []) (d.next.getD (fst d cl k i) []).length := by
      simp only [firstL]; rw [h.at hi]
    have h1 : firstL d (liveL d) cl (i + 1) <+: firstL d (liveL d) cl k := pre_trans (by omega)
    rw [e] at h1
    have h2 := (rowF_pre2 (lv := liveL d) (cl := cl) (first := firstL d (liveL d) cl i) (row := d.next.getD (fst d cl k i) []) (show a + 1 ≤ (d.next.getD (fst d cl k i) []).length by omega)).trans h1
    rw [rowF, hra] at h2
    exact h2
theorem lst_out {d : DI} {cl : List Nat} {k : Nat} (h : Lst d cl k) : ∀ (w : List Nat) (i : Nat), i < k → outI (lstC d cl k) w i = outI d w (fst d cl k i)
  | [], i, hi => lst_done h hi
  | a :: w, i, hi => by
    have hlt := h.lt hi
    have hw := h.c.wf.width _ hlt
    by_cases ha : a < d.signs.length + 1
    · obtain ⟨h1, h2⟩ := lst_way h hi ha
      have hr := stI_range h.c.wf (fst d cl k i) a
      rw [outI_cons, outI_cons, h1]
      generalize rowF (liveL d) cl (firstL d (liveL d) cl i) (d.next.getD (fst d cl k i) []) a = G at h1 h2
      generalize stI d (fst d cl k i) a = t at h1 h2 hr
      by_cases hd : dead (liveL d) t = true
      · rw [(dead_iff h.c.wf hr.1 hr.2).1 hd w]
        unfold outT numF
        rw [if_pos hd, if_pos rfl]
      · obtain ⟨g1, g2⟩ := num_final h2 hd
        have ht1 : t ≠ -1 := fun e => hd (by simp [dead, e])
        have hj := ixOf_lt g1
        have hget : ((firstL d (liveL d) cl k).map fun s => cl.getD s 0).getD (ixOf ((firstL d (liveL d) cl k).map fun s => cl.getD s 0) (cl.getD t.toNat 0)) 0 = cl.getD t.toNat 0 := (getD_at hj).trans (ixOf_get g1)
        rw [List.length_map, h.len] at hj
        rw [g2]
        generalize hje : ixOf ((firstL d (liveL d) cl k).map fun s => cl.getD s 0) (cl.getD t.toNat 0) = j at hj hget
        have hcl : cl.getD (fst d cl k j) 0 = cl.getD t.toNat 0 := by
          rw [map_cl_at (by rw [h.len]; exact hj)] at hget
          exact hget
        have hq := (h.c.eq (h.lt hj) (show t.toNat < d.next.length by omega)).1 hcl
        unfold outT
        rw [if_neg (by omega), if_neg ht1, Int.toNat_natCast, lst_out h w j hj]
        exact hq w
    · rw [outI_cons, outI_cons]
      have e1 : stI d (fst d cl k i) a = -1 := by unfold stI; rw [getD_no (by omega)]
      have e2 : stI (lstC d cl k) i a = -1 := by
        unfold stI
        rw [lst_next hi]
        unfold waysF
        rw [h.at hi, getD_no (by rw [rowW_len]; omega)]
      rw [e1, e2]; rfl
theorem fst_zero {d : DI} {cl : List Nat} {k : Nat} (h : Lst d cl k) : fst d cl k 0 = 0 := by
  rw [← h.at h.pos]; simp [firstL]
theorem lst_len (d : DI) (cl : List Nat) (k : Nat) : (lstC d cl k).next.length = k := by show ((List.range k).map _).length = k; simp
theorem lst_wf {d : DI} {cl : List Nat} {k : Nat} (h : Lst d cl k) : (lstC d cl k).Wf := by
  refine ⟨by rw [lst_len]; exact h.pos, fun i t ht => ?_, fun i hi => ?_⟩
  · rw [lst_len]
    by_cases hi : i < k
    · obtain ⟨a, ha, he⟩ := List.getElem_of_mem ht
      have hal := ha
      rw [lst_next hi] at hal
      unfold waysF at hal
      rw [rowW_len, h.at hi, h.c.wf.width _ (h.lt hi)] at hal
      obtain ⟨h1, h2⟩ := lst_way h hi hal
      have e : stI (lstC d cl k) i a = t := by unfold stI; rw [getD_at ha, he]
      rw [e] at h1
      rw [h1]
      by_cases hd : dead (liveL d) (stI d (fst d cl k i) a) = true
      · unfold numF; rw [if_pos hd]; have := h.pos; omega
      · obtain ⟨g1, g2⟩ := num_final h2 hd
        have hj := ixOf_lt g1
        rw [List.length_map, h.len] at hj
        rw [g2]; omega
    · rw [getD_no (by rw [lst_len]; omega)] at ht; cases ht
  · rw [lst_len] at hi
    rw [lst_next hi]
    unfold waysF
    rw [rowW_len, h.at hi, h.c.wf.width _ (h.lt hi)]
    rfl
/-- THE LEAST ONE TELLS THE SAME -/
theorem least_out {d : DI} (hd : d.Wf) : (leastR d).Wf ∧ (leastR d).signs = d.signs ∧ Eqv (leastR d) d 0 0 ∧ (leastR d).next.length ≤ d.next.length := by
  have h := lst_of (cls_of hd)
  refine ⟨lst_wf h, rfl, fun w => ?_, ?_⟩
  · have := lst_out h w 0 h.pos
    rw [fst_zero h] at this
    exact this
  · show (lstC d (classR d (liveL d)) _).next.length ≤ _
    rw [lst_len]; exact h.le
theorem least_least {d : DI} (hd : d.Wf) : leastR (leastR d) = leastR d := by
  obtain ⟨h1, h2, h3, _⟩ := least_out hd
  exact least_eq h1 hd h2 h3
end Go.Vc

namespace Go.Vc
open Go.Proofs
set_option linter.unusedSimpArgs false
set_option linter.unusedVariables false

/-! ## The least one may be -/
theorem wf_may {d : DI} (hm : mayB d = true) : d.Wf := by
  unfold mayB at hm
  simp only [Bool.and_eq_true, decide_eq_true_eq, List.all_eq_true, List.mem_range] at hm
  obtain ⟨h1, h2, h3, h4⟩ := hm
  refine ⟨by omega, fun i t ht => ?_, fun i hi => ?_⟩
  · by_cases hi : i < d.next.length
    · have := h4 i hi
      unfold okRow at this
      simp only [Bool.and_eq_true, decide_eq_true_eq, List.all_eq_true] at this
      exact this.2.1 t ht
    · rw [getD_no (by omega)] at ht; cases ht
  · have := h4 i hi
    unfold okRow at this
    simp only [Bool.and_eq_true, decide_eq_true_eq] at this
    exact this.1
structure MayP (d : DI) : Prop where
  n0 : d.next.length ≠ 0
  done : d.done.length = d.next.length
  ris : risS d.signs = true
  row : ∀ i, i < d.next.length → okRow d i = true
theorem may_iff {d : DI} : mayB d = true ↔ MayP d := by
  unfold mayB
  simp only [Bool.and_eq_true, decide_eq_true_eq, List.all_eq_true, List.mem_range]
  exact ⟨fun ⟨a, b, c, e⟩ => ⟨a, b, c, e⟩, fun h => ⟨h.n0, h.done, h.ris, h.row⟩⟩
theorem okRow_iff {d : DI} {i : Nat} : okRow d i = true ↔ (d.next.getD i []).length = d.signs.length + 1 ∧ (∀ t ∈ d.next.getD i [], -1 ≤ t ∧ t < (d.next.length : Int)) ∧ risI (d.done.getD i []) = true ∧ ((d.done.getD i []).length = 0 ∨ 0 ≤ (d.done.getD i []).getD 0 0) := by
  unfold okRow
  simp only [Bool.and_eq_true, decide_eq_true_eq, List.all_eq_true, Bool.or_eq_true]
theorem may_least {d : DI} (hm : mayB d = true) : mayB (leastR d) = true := by
  have hd := wf_may hm
  have hp := may_iff.1 hm
  have h := lst_of (cls_of hd)
  obtain ⟨w, hs, _, _⟩ := least_out hd
  have hln : (leastR d).next.length = leastK d (liveL d) (classR d (liveL d)) := lst_len _ _ _
  refine may_iff.2 ⟨by have := w.n0; omega, ?_, by rw [hs]; exact hp.ris, fun i hi => okRow_iff.2 ⟨w.width i hi, w.rows i, ?_⟩⟩
  · rw [hln]
    show ((List.range _).map _).length = _
    simp
  · rw [hln] at hi
    rw [show (leastR d).done.getD i [] = d.done.getD (fst d (classR d (liveL d)) (leastK d (liveL d) (classR d (liveL d))) i) [] from lst_done h hi]
    exact (okRow_iff.1 (hp.row _ (h.lt hi))).2.2
end Go.Vc

namespace Go.Vc
set_option linter.unusedSimpArgs false
set_option linter.unusedVariables false

/-! ## An automaton whose states but the first have other numbers (plain) -/
theorem mod_cancel {m t a b : Nat} (ha : a < m) (hb : b < m) (h : (a + t) % m = (b + t) % m) : a = b := by
  have hm : 0 < m := by omega
  have hr := Nat.mod_lt t hm
  have e : ∀ x, x < m → (x + t) % m = if x + t % m < m then x + t % m else x + t % m - m := fun x hx => by
    rw [Nat.add_mod, Nat.mod_eq_of_lt hx]
    split
    · rename_i h; exact Nat.mod_eq_of_lt h
    · rename_i h
      rw [Nat.mod_eq_sub_mod (by omega), Nat.mod_eq_of_lt (by omega)]
  rw [e a ha, e b hb] at h
  split at h <;> split at h <;> omega
def sgF (n t i : Nat) : Nat := if i = 0 then 0 else 1 + (i - 1 + t) % (n - 1)
theorem sgF_lt {n t i : Nat} (hn : 3 ≤ n) : sgF n t i < n := by
  unfold sgF
  split
  · omega
  · have := Nat.mod_lt (i - 1 + t) (show 0 < n - 1 by omega)
    omega
theorem sgF_inj {n t i j : Nat} (hn : 3 ≤ n) (hi : i < n) (hj : j < n) (h : sgF n t i = sgF n t j) : i = j := by
  unfold sgF at h
  by_cases h1 : i = 0
  · by_cases h2 : j = 0
    · omega
    · rw [if_pos h1, if_neg h2] at h; omega
  · by_cases h2 : j = 0
    · rw [if_neg h1, if_pos h2] at h; omega
    · rw [if_neg h1, if_neg h2] at h
      have := mod_cancel (m := n - 1) (t := t) (a := i - 1) (b := j - 1) (by omega) (by omega) (by omega)
      omega
def toF (n t : Nat) (x : Int) : Int := if x ≤ 0 then x else 1 + (x - 1 + t) % ((n : Int) - 1)
theorem toF_nat {n t i : Nat} (hn : 3 ≤ n) : toF n t (i : Int) = (sgF n t i : Int) := by
  unfold toF sgF
  by_cases h : i = 0
  · subst h; simp
  · rw [if_neg (by omega), if_neg h]
    have : ((i : Int) - 1 + t) % ((n : Int) - 1) = ((((i - 1 + t) % (n - 1) : Nat)) : Int) := by
      rw [Int.natCast_emod]
      congr 1 <;> omega
    rw [this]; omega
theorem toF_m1 {n t : Nat} : toF n t (-1) = -1 := by unfold toF; rw [if_pos (by omega)]
/-- a list whose places are laid one by one -/
def layF {α : Type} (n : Nat) (z : α) (σ : Nat → Nat) (v : Nat → α) : Nat → List α
  | 0 => List.replicate n z
  | k + 1 => (layF n z σ v k).set (σ k) (v k)
theorem layF_len {α : Type} {n : Nat} {z : α} {σ : Nat → Nat} {v : Nat → α} : ∀ {k : Nat}, (layF n z σ v k).length = n
  | 0 => by simp [layF]
  | k + 1 => by simp [layF, layF_len (k := k)]
theorem layF_at {α : Type} {n : Nat} {z d : α} {σ : Nat → Nat} {v : Nat → α} (hs : ∀ i, i < n → σ i < n) (hi : ∀ i j, i < n → j < n → σ i = σ j → i = j) : ∀ {k i : Nat}, k ≤ n → i < k → (layF n z σ v k).getD (σ i) d = v i
  | k + 1, i, hk, hik => by
    simp only [layF]
    have hl : σ i < ((layF n z σ v k).set (σ k) (v k)).length := by rw [List.length_set, layF_len]; exact hs i (by omega)
    have e : ((layF n z σ v k).set (σ k) (v k)).getD (σ i) d = ((layF n z σ v k).set (σ k) (v k))[σ i] := getD_at hl
    rw [e, List.getElem_set]
    by_cases h : i = k
    · subst h; rw [if_pos rfl]
    · rw [if_neg (fun e => h (hi i k (by omega) (by omega) e.symm))]
      have := layF_at (d := d) (z := z) (v := v) hs hi (k := k) (i := i) (by omega) (by omega)
      rw [← this]
      have hl2 : σ i < (layF n z σ v k).length := by rw [layF_len]; exact hs i (by omega)
      exact (getD_at hl2).symm
def turnD (d : DI) (t : Nat) : DI := ⟨d.signs, layF d.next.length [] (sgF d.next.length t) (fun i => (d.next.getD i []).map (toF d.next.length t)) d.next.length, layF d.next.length [] (sgF d.next.length t) (fun i => d.done.getD i []) d.next.length⟩
structure Turn (d : DI) (t : Nat) : Prop where
  n : 3 ≤ d.next.length
  may : mayB d = true
theorem Turn.next {d : DI} {t i : Nat} (h : Turn d t) (hi : i < d.next.length) : (turnD d t).next.getD (sgF d.next.length t i) [] = (d.next.getD i []).map (toF d.next.length t) :=
  layF_at (fun i _ => sgF_lt h.n) (fun i j hi hj e => sgF_inj h.n hi hj e) (Nat.le_refl _) hi
theorem Turn.done {d : DI} {t i : Nat} (h : Turn d t) (hi : i < d.next.length) : (turnD d t).done.getD (sgF d.next.length t i) [] = d.done.getD i [] :=
  layF_at (fun i _ => sgF_lt h.n) (fun i j hi hj e => sgF_inj h.n hi hj e) (Nat.le_refl _) hi
theorem Turn.out {d : DI} {t : Nat} (h : Turn d t) : ∀ (w : List Nat) (i : Nat), i < d.next.length → outI d w i = outI (turnD d t) w (sgF d.next.length t i)
  | [], i, hi => (h.done hi).symm
  | a :: w, i, hi => by
    have hr := stI_range (wf_may h.may) i a
    have e : stI (turnD d t) (sgF d.next.length t i) a = toF d.next.length t (stI d i a) := by
      unfold stI
      rw [h.next hi]
      by_cases ha : a < (d.next.getD i []).length
      · rw [getD_at (by rw [List.length_map]; exact ha), List.getElem_map, getD_at ha]
      · rw [getD_no (by rw [List.length_map]; omega), getD_no (by omega), toF_m1]
    rw [outI_cons, outI_cons, e]
    generalize stI d i a = x at hr
    unfold outT
    by_cases hx : x = -1
    · subst hx; rw [toF_m1, if_pos rfl, if_pos rfl]
    · obtain ⟨k, rfl⟩ : ∃ k : Nat, x = (k : Int) := ⟨x.toNat, by omega⟩
      rw [toF_nat h.n, if_neg hx, if_neg (by omega), Int.toNat_natCast, Int.toNat_natCast]
      exact h.out w k (by omega)
end Go.Vc

namespace Go.Vc
open Go.Proofs
set_option maxRecDepth 100000



end Go.Vc

namespace Go.Vc
open Go.Proofs
set_option linter.unusedSimpArgs false
set_option linter.unusedVariables false

/-! ## MiniTurns -/
theorem few_sm (d : DI) : (fewD d).Sm := by
  refine small_of ?_ ?_ ?_ ?_ ?_
  · show ((d.signs.take 6).map fewS).length ≤ 1000
    simp; omega
  · show ((d.next.take 14).map (·.take 8)).length ≤ 1000
    simp; omega
  · show ((d.done.take 14).map (·.take 5)).length ≤ 1000
    simp; omega
  · intro l hl
    obtain ⟨m, _, rfl⟩ := List.mem_map.1 hl
    simp; omega
  · intro l hl
    obtain ⟨m, _, rfl⟩ := List.mem_map.1 hl
    simp; omega
theorem few_I64 {d : DI} (h : ∀ l ∈ d.done, ∀ n ∈ l, I64 n) : ∀ l ∈ (fewD d).done, ∀ n ∈ l, I64 n := fun l hl n hn => by
  obtain ⟨m, hm, rfl⟩ := List.mem_map.1 hl
  exact h m (List.mem_of_mem_take hm) n (List.mem_of_mem_take hn)
theorem endF_le {d : DI} {lv : List Bool} {cl : List Nat} {n : Nat} (h : ∀ j, (firstL d lv cl j).length ≤ n) : ∀ {f i : Nat}, i ≤ n → endF d lv cl f i ≤ n
  | 0, i, hi => hi
  | f + 1, i, hi => by
    simp only [endF]
    split
    · exact hi
    · have := h i
      exact endF_le h (by omega)
theorem leastK_le {d : DI} (hd : d.Ok) (lv : List Bool) (cl : List Nat) : leastK d lv cl ≤ d.next.length :=
  endF_le (fun j => (firstOk hd.rows hd.n0 j).len) (Nat.zero_le _)
theorem sm_least {d : DI} (hd : d.Ok) : (leastR d).Sm := by
  have hk := leastK_le hd (liveL d) (classR d (liveL d))
  have hn := hd.n
  refine small_of hd.signs ?_ ?_ ?_ ?_
  · show ((List.range _).map _).length ≤ 1000
    rw [List.length_map, List.length_range]; omega
  · show ((List.range _).map _).length ≤ 1000
    rw [List.length_map, List.length_range]; omega
  · intro l hl
    obtain ⟨j, hj, rfl⟩ := List.mem_map.1 hl
    unfold waysF
    rw [rowW_len]
    exact hd.width _
  · intro l hl
    obtain ⟨j, hj, rfl⟩ := List.mem_map.1 hl
    exact hd.ints.len _
end Go.Vc
