/- A part of the proofs of the seat Ytcjhccdbgphboaa: the contracts of functions, each proved out of its code. -/
import Derived.Test.YtcjhccdbgphboaaJg
namespace Go.Vc
open Go.Proofs
set_option linter.unusedSimpArgs false
set_option linter.unusedVariables false

/-! ## A pattern that counts, without an end of time -/
theorem fireCnt_count {j : Jn} (hk : j.kind = sCount) (l : List Kp) : fireCnt j l l.length = min l.length j.need.toNat := by
  rw [← cnt_lt]
  simp only [fireCnt]
  congr 2
  funext i
  simp [fireAt, hk, ne_AC.symm, ne_YC.symm]
@[reducible] def jCnt (n : Nat) : Jn := ⟨sCount, 6, n, 1073741824⟩
@[reducible] def kNo (pt : Nat → Int) (m : Nat) : Kp := ⟨pt m, m, m⟩
def waitsC (pt : Nat → Int) (n i : Nat) : List Kp := (List.range' (i - i % n) (i % n)).map (kNo pt)
theorem waitsC_len (pt : Nat → Int) (n i : Nat) : (waitsC pt n i).length = i % n := by simp [waitsC]
theorem waitsC_get {pt : Nat → Int} {n i k : Nat} (h : k < i % n) : (waitsC pt n i).getD k default = kNo pt (i - i % n + k) := by
  simp [waitsC, List.getD_eq_getElem?_getD, h]
theorem mod_le' (i n : Nat) : i % n ≤ i := Nat.mod_le i n
section
variable {pt : Nat → Int} {n i : Nat}
theorem cnt_any (hpt : ∀ m, 0 ≤ pt m ∧ pt m < 6) (k : Nat) (hk : k ≤ i % n) (m : Int) (hm : ((i - i % n + k : Nat) : Int) ≤ m) : ((waitsC pt n i).take k).any (fun y => decide (y.id = m)) = false := by
  rw [List.any_eq_false]
  intro y hy
  obtain ⟨d, hd, rfl⟩ := List.getElem_of_mem hy
  rw [List.length_take, waitsC_len] at hd
  have h1 : d < i % n := by omega
  have : ((waitsC pt n i).take k)[d] = kNo pt (i - i % n + d) := by
    simp [waitsC]
  rw [this]
  intro h
  have h2 : (kNo pt (i - i % n + d)).id = m := of_decide_eq_true h
  have h3 : (kNo pt (i - i % n + d)).id = ((i - i % n + d : Nat) : Int) := rfl
  omega
theorem cnt_check (hpt : ∀ m, 0 ≤ pt m ∧ pt m < 6) (h1 : 1 ≤ n) (h2 : n ≤ 20) (hi : i ≤ 90) : checkJ (jCnt n) (waitsC pt n i) = true := by
  have hlt : i % n < n := Nat.mod_lt _ h1
  have hle := mod_le' i n
  have m1 : mayJ (jCnt n) = true := by
    simp [mayJ, jCnt]
    omega
  have m2 : okTo (jCnt n) (waitsC pt n i) (waitsC pt n i).length = true := by
    simp only [okTo, List.all_eq_true, List.mem_range, waitsC_len]
    intro k hk
    rw [okAt_iff _ _ _ (by rw [waitsC_len]; exact hk), waitsC_get hk]
    have := hpt (i - i % n + k)
    refine ⟨this.1, this.2, by simp only [kNo]; omega, by simp only [kNo]; omega, fun h0 => ?_, cnt_any hpt k (by omega) _ (by simp only [kNo]; omega)⟩
    rw [waitsC_get (by omega)]
    simp only [kNo]; omega
  have m3 : places (jCnt n) (waitsC pt n i) = [] := by
    simp only [places, jCnt, ne_AC.symm, ne_YC.symm, if_true, if_false, upto, waitsC_len]
    rw [if_pos (by simpa using hlt)]
  have m4 : i % n < 30 := by omega
  rw [waitsC_len] at m2
  simp [checkJ, m1, m2, m3, waitsC_len, m4]
theorem cnt_feed (hpt : ∀ m, 0 ≤ pt m ∧ pt m < 6) (h1 : 1 ≤ n) (h2 : n ≤ 20) (hi : i ≤ 90) : feedR (jCnt n) (waitsC pt n i) (kNo pt i) =
    if (i + 1) % n = 0 then ⟨[], waitsC pt n i ++ [kNo pt i], [], 0⟩ else ⟨waitsC pt n i ++ [kNo pt i], [], [], 0⟩ := by
  have hlt : i % n < n := Nat.mod_lt _ h1
  have hle := mod_le' i n
  have c1 := cnt_check hpt h1 h2 hi
  have c2 : fitsK (jCnt n) (kNo pt i) = true := by
    rw [fits_iff]
    have := hpt i
    exact ⟨this.1, this.2, by simp only [kNo]; omega, by simp only [kNo]; omega⟩
  have c3 : earlyK (waitsC pt n i) (kNo pt i).at_ = false := by
    unfold earlyK
    by_cases h0 : 0 < i % n
    · rw [waitsC_len, waitsC_get (by omega)]
      have h3 : (kNo pt (i - i % n + (i % n - 1))).at_ = ((i - i % n + (i % n - 1) : Nat) : Int) := rfl
      have h4 : (kNo pt i).at_ = (i : Int) := rfl
      rw [h3, h4, show decide ((i : Int) < ((i - i % n + (i % n - 1) : Nat) : Int)) = false from decide_eq_false (by omega), Bool.and_false]
    · rw [waitsC_len]; simp [h0]
  have c4 : idIn (waitsC pt n i) (kNo pt i).id = false := by
    have := cnt_any (i := i) (n := n) hpt (i % n) (Nat.le_refl _) (kNo pt i).id (by simp only [kNo]; omega)
    rwa [← waitsC_len pt n i, List.take_length] at this
  have c5 : nOver (jCnt n) (kNo pt i).at_ (waitsC pt n i) = 0 := by
    unfold nOver
    have : ∀ k ∈ waitsC pt n i, isOver (jCnt n) (kNo pt i).at_ k = false := by
      intro k hk
      simp only [waitsC, List.mem_map, List.mem_range'_1] at hk
      obtain ⟨m, hm, rfl⟩ := hk
      exact decide_eq_false (show ¬ ((m : Int) + 1073741824 < (i : Int)) by omega)
    cases hW : waitsC pt n i with
    | nil => rfl
    | cons a l => rw [List.takeWhile_cons, this a (by rw [hW]; simp)]; rfl
  have c6 : waitsJ (jCnt n) (waitsC pt n i) (kNo pt i) = waitsC pt n i ++ [kNo pt i] := by simp [waitsJ, c5]
  have c7 : (waitsC pt n i ++ [kNo pt i]).length = i % n + 1 := by simp [waitsC_len]
  have c8 : metJ (jCnt n) (waitsC pt n i ++ [kNo pt i]) = decide (i % n + 1 = n) := by
    rw [metJ, fireCnt_count rfl, c7]
    simp only [needJ, if_true, decide_eq_decide, Int.toNat_natCast]; omega
  have hmod : (i + 1) % n = 0 ↔ i % n + 1 = n := by
    rw [Nat.add_mod]
    by_cases hn1 : n = 1
    · subst hn1; simp
    · rw [Nat.mod_eq_of_lt (show 1 < n by omega)]
      by_cases h : i % n + 1 = n
      · rw [h]; simp
      · rw [Nat.mod_eq_of_lt (by omega)]; simp [h]
  by_cases hf : i % n + 1 = n
  · have q : ∀ k, k < i % n + 1 → fireAt (jCnt n) (waitsC pt n i ++ [kNo pt i]) k = true := by
      intro k hk
      have : ((k : Nat) : Int) < (n : Int) := by omega
      simp [fireAt, this]
    have p1 : pickK (fireAt (jCnt n) (waitsC pt n i ++ [kNo pt i])) (waitsC pt n i ++ [kNo pt i]) (waitsC pt n i ++ [kNo pt i]).length = waitsC pt n i ++ [kNo pt i] := by
      refine Eq.trans ?_ (pick_all (waitsC pt n i ++ [kNo pt i]))
      simp only [pickK]
      congr 1
      apply List.filter_congr
      intro k hk
      rw [c7, List.mem_range] at hk
      rw [q k hk]
    have p2 : pickK (fun k => !fireAt (jCnt n) (waitsC pt n i ++ [kNo pt i]) k) (waitsC pt n i ++ [kNo pt i]) (waitsC pt n i ++ [kNo pt i]).length = [] := by
      simp only [pickK, List.map_eq_nil_iff, List.filter_eq_nil_iff, List.mem_range, c7]
      intro k hk
      rw [q k hk]; simp
    rw [if_pos (hmod.2 hf)]
    simp [feedR, c1, c2, c3, c4, c5, c6, c8, hf, p1, p2, -List.length_append]
  · rw [if_neg (fun h => hf (hmod.1 h))]
    have h30 : ¬ 30 ≤ (waitsC pt n i ++ [kNo pt i]).length := by rw [c7]; omega
    simp [feedR, c1, c2, c3, c4, c5, c6, c8, hf, h30, -List.length_append]
theorem mod_last {i n : Nat} (h1 : 1 ≤ n) (h : (i + 1) % n = 0) : i % n + 1 = n := by
  have hlt : i % n < n := Nat.mod_lt _ h1
  rw [Nat.add_mod] at h
  by_cases hn1 : n = 1
  · subst hn1; omega
  · rw [Nat.mod_eq_of_lt (show 1 < n by omega)] at h
    by_cases h2 : i % n + 1 = n
    · exact h2
    · rw [Nat.mod_eq_of_lt (by omega)] at h; omega
theorem mod_next {i n : Nat} (h1 : 1 ≤ n) (h : ¬ (i + 1) % n = 0) : (i + 1) % n = i % n + 1 := by
  have hlt : i % n < n := Nat.mod_lt _ h1
  rw [Nat.add_mod] at h ⊢
  by_cases hn1 : n = 1
  · subst hn1; simp at h; omega
  · rw [Nat.mod_eq_of_lt (show 1 < n by omega)] at h ⊢
    by_cases h2 : i % n + 1 = n
    · rw [h2] at h; simp at h
    · rw [Nat.mod_eq_of_lt (by omega)]
theorem waitsC_succ (h1 : 1 ≤ n) : waitsC pt n (i + 1) = if (i + 1) % n = 0 then [] else waitsC pt n i ++ [kNo pt i] := by
  have hlt : i % n < n := Nat.mod_lt _ h1
  have hle := mod_le' i n
  by_cases h : (i + 1) % n = 0
  · simp [waitsC, h]
  · rw [if_neg h]
    have e : (i + 1) % n = i % n + 1 := by
      rw [Nat.add_mod] at h ⊢
      by_cases hn1 : n = 1
      · subst hn1; simp at h; omega
      · rw [Nat.mod_eq_of_lt (show 1 < n by omega)] at h ⊢
        by_cases h2 : i % n + 1 = n
        · rw [h2] at h; simp at h
        · rw [Nat.mod_eq_of_lt (by omega)]
    unfold waitsC
    rw [e, show i + 1 - (i % n + 1) = i - i % n by omega, List.range'_concat, List.map_append, List.map_singleton]
    rw [show i - i % n + 1 * (i % n) = i by omega]
end
abbrev p8 (n : Int) : PV := .sc (.int .u8 n)
abbrev bs8 (l : List Int) : PV := .lst (l.map p8)
theorem wf_bs (l : List Int) : WfL 1 (l.map p8) := by
  intro p hp
  obtain ⟨k, _, rfl⟩ := List.mem_map.1 hp
  exact ⟨rfl, fun c hc => by simp only [PV.cells, List.mem_singleton] at hc; subst hc; rfl⟩
theorem getD_bs {l : List Int} {i : Nat} (h : i < l.length) : (l.map p8).getD i default = p8 (l.getD i 0) := by
  simp [List.getD_eq_getElem?_getD, h]
def ptOf (l : List Int) (i : Nat) : Int := if i < l.length then (l.getD i 0).tmod 6 else 0
theorem app_getD_left {l : List Kp} {x : Kp} {k : Nat} (h : k < l.length) : (l ++ [x]).getD k default = l.getD k default := by
  simp [List.getD_eq_getElem?_getD, List.getElem?_append, h]
theorem app_getD_end {l : List Kp} {x : Kp} : (l ++ [x]).getD l.length default = x := by
  simp [List.getD_eq_getElem?_getD]
set_option maxHeartbeats 1000000 in
theorem law6 (need n : Nat) (l : List Int) (h1 : need ≤ 255) (h2 : n ≤ 255) (hl : ∀ x ∈ l, 0 ≤ x ∧ x ≤ 255) : Fn Try.prog 6 [p8 need, p8 n, bs8 l] (.pv (pB true)) [] := by
  refine Run6 [] (by simp) ?_
  have e1 : (need : Int).tmod 20 = ((need % 20 : Nat) : Int) := by rw [Int.tmod_eq_emod_of_nonneg (by omega)]; rfl
  have e2 : (n : Int).tmod 90 = ((n % 90 : Nat) : Int) := by rw [Int.tmod_eq_emod_of_nonneg (by omega)]; rfl
  simp only [go_sem, Nat.reduceEqDiff, Nat.reduceBEq, Nat.reduceAdd, Nat.reduceMul, Nat.reduceSub, Nat.reduceLeDiff, Nat.reduceLT, reduceIte, reduceCtorEq, Int.reduceToNat, Int.reduceLE, Int.reduceLT, Int.reduceNeg, Int.toNat_natCast, Option.getD_some, List.take_length, List.getD_nil, Int.natCast_nonneg, List.length_map, Bool.not_not, and_self, Bool.and_eq_false_iff, Int.cast_ofNat_Int, Int.reduceAdd, Int.reduceSub, Int.reduceMul, Int.reduceEq, Int.reduceNe, M6, fCount, e1]
  have h6 : need % 20 < 20 := Nat.mod_lt _ (by omega)
  have h9 : n % 90 < 90 := Nat.mod_lt _ (by omega)
  generalize need % 20 = m at *
  rw [show (1 : Int) + (m : Int) = ((m + 1 : Nat) : Int) by omega]
  generalize hd : m + 1 = d at *
  have hpt : ∀ k, 0 ≤ ptOf l k ∧ ptOf l k < 6 := by
    intro k
    unfold ptOf
    split
    · rename_i hk
      have := hl (l.getD k 0) (by rw [List.getD_eq_getElem?_getD, List.getElem?_eq_getElem hk]; exact List.getElem_mem hk)
      exact ⟨Int.tmod_nonneg _ this.1, Int.tmod_lt_of_pos _ (by omega)⟩
    · omega
  refine ⟨by omega, by omega, run_loop (T := Nat) (fun i => ⟨[(1, .pv (p8 n)), (2, .pv (bs8 l)), (7, .ptr 7 0), (8, .pv (ks (waitsC (ptOf l) d i))), (9, .pv (pI i))],
      [(7, .box [.pv (pS sCount), .pv (pI 6), .pv (pI d), .pv (pI 1073741824)])]⟩) (fun i => i ≤ n % 90) (fun i => n % 90 - i) 0 ?_ (Nat.zero_le _) ?_⟩
  · simp [waitsC]
  intro i hi
  by_cases hlt : i < n % 90
  · have hmd : ((i : Int) + 1).tmod (d : Int) = (((i + 1) % d : Nat) : Int) := by
      rw [show (i : Int) + 1 = ((i + 1 : Nat) : Int) by omega, Int.tmod_eq_emod_of_nonneg (by omega)]; rfl
    have hf := fn19 (jCnt d) (waitsC (ptOf l) d i) (kNo (ptOf l) i) (by rw [waitsC_len]; have := mod_le' i d; omega)
    rw [cnt_feed hpt (by omega) (by omega) (by omega)] at hf
    have hsucc := waitsC_succ (pt := ptOf l) (n := d) (i := i) (by omega)
    have cont : ∀ (x : Kp), x = kNo (ptOf l) i → Fn Try.prog 19 [(jCnt d).pv, ks (waitsC (ptOf l) d i), x.pv] (.pv (FR.pv (if (i + 1) % d = 0 then ⟨[], waitsC (ptOf l) d i ++ [x], [], 0⟩ else ⟨waitsC (ptOf l) d i ++ [x], [], [], 0⟩))) [] := by
      intro x hx; subst hx; exact hf
    have hbd : i ≤ 90 := by omega
    have hlen := waitsC_len (ptOf l) d i
    have hmi := mod_le' i d
    by_cases hil : i < l.length
    · have hx : ptOf l i = (l.getD i 0).tmod 6 := if_pos hil
      simp only [go_sem, Nat.reduceEqDiff, Nat.reduceBEq, Nat.reduceAdd, Nat.reduceMul, Nat.reduceSub, Nat.reduceLeDiff, Nat.reduceLT, reduceIte, reduceCtorEq, Int.reduceToNat, Int.reduceLE, Int.reduceLT, Int.reduceNeg, Int.toNat_natCast, Option.getD_some, List.take_length, List.getD_nil, Int.natCast_nonneg, List.length_map, Bool.not_not, and_self, Bool.and_eq_false_iff, Int.cast_ofNat_Int, Int.reduceAdd, Int.reduceSub, Int.reduceMul, Int.reduceEq, Int.reduceNe, B6_0, e2, show (i : Int) < ((n % 90 : Nat) : Int) by omega, show (i : Int) < (l.length : Int) by omega, wf_bs, getD_bs hil, ← hx]
      refine ⟨by omega, by omega, by have := hpt i; omega, ?_⟩
      have hc := cont ⟨ptOf l i, i, i⟩ rfl
      by_cases hz : (i + 1) % d = 0
      · rw [if_pos hz] at hc hsucc
        have hmd1 : i % d + 1 = d := mod_last (by omega) hz
        have hFl : (waitsC (ptOf l) d i ++ [(⟨ptOf l i, i, i⟩ : Kp)]).length = d := by rw [List.length_append, hlen]; exact hmd1
        have hF0 : ((waitsC (ptOf l) d i ++ [(⟨ptOf l i, i, i⟩ : Kp)]).getD 0 default).id = (i : Int) + 1 - d := by
          by_cases h0 : i % d = 0
          · have : waitsC (ptOf l) d i = [] := List.eq_nil_of_length_eq_zero (by omega)
            rw [this]
            simp; omega
          · have := waitsC_get (pt := ptOf l) (n := d) (i := i) (k := 0) (by omega)
            rw [app_getD_left (by omega), this]
            simp only [kNo]; omega
        have hF1 : (waitsC (ptOf l) d i ++ [(⟨ptOf l i, i, i⟩ : Kp)]).getD (d - 1) default = ⟨ptOf l i, i, i⟩ := by
          rw [show d - 1 = (waitsC (ptOf l) d i).length by omega, app_getD_end]
        generalize waitsC (ptOf l) d i ++ [(⟨ptOf l i, i, i⟩ : Kp)] = F at *
        refine runR_call (by simp only [go_sem, Nat.reduceEqDiff, Nat.reduceBEq, Nat.reduceAdd, Nat.reduceMul, Nat.reduceSub, Nat.reduceLeDiff, Nat.reduceLT, reduceIte, reduceCtorEq, Int.reduceToNat, Int.reduceLE, Int.reduceLT, Int.reduceNeg, Int.toNat_natCast, Option.getD_some, List.take_length, List.getD_nil, Int.natCast_nonneg, List.length_map, Bool.not_not, and_self, Bool.and_eq_false_iff, Int.cast_ofNat_Int, Int.reduceAdd, Int.reduceSub, Int.reduceMul, Int.reduceEq, Int.reduceNe]) rfl (hc) (.inl rfl) trivial ?_
        simp only [go_sem, Nat.reduceEqDiff, Nat.reduceBEq, Nat.reduceAdd, Nat.reduceMul, Nat.reduceSub, Nat.reduceLeDiff, Nat.reduceLT, reduceIte, reduceCtorEq, Int.reduceToNat, Int.reduceLE, Int.reduceLT, Int.reduceNeg, Int.toNat_natCast, Option.getD_some, List.take_length, List.getD_nil, Int.natCast_nonneg, List.length_map, Bool.not_not, and_self, Bool.and_eq_false_iff, Int.cast_ofNat_Int, Int.reduceAdd, Int.reduceSub, Int.reduceMul, Int.reduceEq, Int.reduceNe, hmd, hz, List.map_nil, List.length_nil, hFl, eq_true rfl, getD_ks (show 0 < F.length by omega), getD_ks (show d - 1 < F.length by omega), hF0, hF1, wf_ks, show ((d : Int) - 1).toNat = d - 1 by omega]
        refine ⟨by omega, by omega, by omega, by omega, by omega, by omega, by omega, by omega, by omega, i + 1, ?_, hlt, by omega⟩
        rw [hsucc]; rfl
      · rw [if_neg hz] at hc hsucc
        have hmd1 : (i + 1) % d = i % d + 1 := mod_next (by omega) hz
        refine runR_call (by simp only [go_sem, Nat.reduceEqDiff, Nat.reduceBEq, Nat.reduceAdd, Nat.reduceMul, Nat.reduceSub, Nat.reduceLeDiff, Nat.reduceLT, reduceIte, reduceCtorEq, Int.reduceToNat, Int.reduceLE, Int.reduceLT, Int.reduceNeg, Int.toNat_natCast, Option.getD_some, List.take_length, List.getD_nil, Int.natCast_nonneg, List.length_map, Bool.not_not, and_self, Bool.and_eq_false_iff, Int.cast_ofNat_Int, Int.reduceAdd, Int.reduceSub, Int.reduceMul, Int.reduceEq, Int.reduceNe]) rfl (hc) (.inl rfl) trivial ?_
        simp only [go_sem, Nat.reduceEqDiff, Nat.reduceBEq, Nat.reduceAdd, Nat.reduceMul, Nat.reduceSub, Nat.reduceLeDiff, Nat.reduceLT, reduceIte, reduceCtorEq, Int.reduceToNat, Int.reduceLE, Int.reduceLT, Int.reduceNeg, Int.toNat_natCast, Option.getD_some, List.take_length, List.getD_nil, Int.natCast_nonneg, List.length_map, Bool.not_not, and_self, Bool.and_eq_false_iff, Int.cast_ofNat_Int, Int.reduceAdd, Int.reduceSub, Int.reduceMul, Int.reduceEq, Int.reduceNe, hmd, hmd1, show ¬ ((i % d + 1 : Nat) : Int) = 0 by omega, List.map_nil, List.length_nil, List.length_append, hlen]
        refine ⟨by omega, by omega, by omega, by omega, by omega, i + 1, ?_, hlt, by omega⟩
        rw [hsucc]; rfl
    · have hx : ptOf l i = 0 := if_neg hil
      have hkx : kNo (ptOf l) i = ⟨0, i, i⟩ := by simp only [kNo, hx]
      have hc := cont ⟨0, i, i⟩ hkx.symm
      simp only [go_sem, Nat.reduceEqDiff, Nat.reduceBEq, Nat.reduceAdd, Nat.reduceMul, Nat.reduceSub, Nat.reduceLeDiff, Nat.reduceLT, reduceIte, reduceCtorEq, Int.reduceToNat, Int.reduceLE, Int.reduceLT, Int.reduceNeg, Int.toNat_natCast, Option.getD_some, List.take_length, List.getD_nil, Int.natCast_nonneg, List.length_map, Bool.not_not, and_self, Bool.and_eq_false_iff, Int.cast_ofNat_Int, Int.reduceAdd, Int.reduceSub, Int.reduceMul, Int.reduceEq, Int.reduceNe, B6_0, e2, show (i : Int) < ((n % 90 : Nat) : Int) by omega, show ¬ (i : Int) < (l.length : Int) by omega, wf_bs]
      refine ⟨by omega, by omega, ?_⟩
      by_cases hz : (i + 1) % d = 0
      · rw [if_pos hz] at hc hsucc
        have hmd1 : i % d + 1 = d := mod_last (by omega) hz
        have hFl : (waitsC (ptOf l) d i ++ [(⟨0, i, i⟩ : Kp)]).length = d := by rw [List.length_append, hlen]; exact hmd1
        have hF0 : ((waitsC (ptOf l) d i ++ [(⟨0, i, i⟩ : Kp)]).getD 0 default).id = (i : Int) + 1 - d := by
          by_cases h0 : i % d = 0
          · have : waitsC (ptOf l) d i = [] := List.eq_nil_of_length_eq_zero (by omega)
            rw [this]
            simp; omega
          · have := waitsC_get (pt := ptOf l) (n := d) (i := i) (k := 0) (by omega)
            rw [app_getD_left (by omega), this]
            simp only [kNo]; omega
        have hF1 : (waitsC (ptOf l) d i ++ [(⟨0, i, i⟩ : Kp)]).getD (d - 1) default = ⟨0, i, i⟩ := by
          rw [show d - 1 = (waitsC (ptOf l) d i).length by omega, app_getD_end]
        generalize waitsC (ptOf l) d i ++ [(⟨0, i, i⟩ : Kp)] = F at *
        refine runR_call (by simp only [go_sem, Nat.reduceEqDiff, Nat.reduceBEq, Nat.reduceAdd, Nat.reduceMul, Nat.reduceSub, Nat.reduceLeDiff, Nat.reduceLT, reduceIte, reduceCtorEq, Int.reduceToNat, Int.reduceLE, Int.reduceLT, Int.reduceNeg, Int.toNat_natCast, Option.getD_some, List.take_length, List.getD_nil, Int.natCast_nonneg, List.length_map, Bool.not_not, and_self, Bool.and_eq_false_iff, Int.cast_ofNat_Int, Int.reduceAdd, Int.reduceSub, Int.reduceMul, Int.reduceEq, Int.reduceNe]) rfl (hc) (.inl rfl) trivial ?_
        simp only [go_sem, Nat.reduceEqDiff, Nat.reduceBEq, Nat.reduceAdd, Nat.reduceMul, Nat.reduceSub, Nat.reduceLeDiff, Nat.reduceLT, reduceIte, reduceCtorEq, Int.reduceToNat, Int.reduceLE, Int.reduceLT, Int.reduceNeg, Int.toNat_natCast, Option.getD_some, List.take_length, List.getD_nil, Int.natCast_nonneg, List.length_map, Bool.not_not, and_self, Bool.and_eq_false_iff, Int.cast_ofNat_Int, Int.reduceAdd, Int.reduceSub, Int.reduceMul, Int.reduceEq, Int.reduceNe, hmd, hz, List.map_nil, List.length_nil, hFl, eq_true rfl, getD_ks (show 0 < F.length by omega), getD_ks (show d - 1 < F.length by omega), hF0, hF1, wf_ks, show ((d : Int) - 1).toNat = d - 1 by omega]
        refine ⟨by omega, by omega, by omega, by omega, by omega, by omega, by omega, by omega, by omega, i + 1, ?_, hlt, by omega⟩
        rw [hsucc]; rfl
      · rw [if_neg hz] at hc hsucc
        have hmd1 : (i + 1) % d = i % d + 1 := mod_next (by omega) hz
        refine runR_call (by simp only [go_sem, Nat.reduceEqDiff, Nat.reduceBEq, Nat.reduceAdd, Nat.reduceMul, Nat.reduceSub, Nat.reduceLeDiff, Nat.reduceLT, reduceIte, reduceCtorEq, Int.reduceToNat, Int.reduceLE, Int.reduceLT, Int.reduceNeg, Int.toNat_natCast, Option.getD_some, List.take_length, List.getD_nil, Int.natCast_nonneg, List.length_map, Bool.not_not, and_self, Bool.and_eq_false_iff, Int.cast_ofNat_Int, Int.reduceAdd, Int.reduceSub, Int.reduceMul, Int.reduceEq, Int.reduceNe]) rfl (hc) (.inl rfl) trivial ?_
        simp only [go_sem, Nat.reduceEqDiff, Nat.reduceBEq, Nat.reduceAdd, Nat.reduceMul, Nat.reduceSub, Nat.reduceLeDiff, Nat.reduceLT, reduceIte, reduceCtorEq, Int.reduceToNat, Int.reduceLE, Int.reduceLT, Int.reduceNeg, Int.toNat_natCast, Option.getD_some, List.take_length, List.getD_nil, Int.natCast_nonneg, List.length_map, Bool.not_not, and_self, Bool.and_eq_false_iff, Int.cast_ofNat_Int, Int.reduceAdd, Int.reduceSub, Int.reduceMul, Int.reduceEq, Int.reduceNe, hmd, hmd1, show ¬ ((i % d + 1 : Nat) : Int) = 0 by omega, List.map_nil, List.length_nil, List.length_append, hlen]
        refine ⟨by omega, by omega, by omega, by omega, by omega, i + 1, ?_, hlt, by omega⟩
        rw [hsucc, hkx]; rfl
  · simp only [go_sem, Nat.reduceEqDiff, Nat.reduceBEq, Nat.reduceAdd, Nat.reduceMul, Nat.reduceSub, Nat.reduceLeDiff, Nat.reduceLT, reduceIte, reduceCtorEq, Int.reduceToNat, Int.reduceLE, Int.reduceLT, Int.reduceNeg, Int.toNat_natCast, Option.getD_some, List.take_length, List.getD_nil, Int.natCast_nonneg, List.length_map, Bool.not_not, and_self, Bool.and_eq_false_iff, Int.cast_ofNat_Int, Int.reduceAdd, Int.reduceSub, Int.reduceMul, Int.reduceEq, Int.reduceNe, B6_0, e2, show ¬ (i : Int) < ((n % 90 : Nat) : Int) by omega]
    simp only [go_sem, Nat.reduceEqDiff, Nat.reduceBEq, Nat.reduceAdd, Nat.reduceMul, Nat.reduceSub, Nat.reduceLeDiff, Nat.reduceLT, reduceIte, reduceCtorEq, Int.reduceToNat, Int.reduceLE, Int.reduceLT, Int.reduceNeg, Int.toNat_natCast, Option.getD_some, List.take_length, List.getD_nil, Int.natCast_nonneg, List.length_map, Bool.not_not, and_self, Bool.and_eq_false_iff, Int.cast_ofNat_Int, Int.reduceAdd, Int.reduceSub, Int.reduceMul, Int.reduceEq, Int.reduceNe, R6_0]
    refine ⟨by omega, ?_⟩
    refine runR_callf (by simp only [go_sem, Nat.reduceEqDiff, Nat.reduceBEq, Nat.reduceAdd, Nat.reduceMul, Nat.reduceSub, Nat.reduceLeDiff, Nat.reduceLT, reduceIte, reduceCtorEq, Int.reduceToNat, Int.reduceLE, Int.reduceLT, Int.reduceNeg, Int.toNat_natCast, Option.getD_some, List.take_length, List.getD_nil, Int.natCast_nonneg, List.length_map, Bool.not_not, and_self, Bool.and_eq_false_iff, Int.cast_ofNat_Int, Int.reduceAdd, Int.reduceSub, Int.reduceMul, Int.reduceEq, Int.reduceNe]) (by simp only [go_sem, Nat.reduceEqDiff, Nat.reduceBEq, Nat.reduceAdd, Nat.reduceMul, Nat.reduceSub, Nat.reduceLeDiff, Nat.reduceLT, reduceIte, reduceCtorEq, Int.reduceToNat, Int.reduceLE, Int.reduceLT, Int.reduceNeg, Int.toNat_natCast, Option.getD_some, List.take_length, List.getD_nil, Int.natCast_nonneg, List.length_map, Bool.not_not, and_self, Bool.and_eq_false_iff, Int.cast_ofNat_Int, Int.reduceAdd, Int.reduceSub, Int.reduceMul, Int.reduceEq, Int.reduceNe]) (fn26) ⟨rfl, trivial⟩ trivial ?_
    simp only [go_sem, Nat.reduceEqDiff, Nat.reduceBEq, Nat.reduceAdd, Nat.reduceMul, Nat.reduceSub, Nat.reduceLeDiff, Nat.reduceLT, reduceIte, reduceCtorEq, Int.reduceToNat, Int.reduceLE, Int.reduceLT, Int.reduceNeg, Int.toNat_natCast, Option.getD_some, List.take_length, List.getD_nil, Int.natCast_nonneg, List.length_map, Bool.not_not, and_self, Bool.and_eq_false_iff, Int.cast_ofNat_Int, Int.reduceAdd, Int.reduceSub, Int.reduceMul, Int.reduceEq, Int.reduceNe]
end Go.Vc
