/- A part of the proofs of the seat Ytjlmnegbgmpekaa: the contracts of functions, each proved out of its code. -/
import Derived.Test.YtjlmnegbgmpekaaWf
namespace Go.Vc
open Go.Proofs
set_option linter.unusedSimpArgs false
set_option linter.unusedVariables false

/-! ## 'OutboxTakes' -/
theorem fn30 (l : List Ot) (id : Int) (hl : l.length < 100000) (hs : ∀ x ∈ l, x.sub.size ≤ 1000) : Fn Try.prog 30 [os l, pU id] (.pv (.tup [os (ackO l id).1, pI (ackO l id).2])) [] := by
  refine Run30 [false, false] (by simp) ?_
  simp only [go_sem, Nat.reduceEqDiff, Nat.reduceBEq, Nat.reduceAdd, Nat.reduceMul, Nat.reduceSub, Nat.reduceLeDiff, Nat.reduceLT, reduceIte, reduceCtorEq, Int.reduceToNat, Int.reduceLE, Int.reduceLT, Int.reduceNeg, Bool.not_not, and_self, Bool.and_eq_false_iff, Int.cast_ofNat_Int, Int.reduceAdd, Int.reduceSub, Int.reduceMul, Int.reduceEq, Int.reduceNe, M30]
  refine runR_callf (by simp only [go_sem, Nat.reduceEqDiff, Nat.reduceBEq, Nat.reduceAdd, Nat.reduceMul, Nat.reduceSub, Nat.reduceLeDiff, Nat.reduceLT, reduceIte, reduceCtorEq, Int.reduceToNat, Int.reduceLE, Int.reduceLT, Int.reduceNeg, Bool.not_not, and_self, Bool.and_eq_false_iff, Int.cast_ofNat_Int, Int.reduceAdd, Int.reduceSub, Int.reduceMul, Int.reduceEq, Int.reduceNe]) (by simp only [go_sem, Nat.reduceEqDiff, Nat.reduceBEq, Nat.reduceAdd, Nat.reduceMul, Nat.reduceSub, Nat.reduceLeDiff, Nat.reduceLT, reduceIte, reduceCtorEq, Int.reduceToNat, Int.reduceLE, Int.reduceLT, Int.reduceNeg, Bool.not_not, and_self, Bool.and_eq_false_iff, Int.cast_ofNat_Int, Int.reduceAdd, Int.reduceSub, Int.reduceMul, Int.reduceEq, Int.reduceNe]) (fn50 l hl hs) ⟨rfl, trivial⟩ trivial ?_
  simp only [go_sem, Nat.reduceEqDiff, Nat.reduceBEq, Nat.reduceAdd, Nat.reduceMul, Nat.reduceSub, Nat.reduceLeDiff, Nat.reduceLT, reduceIte, reduceCtorEq, Int.reduceToNat, Int.reduceLE, Int.reduceLT, Int.reduceNeg, Bool.not_not, and_self, Bool.and_eq_false_iff, Int.cast_ofNat_Int, Int.reduceAdd, Int.reduceSub, Int.reduceMul, Int.reduceEq, Int.reduceNe]
  refine ⟨fun h => ?_, fun h => ?_⟩
  · simp [ackO, h]
  refine runR_callf (by simp only [go_sem, Nat.reduceEqDiff, Nat.reduceBEq, Nat.reduceAdd, Nat.reduceMul, Nat.reduceSub, Nat.reduceLeDiff, Nat.reduceLT, reduceIte, reduceCtorEq, Int.reduceToNat, Int.reduceLE, Int.reduceLT, Int.reduceNeg, Bool.not_not, and_self, Bool.and_eq_false_iff, Int.cast_ofNat_Int, Int.reduceAdd, Int.reduceSub, Int.reduceMul, Int.reduceEq, Int.reduceNe]) (by simp only [go_sem, Nat.reduceEqDiff, Nat.reduceBEq, Nat.reduceAdd, Nat.reduceMul, Nat.reduceSub, Nat.reduceLeDiff, Nat.reduceLT, reduceIte, reduceCtorEq, Int.reduceToNat, Int.reduceLE, Int.reduceLT, Int.reduceNeg, Bool.not_not, and_self, Bool.and_eq_false_iff, Int.cast_ofNat_Int, Int.reduceAdd, Int.reduceSub, Int.reduceMul, Int.reduceEq, Int.reduceNe]) (fn51 l id hl) ⟨rfl, trivial⟩ trivial ?_
  simp only [go_sem, Nat.reduceEqDiff, Nat.reduceBEq, Nat.reduceAdd, Nat.reduceMul, Nat.reduceSub, Nat.reduceLeDiff, Nat.reduceLT, reduceIte, reduceCtorEq, Int.reduceToNat, Int.reduceLE, Int.reduceLT, Int.reduceNeg, Bool.not_not, and_self, Bool.and_eq_false_iff, Int.cast_ofNat_Int, Int.reduceAdd, Int.reduceSub, Int.reduceMul, Int.reduceEq, Int.reduceNe]
  refine ⟨fun h2 => ?_, fun h2 => ?_⟩
  · simp [ackO, h, h2]
  have h3 : (ackO l id).2 = 0 := by simp [ackO, h, h2]
  rw [(ackO_is h3).1, h3]
  refine run_loop (T := Nat) (fun i => ⟨[(0, .pv (os l)), (1, .pv (pU id)), (6, .row 2006 0 ((l.take i).filter (fun x => decide (x.id ≠ id))).length), (7, .pv (pI i))], [(2006, .sl 5 (((l.take i).filter (fun x => decide (x.id ≠ id))).map Ot.pv))]⟩) (fun i => i ≤ l.length) (fun i => l.length - i) 0 rfl (Nat.zero_le _) ?_
  intro i hi
  have hle := filt_le (q := fun x : Ot => decide (x.id ≠ id)) (l := l) (i := i)
  by_cases hlt : i < l.length
  · have hsn := filt_snoc (q := fun x : Ot => decide (x.id ≠ id)) hlt
    have tk := take_len_map Ot.pv ((l.take i).filter (fun x => decide (x.id ≠ id)))
    simp only [go_sem, Nat.reduceEqDiff, Nat.reduceBEq, Nat.reduceAdd, Nat.reduceMul, Nat.reduceSub, Nat.reduceLeDiff, Nat.reduceLT, reduceIte, reduceCtorEq, Int.reduceToNat, Int.reduceLE, Int.reduceLT, Int.reduceNeg, Bool.not_not, and_self, Bool.and_eq_false_iff, Int.cast_ofNat_Int, Int.reduceAdd, Int.reduceSub, Int.reduceMul, Int.reduceEq, Int.reduceNe, B30_0, wf_os, getD_map hlt, show (i : Int) < (l.length : Int) by omega]
    refine ⟨fun h5 => ⟨⟨wf_os [l[i]], by omega, by omega⟩, ⟨by omega, by omega⟩, i + 1, ?_, by omega, by omega⟩, fun h5 => ⟨⟨by omega, by omega⟩, i + 1, ?_, by omega, by omega⟩⟩
    · rw [hsn, tk, if_pos (by simpa using h5), List.map_append, List.length_append]; rfl
    · rw [hsn, if_neg (by simpa using h5), List.append_nil]; rfl
  · simp only [go_sem, Nat.reduceEqDiff, Nat.reduceBEq, Nat.reduceAdd, Nat.reduceMul, Nat.reduceSub, Nat.reduceLeDiff, Nat.reduceLT, reduceIte, reduceCtorEq, Int.reduceToNat, Int.reduceLE, Int.reduceLT, Int.reduceNeg, Bool.not_not, and_self, Bool.and_eq_false_iff, Int.cast_ofNat_Int, Int.reduceAdd, Int.reduceSub, Int.reduceMul, Int.reduceEq, Int.reduceNe, B30_0, R30_0, show ¬ ((i : Int) < (l.length : Int)) by omega]
    have : i = l.length := by omega
    subst this
    rw [List.take_length, take_len_map]
def withO (l : List Ot) (x : Ot) : List Ot := l.filter (fun y => decide (y.id < x.id)) ++ ([x] ++ l.filter (fun y => decide (x.id < y.id)))
theorem fn80 (l : List Ot) (x : Ot) (hl : l.length < 100000) : Fn Try.prog 80 [os l, x.pv] (.pv (os (withO l x))) [] := by
  refine Run80 [false] (by simp) ?_
  simp only [go_sem, Nat.reduceEqDiff, Nat.reduceBEq, Nat.reduceAdd, Nat.reduceMul, Nat.reduceSub, Nat.reduceLeDiff, Nat.reduceLT, reduceIte, reduceCtorEq, Int.reduceToNat, Int.reduceLE, Int.reduceLT, Int.reduceNeg, Bool.not_not, and_self, Bool.and_eq_false_iff, Int.cast_ofNat_Int, Int.reduceAdd, Int.reduceSub, Int.reduceMul, Int.reduceEq, Int.reduceNe, M80]
  refine run_loop (T := Nat) (fun i => ⟨[(0, .pv (os l)), (3, .ptr 3 0), (5, .row 2005 0 ((l.take i).filter (fun y => decide (y.id < x.id))).length), (6, .pv (pI i))], [(3, .box [.pv (pU x.id), .pv (pS x.sub), .pv (us x.ids), .pv (pI x.tries), .pv (pI x.due)]), (2005, .sl 5 (((l.take i).filter (fun y => decide (y.id < x.id))).map Ot.pv))]⟩) (fun i => i ≤ l.length) (fun i => l.length - i) 0 rfl (Nat.zero_le _) ?_
  intro i hi
  have hle := filt_le (q := fun y : Ot => decide (y.id < x.id)) (l := l) (i := i)
  by_cases hlt : i < l.length
  · have hsn := filt_snoc (q := fun y : Ot => decide (y.id < x.id)) hlt
    have tk := take_len_map Ot.pv ((l.take i).filter (fun y => decide (y.id < x.id)))
    simp only [go_sem, Nat.reduceEqDiff, Nat.reduceBEq, Nat.reduceAdd, Nat.reduceMul, Nat.reduceSub, Nat.reduceLeDiff, Nat.reduceLT, reduceIte, reduceCtorEq, Int.reduceToNat, Int.reduceLE, Int.reduceLT, Int.reduceNeg, Bool.not_not, and_self, Bool.and_eq_false_iff, Int.cast_ofNat_Int, Int.reduceAdd, Int.reduceSub, Int.reduceMul, Int.reduceEq, Int.reduceNe, B80_0, wf_os, getD_map hlt, show (i : Int) < (l.length : Int) by omega]
    refine ⟨fun h5 => ⟨⟨wf_os [l[i]], by omega, by omega⟩, ⟨by omega, by omega⟩, i + 1, ?_, by omega, by omega⟩, fun h5 => ⟨⟨by omega, by omega⟩, i + 1, ?_, by omega, by omega⟩⟩
    · rw [hsn, tk, if_pos (by simpa using h5), List.map_append, List.length_append]; rfl
    · rw [hsn, if_neg (by simpa using h5), List.append_nil]; rfl
  · simp only [go_sem, Nat.reduceEqDiff, Nat.reduceBEq, Nat.reduceAdd, Nat.reduceMul, Nat.reduceSub, Nat.reduceLeDiff, Nat.reduceLT, reduceIte, reduceCtorEq, Int.reduceToNat, Int.reduceLE, Int.reduceLT, Int.reduceNeg, Bool.not_not, and_self, Bool.and_eq_false_iff, Int.cast_ofNat_Int, Int.reduceAdd, Int.reduceSub, Int.reduceMul, Int.reduceEq, Int.reduceNe, B80_0, R80_0, show ¬ ((i : Int) < (l.length : Int)) by omega]
    have : i = l.length := by omega
    subst this
    have tk := take_len_map Ot.pv ((l.take l.length).filter (fun y => decide (y.id < x.id)))
    refine ⟨⟨wf_os [x], by omega, by omega⟩, ?_⟩
    rw [tk, List.take_length]
    rw [List.take_length] at hle
    obtain ⟨A, hA⟩ : ∃ A, l.filter (fun y => decide (y.id < x.id)) ++ [x] = A := ⟨_, rfl⟩
    have hA2 : A.length = (l.filter (fun y => decide (y.id < x.id))).length + 1 := by rw [← hA, List.length_append]; rfl
    have hA3 : withO l x = A ++ l.filter (fun y => decide (x.id < y.id)) := by unfold withO; rw [← hA, List.append_assoc]
    rw [hA3]
    refine run_loop (T := Nat) (fun i => ⟨[(0, .pv (os l)), (3, .ptr 3 0), (5, .row 2005 0 (A ++ (l.take i).filter (fun y => decide (x.id < y.id))).length), (7, .pv (pI i))], [(3, .box [.pv (pU x.id), .pv (pS x.sub), .pv (us x.ids), .pv (pI x.tries), .pv (pI x.due)]), (2005, .sl 5 ((A ++ (l.take i).filter (fun y => decide (x.id < y.id))).map Ot.pv))]⟩) (fun i => i ≤ l.length) (fun i => l.length - i) 0 ?_ (Nat.zero_le _) ?_
    · rw [← hA2, List.take_zero, List.filter_nil, List.append_nil, ← hA, List.map_append]; rfl
    intro i hi
    have hle2 := filt_le (q := fun y : Ot => decide (x.id < y.id)) (l := l) (i := i)
    by_cases hlt : i < l.length
    · have hsn := filt_snoc (q := fun y : Ot => decide (x.id < y.id)) hlt
      have tk := take_len_map Ot.pv (A ++ (l.take i).filter (fun y => decide (x.id < y.id)))
      have hlen : (A ++ (l.take i).filter (fun y => decide (x.id < y.id))).length ≤ 2 * l.length + 1 := by rw [List.length_append]; omega
      simp only [go_sem, Nat.reduceEqDiff, Nat.reduceBEq, Nat.reduceAdd, Nat.reduceMul, Nat.reduceSub, Nat.reduceLeDiff, Nat.reduceLT, reduceIte, reduceCtorEq, Int.reduceToNat, Int.reduceLE, Int.reduceLT, Int.reduceNeg, Bool.not_not, and_self, Bool.and_eq_false_iff, Int.cast_ofNat_Int, Int.reduceAdd, Int.reduceSub, Int.reduceMul, Int.reduceEq, Int.reduceNe, B80_1, wf_os, getD_map hlt, show (i : Int) < (l.length : Int) by omega]
      refine ⟨fun h5 => ⟨⟨wf_os [l[i]], by omega, by omega⟩, ⟨by omega, by omega⟩, i + 1, ?_, by omega, by omega⟩, fun h5 => ⟨⟨by omega, by omega⟩, i + 1, ?_, by omega, by omega⟩⟩
      · rw [hsn, tk, if_pos (by simpa using h5), ← List.append_assoc, List.map_append (l₂ := [l[i]]), List.length_append (bs := [l[i]])]; rfl
      · rw [hsn, if_neg (by simpa using h5), List.append_nil]; rfl
    · simp only [go_sem, Nat.reduceEqDiff, Nat.reduceBEq, Nat.reduceAdd, Nat.reduceMul, Nat.reduceSub, Nat.reduceLeDiff, Nat.reduceLT, reduceIte, reduceCtorEq, Int.reduceToNat, Int.reduceLE, Int.reduceLT, Int.reduceNeg, Bool.not_not, and_self, Bool.and_eq_false_iff, Int.cast_ofNat_Int, Int.reduceAdd, Int.reduceSub, Int.reduceMul, Int.reduceEq, Int.reduceNe, B80_1, R80_1, show ¬ ((i : Int) < (l.length : Int)) by omega]
      have : i = l.length := by omega
      subst this
      rw [List.take_length, take_len_map]
/-- the best one's place among the first ones -/
def Best (l : List Ot) (now : Int) (i : Nat) (b : Int) : Prop :=
  (b = -1 ∧ ∀ j (h : j < l.length), j < i → now < l[j].due) ∨
  ∃ n, ∃ h : n < l.length, b = n ∧ n < i ∧ l[n].due ≤ now ∧ (∀ j (h : j < l.length), j < i → l[j].due ≤ now → l[n].due ≤ l[j].due) ∧ ∀ j (h : j < l.length), j < n → l[j].due ≤ now → l[n].due < l[j].due
theorem best_no {l : List Ot} {now : Int} {i : Nat} (hlt : i < l.length) (hb : ∀ j (h : j < l.length), j < i → now < l[j].due) (h : ¬ l[i].due ≤ now) : Best l now (i + 1) (-1) :=
  .inl ⟨rfl, fun j hj hji => by
    by_cases e : j = i
    · subst e; omega
    · exact hb j hj (by omega)⟩
theorem best_first {l : List Ot} {now : Int} {i : Nat} (hlt : i < l.length) (hb : ∀ j (h : j < l.length), j < i → now < l[j].due) (h : l[i].due ≤ now) : Best l now (i + 1) i :=
  .inr ⟨i, hlt, rfl, by omega, h, fun j hj hji h2 => by
    by_cases e : j = i
    · subst e; omega
    · have := hb j hj (by omega); omega, fun j hj hji h2 => by have := hb j hj hji; omega⟩
theorem best_take {l : List Ot} {now : Int} {i n : Nat} (hlt : i < l.length) (hn : n < l.length) (hb : n < i ∧ l[n].due ≤ now ∧ (∀ j (h : j < l.length), j < i → l[j].due ≤ now → l[n].due ≤ l[j].due) ∧ ∀ j (h : j < l.length), j < n → l[j].due ≤ now → l[n].due < l[j].due)
    (h : l[i].due ≤ now) (h2 : l[i].due < l[n].due) : Best l now (i + 1) i :=
  .inr ⟨i, hlt, rfl, by omega, h, fun j hj hji h3 => by
    by_cases e : j = i
    · subst e; omega
    · have := hb.2.2.1 j hj (by omega) h3; omega, fun j hj hji h3 => by have := hb.2.2.1 j hj hji h3; omega⟩
theorem best_keep {l : List Ot} {now : Int} {i n : Nat} (hlt : i < l.length) (hn : n < l.length) (hb : n < i ∧ l[n].due ≤ now ∧ (∀ j (h : j < l.length), j < i → l[j].due ≤ now → l[n].due ≤ l[j].due) ∧ ∀ j (h : j < l.length), j < n → l[j].due ≤ now → l[n].due < l[j].due)
    (h : ¬ l[i].due ≤ now ∨ ¬ l[i].due < l[n].due) : Best l now (i + 1) n :=
  .inr ⟨n, hn, rfl, by omega, hb.2.1, fun j hj hji h3 => by
    by_cases e : j = i
    · subst e; omega
    · exact hb.2.2.1 j hj (by omega) h3, hb.2.2.2⟩
theorem cmpD_lt {a b : Du} : cmpD a b < 0 ↔ a.at_ < b.at_ ∨ a.at_ = b.at_ ∧ a.id < b.id := by
  unfold cmpD orL cmpI
  by_cases h1 : a.at_ < b.at_
  · simp [h1]
  · by_cases h2 : b.at_ < a.at_
    · simp [h1, h2]; omega
    · by_cases h3 : a.id < b.id
      · simp [h1, h2, h3]; omega
      · by_cases h4 : b.id < a.id
        · simp [h1, h2, h3, h4]
        · simp [h1, h2, h3, h4]
theorem minD_least (l : List Du) : ∀ i, 1 ≤ i → i ≤ l.length → ∀ j (h : j < l.length), j < i → ¬ cmpD l[j] (minD l i) < 0
  | 0, h, _ => by omega
  | 1, _, h => fun j hj hji => by
    have : j = 0 := by omega
    subst this
    rw [minD_one h, cmpD_lt]; omega
  | i + 2, _, h => fun j hj hji => by
    have ih := minD_least l (i + 1) (by omega) (by omega)
    rw [minD_succ (by omega) (by omega)]
    by_cases hc : cmpD l[i + 1] (minD l (i + 1)) < 0
    · rw [if_pos hc]
      by_cases e : j = i + 1
      · subst e; rw [cmpD_lt]; omega
      · have := ih j hj (by omega)
        rw [cmpD_lt] at *
        omega
    · rw [if_neg hc]
      by_cases e : j = i + 1
      · subst e; exact hc
      · exact ih j hj (by omega)
theorem duA_has (now : Int) : ∀ (l : List Ot) (k n : Nat) (h : n < l.length), l[n].due ≤ now → (⟨l[n].due, l[n].id, ((k + n : Nat) : Int)⟩ : Du) ∈ duA now l k
  | [], _, _, h, _ => by simp at h
  | x :: l, k, 0, _, h2 => by
    have h3 : x.due ≤ now := h2
    simp [duA, h3]
  | x :: l, k, n + 1, h, h2 => by
    have := duA_has now l (k + 1) n (by simpa using h) (by simpa using h2)
    rw [show k + 1 + n = k + (n + 1) by omega] at this
    simp only [duA, List.mem_append]
    exact .inr this
theorem best_next {l : List Ot} {now b : Int} (hc : checkO l = true) (hb : Best l now l.length b) : nextO l now = if b < 0 then (default, 4) else (l.getD b.toNat default, 0) := by
  rcases hb with ⟨rfl, hb⟩ | ⟨n, hn, rfl, _, h1, h2, h3⟩
  · have : duA now l 0 = [] := List.eq_nil_iff_forall_not_mem.2 fun d hd => by
      obtain ⟨n, hn, _, h⟩ := duA_mem now l 0 d hd
      have := hb n hn hn
      omega
    simp [nextO, hc, this]
  · have hin := duA_has now l 0 n hn h1
    have hlen : 0 < (duA now l 0).length := List.length_pos_of_mem hin
    obtain ⟨m, hm, hd, h4⟩ := duA_mem now l 0 _ (minD_mem (duA now l 0) (duA now l 0).length (by omega) (Nat.le_refl _))
    obtain ⟨k, hk, hke⟩ := List.mem_iff_getElem.1 hin
    have hle := minD_least (duA now l 0) (duA now l 0).length (by omega) (Nat.le_refl _) k hk hk
    rw [hke, hd, cmpD_lt] at hle
    have h5 := h2 m hm hm h4
    have hs := List.pairwise_iff_getElem.1 (checkO_ord hc)
    have hmn : m = n := by
      rcases Nat.lt_trichotomy m n with h | h | h
      · have := h3 m hm h h4
        simp only at hle; omega
      · exact h
      · have : l[n].id < l[m].id := hs n m hn hm h
        simp only at hle; omega
    subst hmn
    unfold nextO
    rw [if_neg (by simp [hc]), if_neg (by omega), if_neg (by omega), hd]
    simp
theorem fn29 (l : List Ot) (now : Int) (hl : l.length < 100000) (hs : ∀ x ∈ l, x.sub.size ≤ 1000) : Fn Try.prog 29 [os l, pI now] (.pv (.tup [(nextO l now).1.pv, pI (nextO l now).2])) [] := by
  refine Run29 [false, false] (by simp) ?_
  simp only [go_sem, Nat.reduceEqDiff, Nat.reduceBEq, Nat.reduceAdd, Nat.reduceMul, Nat.reduceSub, Nat.reduceLeDiff, Nat.reduceLT, reduceIte, reduceCtorEq, Int.reduceToNat, Int.reduceLE, Int.reduceLT, Int.reduceNeg, Bool.not_not, and_self, Bool.and_eq_false_iff, Int.cast_ofNat_Int, Int.reduceAdd, Int.reduceSub, Int.reduceMul, Int.reduceEq, Int.reduceNe, M29]
  refine runR_callf (by simp only [go_sem, Nat.reduceEqDiff, Nat.reduceBEq, Nat.reduceAdd, Nat.reduceMul, Nat.reduceSub, Nat.reduceLeDiff, Nat.reduceLT, reduceIte, reduceCtorEq, Int.reduceToNat, Int.reduceLE, Int.reduceLT, Int.reduceNeg, Bool.not_not, and_self, Bool.and_eq_false_iff, Int.cast_ofNat_Int, Int.reduceAdd, Int.reduceSub, Int.reduceMul, Int.reduceEq, Int.reduceNe]) (by simp only [go_sem, Nat.reduceEqDiff, Nat.reduceBEq, Nat.reduceAdd, Nat.reduceMul, Nat.reduceSub, Nat.reduceLeDiff, Nat.reduceLT, reduceIte, reduceCtorEq, Int.reduceToNat, Int.reduceLE, Int.reduceLT, Int.reduceNeg, Bool.not_not, and_self, Bool.and_eq_false_iff, Int.cast_ofNat_Int, Int.reduceAdd, Int.reduceSub, Int.reduceMul, Int.reduceEq, Int.reduceNe]) (fn50 l hl hs) ⟨rfl, trivial⟩ trivial ?_
  simp only [go_sem, Nat.reduceEqDiff, Nat.reduceBEq, Nat.reduceAdd, Nat.reduceMul, Nat.reduceSub, Nat.reduceLeDiff, Nat.reduceLT, reduceIte, reduceCtorEq, Int.reduceToNat, Int.reduceLE, Int.reduceLT, Int.reduceNeg, Bool.not_not, and_self, Bool.and_eq_false_iff, Int.cast_ofNat_Int, Int.reduceAdd, Int.reduceSub, Int.reduceMul, Int.reduceEq, Int.reduceNe]
  refine ⟨fun h => ?_, fun h => ?_⟩
  · simp [nextO, h]
    exact ⟨rfl, rfl, rfl, rfl, rfl⟩
  refine run_loop (T := Nat × Int) (fun t => ⟨[(0, .pv (os l)), (1, .pv (pI now)), (4, .ptr 4 0), (6, .pv (pI t.2)), (7, .pv (pI t.1))], [(4, .box [.pv (pU 0), .pv (pS ⟨#[]⟩), .e0, .pv (pI 0), .pv (pI 0)])]⟩) (fun t => t.1 ≤ l.length ∧ Best l now t.1 t.2) (fun t => l.length - t.1) ⟨0, -1⟩ rfl ⟨Nat.zero_le _, .inl ⟨rfl, fun j hj hji => by omega⟩⟩ ?_
  rintro ⟨i, b⟩ ⟨hi, hb⟩
  simp only at hi hb
  by_cases hlt : i < l.length
  · rcases hb with ⟨rfl, hb⟩ | ⟨n, hn, rfl, hb⟩
    · simp only [go_sem, Nat.reduceEqDiff, Nat.reduceBEq, Nat.reduceAdd, Nat.reduceMul, Nat.reduceSub, Nat.reduceLeDiff, Nat.reduceLT, reduceIte, reduceCtorEq, Int.reduceToNat, Int.reduceLE, Int.reduceLT, Int.reduceNeg, Bool.not_not, and_self, Bool.and_eq_false_iff, Int.cast_ofNat_Int, Int.reduceAdd, Int.reduceSub, Int.reduceMul, Int.reduceEq, Int.reduceNe, B29_0, wf_os, getD_map hlt, show (i : Int) < (l.length : Int) by omega]
      exact ⟨fun h5 => ⟨⟨by omega, by omega⟩, ⟨i + 1, i⟩, rfl, ⟨hlt, best_first hlt hb h5⟩, by simp only; omega⟩, fun h5 => ⟨⟨by omega, by omega⟩, ⟨i + 1, -1⟩, rfl, ⟨hlt, best_no hlt hb h5⟩, by simp only; omega⟩⟩
    · simp only [go_sem, Nat.reduceEqDiff, Nat.reduceBEq, Nat.reduceAdd, Nat.reduceMul, Nat.reduceSub, Nat.reduceLeDiff, Nat.reduceLT, reduceIte, reduceCtorEq, Int.reduceToNat, Int.reduceLE, Int.reduceLT, Int.reduceNeg, Bool.not_not, and_self, Bool.and_eq_false_iff, Int.cast_ofNat_Int, Int.reduceAdd, Int.reduceSub, Int.reduceMul, Int.reduceEq, Int.reduceNe, B29_0, wf_os, getD_map hlt, getD_map hn, show (i : Int) < (l.length : Int) by omega]
      have hn0 : ¬ (n : Int) < 0 := by omega
      refine ⟨fun h5 => ⟨h5, by omega⟩, fun h5 => ⟨h5, .inr ⟨h5, hn0⟩⟩, fun h5 => ⟨⟨by omega, by omega⟩, ⟨i + 1, i⟩, rfl, ⟨hlt, best_take hlt hn hb h5.1 ?_⟩, by simp only; omega⟩, fun h5 => ⟨⟨by omega, by omega⟩, ⟨i + 1, n⟩, rfl, ⟨hlt, best_keep hlt hn hb ?_⟩, by simp only; omega⟩⟩
      · rcases h5.2 with h6 | h6
        · exact absurd h6 hn0
        · exact h6
      · rcases h5 with h6 | h6
        · exact .inl h6
        · exact .inr h6.2
  · have : i = l.length := by omega
    subst this
    rcases hb with ⟨rfl, hb⟩ | ⟨n, hn, rfl, hb⟩
    · rw [best_next h (.inl ⟨rfl, hb⟩)]
      simp only [go_sem, Nat.reduceEqDiff, Nat.reduceBEq, Nat.reduceAdd, Nat.reduceMul, Nat.reduceSub, Nat.reduceLeDiff, Nat.reduceLT, reduceIte, reduceCtorEq, Int.reduceToNat, Int.reduceLE, Int.reduceLT, Int.reduceNeg, Bool.not_not, and_self, Bool.and_eq_false_iff, Int.cast_ofNat_Int, Int.reduceAdd, Int.reduceSub, Int.reduceMul, Int.reduceEq, Int.reduceNe, B29_0, R29_0, Int.lt_irrefl]
      rfl
    · have hn0 : ¬ (n : Int) < 0 := by omega
      rw [best_next h (.inr ⟨n, hn, rfl, hb⟩)]
      simp only [go_sem, Nat.reduceEqDiff, Nat.reduceBEq, Nat.reduceAdd, Nat.reduceMul, Nat.reduceSub, Nat.reduceLeDiff, Nat.reduceLT, reduceIte, reduceCtorEq, Int.reduceToNat, Int.reduceLE, Int.reduceLT, Int.reduceNeg, Bool.not_not, and_self, Bool.and_eq_false_iff, Int.cast_ofNat_Int, Int.reduceAdd, Int.reduceSub, Int.reduceMul, Int.reduceEq, Int.reduceNe, B29_0, R29_0, wf_os, getD_map hn, Int.lt_irrefl, hn0, show (n : Int) < (l.length : Int) by omega]
      rw [getD_get hn]
theorem withO_set : ∀ {l : List Ot} {n : Nat} {x : Ot} (h : n < l.length), l.Pairwise OtLt → x.id = l[n].id → withO l x = l.set n x
  | [], _, _, h, _, _ => by simp at h
  | a :: l, 0, x, _, hs, hx => by
    rw [List.pairwise_cons] at hs
    have hx' : x.id = a.id := hx
    have h1 : l.filter (fun y => decide (y.id < x.id)) = [] := List.filter_eq_nil_iff.2 fun y hy => by have := hs.1 y hy; simp; omega
    have h2 : l.filter (fun y => decide (x.id < y.id)) = l := List.filter_eq_self.2 fun y hy => by have := hs.1 y hy; simp; omega
    simp [withO, List.filter_cons, hx', Int.lt_irrefl] at h1 h2 ⊢
    rw [List.filter_eq_nil_iff.2 (by simpa using h1), List.filter_eq_self.2 (by simpa using h2)]; rfl
  | a :: l, n + 1, x, h, hs, hx => by
    rw [List.pairwise_cons] at hs
    have hn : n < l.length := by simpa using h
    have hx' : x.id = l[n].id := hx
    have ih := withO_set hn hs.2 hx'
    have ha : a.id < x.id := by have := hs.1 _ (List.getElem_mem hn); rw [hx']; exact this
    have ha2 : ¬ x.id < a.id := by omega
    unfold withO at ih ⊢
    rw [List.filter_cons, if_pos (by simpa using ha), List.filter_cons (p := fun y : Ot => decide (x.id < y.id)), if_neg (by simpa using ha2), List.set_cons_succ, ← ih]
    rfl
theorem fn31 (l : List Ot) (id now : Int) (hl : l.length < 100000) (hs : ∀ x ∈ l, x.sub.size ≤ 1000) : Fn Try.prog 31 [os l, pU id, pI now] (.pv (nackO l id now).pv) [] := by
  refine Run31 [false, false, false] (by simp) ?_
  simp only [go_sem, Nat.reduceEqDiff, Nat.reduceBEq, Nat.reduceAdd, Nat.reduceMul, Nat.reduceSub, Nat.reduceLeDiff, Nat.reduceLT, reduceIte, reduceCtorEq, Int.reduceToNat, Int.reduceLE, Int.reduceLT, Int.reduceNeg, Bool.not_not, and_self, Bool.and_eq_false_iff, Int.cast_ofNat_Int, Int.reduceAdd, Int.reduceSub, Int.reduceMul, Int.reduceEq, Int.reduceNe, M31]
  refine runR_callf (by simp only [go_sem, Nat.reduceEqDiff, Nat.reduceBEq, Nat.reduceAdd, Nat.reduceMul, Nat.reduceSub, Nat.reduceLeDiff, Nat.reduceLT, reduceIte, reduceCtorEq, Int.reduceToNat, Int.reduceLE, Int.reduceLT, Int.reduceNeg, Bool.not_not, and_self, Bool.and_eq_false_iff, Int.cast_ofNat_Int, Int.reduceAdd, Int.reduceSub, Int.reduceMul, Int.reduceEq, Int.reduceNe]) (by simp only [go_sem, Nat.reduceEqDiff, Nat.reduceBEq, Nat.reduceAdd, Nat.reduceMul, Nat.reduceSub, Nat.reduceLeDiff, Nat.reduceLT, reduceIte, reduceCtorEq, Int.reduceToNat, Int.reduceLE, Int.reduceLT, Int.reduceNeg, Bool.not_not, and_self, Bool.and_eq_false_iff, Int.cast_ofNat_Int, Int.reduceAdd, Int.reduceSub, Int.reduceMul, Int.reduceEq, Int.reduceNe]) (fn50 l hl hs) ⟨rfl, trivial⟩ trivial ?_
  simp only [go_sem, Nat.reduceEqDiff, Nat.reduceBEq, Nat.reduceAdd, Nat.reduceMul, Nat.reduceSub, Nat.reduceLeDiff, Nat.reduceLT, reduceIte, reduceCtorEq, Int.reduceToNat, Int.reduceLE, Int.reduceLT, Int.reduceNeg, Bool.not_not, and_self, Bool.and_eq_false_iff, Int.cast_ofNat_Int, Int.reduceAdd, Int.reduceSub, Int.reduceMul, Int.reduceEq, Int.reduceNe]
  refine ⟨fun h => ?_, fun h => ?_⟩
  · have : checkO l = false ∨ timeB now = false := by
      rcases h with (h | h) | h
      · exact .inl h
      · right; simp [timeB]; omega
      · right; simp [timeB]; omega
    simp [nackO, this]
  have ht : timeB now = true := by simp [timeB]; omega
  have hc := h.1.1
  refine runR_callf (by simp only [go_sem, Nat.reduceEqDiff, Nat.reduceBEq, Nat.reduceAdd, Nat.reduceMul, Nat.reduceSub, Nat.reduceLeDiff, Nat.reduceLT, reduceIte, reduceCtorEq, Int.reduceToNat, Int.reduceLE, Int.reduceLT, Int.reduceNeg, Bool.not_not, and_self, Bool.and_eq_false_iff, Int.cast_ofNat_Int, Int.reduceAdd, Int.reduceSub, Int.reduceMul, Int.reduceEq, Int.reduceNe]) (by simp only [go_sem, Nat.reduceEqDiff, Nat.reduceBEq, Nat.reduceAdd, Nat.reduceMul, Nat.reduceSub, Nat.reduceLeDiff, Nat.reduceLT, reduceIte, reduceCtorEq, Int.reduceToNat, Int.reduceLE, Int.reduceLT, Int.reduceNeg, Bool.not_not, and_self, Bool.and_eq_false_iff, Int.cast_ofNat_Int, Int.reduceAdd, Int.reduceSub, Int.reduceMul, Int.reduceEq, Int.reduceNe]) (fn51 l id hl) ⟨rfl, trivial⟩ trivial ?_
  simp only [go_sem, Nat.reduceEqDiff, Nat.reduceBEq, Nat.reduceAdd, Nat.reduceMul, Nat.reduceSub, Nat.reduceLeDiff, Nat.reduceLT, reduceIte, reduceCtorEq, Int.reduceToNat, Int.reduceLE, Int.reduceLT, Int.reduceNeg, Bool.not_not, and_self, Bool.and_eq_false_iff, Int.cast_ofNat_Int, Int.reduceAdd, Int.reduceSub, Int.reduceMul, Int.reduceEq, Int.reduceNe]
  refine ⟨fun h2 => ?_, fun h2 => ?_⟩
  · simp [nackO, hc, ht, h2]
  obtain ⟨n, hn, h4, h5⟩ := findO_at h2
  have hm := (mayO_iff _).1 (checkO_may hc (List.getElem_mem hn))
  simp only [go_sem, Nat.reduceEqDiff, Nat.reduceBEq, Nat.reduceAdd, Nat.reduceMul, Nat.reduceSub, Nat.reduceLeDiff, Nat.reduceLT, reduceIte, reduceCtorEq, Int.reduceToNat, Int.reduceLE, Int.reduceLT, Int.reduceNeg, Bool.not_not, and_self, Bool.and_eq_false_iff, Int.cast_ofNat_Int, Int.reduceAdd, Int.reduceSub, Int.reduceMul, Int.reduceEq, Int.reduceNe, h4, wf_os, getD_map hn, show (n : Int) < (l.length : Int) by omega]
  refine ⟨fun h6 => ?_, fun h6 => ?_⟩
  · refine runR_call (by simp only [go_sem, Nat.reduceEqDiff, Nat.reduceBEq, Nat.reduceAdd, Nat.reduceMul, Nat.reduceSub, Nat.reduceLeDiff, Nat.reduceLT, reduceIte, reduceCtorEq, Int.reduceToNat, Int.reduceLE, Int.reduceLT, Int.reduceNeg, Bool.not_not, and_self, Bool.and_eq_false_iff, Int.cast_ofNat_Int, Int.reduceAdd, Int.reduceSub, Int.reduceMul, Int.reduceEq, Int.reduceNe]) rfl (fn30 l id hl hs) (.inl rfl) trivial ?_
    simp only [go_sem, Nat.reduceEqDiff, Nat.reduceBEq, Nat.reduceAdd, Nat.reduceMul, Nat.reduceSub, Nat.reduceLeDiff, Nat.reduceLT, reduceIte, reduceCtorEq, Int.reduceToNat, Int.reduceLE, Int.reduceLT, Int.reduceNeg, Bool.not_not, and_self, Bool.and_eq_false_iff, Int.cast_ofNat_Int, Int.reduceAdd, Int.reduceSub, Int.reduceMul, Int.reduceEq, Int.reduceNe]
    simp [nackO, ackO, hc, ht, h4, show ¬ (n : Int) < 0 by omega, hn, h6]
  · have hp := pow_le5 hm.2.2.2.1.1 hm.2.2.2.1.2
    have hl5 : [PV.sc (Value.int IntKind.i64 0), PV.sc (Value.int IntKind.i64 2), PV.sc (Value.int IntKind.i64 4), PV.sc (Value.int IntKind.i64 8), PV.sc (Value.int IntKind.i64 16)].getD (l[n].tries + 1).toNat default = pI (2 ^ (l[n].tries + 1).toNat) := by
      have : l[n].tries = 0 ∨ l[n].tries = 1 ∨ l[n].tries = 2 ∨ l[n].tries = 3 := by omega
      rcases this with h | h | h | h <;> rw [h] <;> rfl
    simp only [go_sem, Nat.reduceEqDiff, Nat.reduceBEq, Nat.reduceAdd, Nat.reduceMul, Nat.reduceSub, Nat.reduceLeDiff, Nat.reduceLT, reduceIte, reduceCtorEq, Int.reduceToNat, Int.reduceLE, Int.reduceLT, Int.reduceNeg, Bool.not_not, and_self, Bool.and_eq_false_iff, Int.cast_ofNat_Int, Int.reduceAdd, Int.reduceSub, Int.reduceMul, Int.reduceEq, Int.reduceNe, hl5]
    have e2 : nackO l id now = ⟨l.set n (nackOne l[n] now), false, 0⟩ := by
      simp [nackO, hc, ht, h4, show ¬ (n : Int) < 0 by omega, hn, h6]
    have e3 := withO_set (x := nackOne l[n] now) hn (checkO_ord hc) rfl
    refine ⟨⟨by omega, by omega⟩, ⟨by omega, by omega, wf_is [0, 2, 4, 8, 16]⟩, ⟨by omega, by omega⟩, ?_⟩
    rw [e2, ← e3]
    refine ⟨fun h7 => ?_, fun h7 => ?_⟩
    · have e4 : nackOne l[n] now = ⟨l[n].id, l[n].sub, l[n].ids, l[n].tries + 1, 1099511627775⟩ := by unfold nackOne; rw [if_pos h7]
      rw [e4]
      refine runR_call (by simp only [go_sem, Nat.reduceEqDiff, Nat.reduceBEq, Nat.reduceAdd, Nat.reduceMul, Nat.reduceSub, Nat.reduceLeDiff, Nat.reduceLT, reduceIte, reduceCtorEq, Int.reduceToNat, Int.reduceLE, Int.reduceLT, Int.reduceNeg, Bool.not_not, and_self, Bool.and_eq_false_iff, Int.cast_ofNat_Int, Int.reduceAdd, Int.reduceSub, Int.reduceMul, Int.reduceEq, Int.reduceNe]) rfl (fn80 l ⟨l[n].id, l[n].sub, l[n].ids, l[n].tries + 1, 1099511627775⟩ hl) (.inl rfl) trivial ?_
      simp only [go_sem, Nat.reduceEqDiff, Nat.reduceBEq, Nat.reduceAdd, Nat.reduceMul, Nat.reduceSub, Nat.reduceLeDiff, Nat.reduceLT, reduceIte, reduceCtorEq, Int.reduceToNat, Int.reduceLE, Int.reduceLT, Int.reduceNeg, Bool.not_not, and_self, Bool.and_eq_false_iff, Int.cast_ofNat_Int, Int.reduceAdd, Int.reduceSub, Int.reduceMul, Int.reduceEq, Int.reduceNe]
    · have e4 : nackOne l[n] now = ⟨l[n].id, l[n].sub, l[n].ids, l[n].tries + 1, now + 2 ^ (l[n].tries + 1).toNat⟩ := by unfold nackOne; rw [if_neg h7]
      rw [e4]
      refine runR_call (by simp only [go_sem, Nat.reduceEqDiff, Nat.reduceBEq, Nat.reduceAdd, Nat.reduceMul, Nat.reduceSub, Nat.reduceLeDiff, Nat.reduceLT, reduceIte, reduceCtorEq, Int.reduceToNat, Int.reduceLE, Int.reduceLT, Int.reduceNeg, Bool.not_not, and_self, Bool.and_eq_false_iff, Int.cast_ofNat_Int, Int.reduceAdd, Int.reduceSub, Int.reduceMul, Int.reduceEq, Int.reduceNe]) rfl (fn80 l ⟨l[n].id, l[n].sub, l[n].ids, l[n].tries + 1, now + 2 ^ (l[n].tries + 1).toNat⟩ hl) (.inl rfl) trivial ?_
      simp only [go_sem, Nat.reduceEqDiff, Nat.reduceBEq, Nat.reduceAdd, Nat.reduceMul, Nat.reduceSub, Nat.reduceLeDiff, Nat.reduceLT, reduceIte, reduceCtorEq, Int.reduceToNat, Int.reduceLE, Int.reduceLT, Int.reduceNeg, Bool.not_not, and_self, Bool.and_eq_false_iff, Int.cast_ofNat_Int, Int.reduceAdd, Int.reduceSub, Int.reduceMul, Int.reduceEq, Int.reduceNe]
theorem oneO_idem (x : Ot) : oneO (oneO x) = oneO x := by
  have : few60 (few60 x.sub) = few60 x.sub := by
    have := few60_size x.sub
    generalize few60 x.sub = s at *
    unfold few60
    split
    · omega
    · rfl
  simp [oneO, this, List.take_take]
theorem fewO_idem (l : List Ot) : fewO (fewO l) = fewO l := by
  have h := (fewO_lt l).1
  have : fewO (fewO l) = (fewO l).map oneO := by
    rw [show fewO (fewO l) = ((fewO l).take 101).map oneO from rfl, List.take_of_length_le h]
  rw [this]
  unfold fewO
  rw [List.map_map]
  refine List.map_congr_left fun x _ => oneO_idem x
theorem getD_ids {l : List Ot} {i : Nat} {k : Nat} (h : ∀ x ∈ l, x.ids.length ≤ k) : (l.getD i default).ids.length ≤ k := by
  by_cases hi : i < l.length
  · rw [getD_get hi]; exact h _ (List.getElem_mem hi)
  · rw [List.getD_eq_getElem?_getD, List.getElem?_eq_none (by omega)]; exact Nat.zero_le _
theorem nextO_ids {l : List Ot} {now : Int} {k : Nat} (h : ∀ x ∈ l, x.ids.length ≤ k) : (nextO l now).1.ids.length ≤ k := by
  unfold nextO
  split
  · exact Nat.zero_le _
  · split
    · exact Nat.zero_le _
    · exact getD_ids h
theorem nackO_small {l : List Ot} {id now : Int} {k : Nat} (h : ∀ x ∈ l, x.ids.length ≤ k) : (nackO l id now).l.length ≤ l.length ∧ ∀ x ∈ (nackO l id now).l, x.ids.length ≤ k := by
  unfold nackO
  split
  · simp
  · split
    · simp
    · split
      · have := cutO_sub l (findO l id).toNat
        exact ⟨this.length_le, fun x hx => h x (this.subset hx)⟩
      · refine ⟨by simp, fun x hx => ?_⟩
        rcases List.mem_or_eq_of_mem_set hx with h2 | h2
        · exact h x h2
        · rw [h2]; exact getD_ids h
theorem law5 (l : List Ot) (id now : Int) (hl : l.length ≤ 9223372036854775807) (hk : ∀ x ∈ l, x.ids.length ≤ 9223372036854775807) : Fn Try.prog 5 [os l, pU id, pI now] (.pv (pB true)) [] := by
  refine Run5 [] (by simp) ?_
  simp only [go_sem, Nat.reduceEqDiff, Nat.reduceBEq, Nat.reduceAdd, Nat.reduceMul, Nat.reduceSub, Nat.reduceLeDiff, Nat.reduceLT, reduceIte, reduceCtorEq, Int.reduceToNat, Int.reduceLE, Int.reduceLT, Int.reduceNeg, Bool.not_not, and_self, Bool.and_eq_false_iff, Int.cast_ofNat_Int, Int.reduceAdd, Int.reduceSub, Int.reduceMul, Int.reduceEq, Int.reduceNe, M5]
  refine runR_call (by simp only [go_sem, Nat.reduceEqDiff, Nat.reduceBEq, Nat.reduceAdd, Nat.reduceMul, Nat.reduceSub, Nat.reduceLeDiff, Nat.reduceLT, reduceIte, reduceCtorEq, Int.reduceToNat, Int.reduceLE, Int.reduceLT, Int.reduceNeg, Bool.not_not, and_self, Bool.and_eq_false_iff, Int.cast_ofNat_Int, Int.reduceAdd, Int.reduceSub, Int.reduceMul, Int.reduceEq, Int.reduceNe]) rfl (fn20 l hl hk) (.inl rfl) trivial ?_
  simp only [go_sem, Nat.reduceEqDiff, Nat.reduceBEq, Nat.reduceAdd, Nat.reduceMul, Nat.reduceSub, Nat.reduceLeDiff, Nat.reduceLT, reduceIte, reduceCtorEq, Int.reduceToNat, Int.reduceLE, Int.reduceLT, Int.reduceNeg, Bool.not_not, and_self, Bool.and_eq_false_iff, Int.cast_ofNat_Int, Int.reduceAdd, Int.reduceSub, Int.reduceMul, Int.reduceEq, Int.reduceNe]
  have h1 := fewO_lt l
  have h20 := fn20 (fewO l) (by omega) (fun x hx => by have := h1.2 x hx; omega)
  rw [fewO_idem] at h20
  refine runR_call (by simp only [go_sem, Nat.reduceEqDiff, Nat.reduceBEq, Nat.reduceAdd, Nat.reduceMul, Nat.reduceSub, Nat.reduceLeDiff, Nat.reduceLT, reduceIte, reduceCtorEq, Int.reduceToNat, Int.reduceLE, Int.reduceLT, Int.reduceNeg, Bool.not_not, and_self, Bool.and_eq_false_iff, Int.cast_ofNat_Int, Int.reduceAdd, Int.reduceSub, Int.reduceMul, Int.reduceEq, Int.reduceNe]) rfl (h20) (.inl rfl) trivial ?_
  simp only [go_sem, Nat.reduceEqDiff, Nat.reduceBEq, Nat.reduceAdd, Nat.reduceMul, Nat.reduceSub, Nat.reduceLeDiff, Nat.reduceLT, reduceIte, reduceCtorEq, Int.reduceToNat, Int.reduceLE, Int.reduceLT, Int.reduceNeg, Bool.not_not, and_self, Bool.and_eq_false_iff, Int.cast_ofNat_Int, Int.reduceAdd, Int.reduceSub, Int.reduceMul, Int.reduceEq, Int.reduceNe]
  have hs : ∀ x ∈ fewO l, x.sub.size ≤ 1000 := fun x hx => by
    obtain ⟨y, _, rfl⟩ := List.mem_map.1 hx
    exact Nat.le_trans (few60_size y.sub) (by decide)
  generalize fewO l = l at *
  have hl2 : l.length < 100000 := by omega
  refine runR_call (by simp only [go_sem, Nat.reduceEqDiff, Nat.reduceBEq, Nat.reduceAdd, Nat.reduceMul, Nat.reduceSub, Nat.reduceLeDiff, Nat.reduceLT, reduceIte, reduceCtorEq, Int.reduceToNat, Int.reduceLE, Int.reduceLT, Int.reduceNeg, Bool.not_not, and_self, Bool.and_eq_false_iff, Int.cast_ofNat_Int, Int.reduceAdd, Int.reduceSub, Int.reduceMul, Int.reduceEq, Int.reduceNe]) rfl (fn28 l now hl2) (.inl rfl) trivial ?_
  simp only [go_sem, Nat.reduceEqDiff, Nat.reduceBEq, Nat.reduceAdd, Nat.reduceMul, Nat.reduceSub, Nat.reduceLeDiff, Nat.reduceLT, reduceIte, reduceCtorEq, Int.reduceToNat, Int.reduceLE, Int.reduceLT, Int.reduceNeg, Bool.not_not, and_self, Bool.and_eq_false_iff, Int.cast_ofNat_Int, Int.reduceAdd, Int.reduceSub, Int.reduceMul, Int.reduceEq, Int.reduceNe]
  refine runR_call (by simp only [go_sem, Nat.reduceEqDiff, Nat.reduceBEq, Nat.reduceAdd, Nat.reduceMul, Nat.reduceSub, Nat.reduceLeDiff, Nat.reduceLT, reduceIte, reduceCtorEq, Int.reduceToNat, Int.reduceLE, Int.reduceLT, Int.reduceNeg, Bool.not_not, and_self, Bool.and_eq_false_iff, Int.cast_ofNat_Int, Int.reduceAdd, Int.reduceSub, Int.reduceMul, Int.reduceEq, Int.reduceNe]) rfl (fn29 l now hl2 hs) (.inl rfl) trivial ?_
  simp only [go_sem, Nat.reduceEqDiff, Nat.reduceBEq, Nat.reduceAdd, Nat.reduceMul, Nat.reduceSub, Nat.reduceLeDiff, Nat.reduceLT, reduceIte, reduceCtorEq, Int.reduceToNat, Int.reduceLE, Int.reduceLT, Int.reduceNeg, Bool.not_not, and_self, Bool.and_eq_false_iff, Int.cast_ofNat_Int, Int.reduceAdd, Int.reduceSub, Int.reduceMul, Int.reduceEq, Int.reduceNe]
  refine runR_call (by simp only [go_sem, Nat.reduceEqDiff, Nat.reduceBEq, Nat.reduceAdd, Nat.reduceMul, Nat.reduceSub, Nat.reduceLeDiff, Nat.reduceLT, reduceIte, reduceCtorEq, Int.reduceToNat, Int.reduceLE, Int.reduceLT, Int.reduceNeg, Bool.not_not, and_self, Bool.and_eq_false_iff, Int.cast_ofNat_Int, Int.reduceAdd, Int.reduceSub, Int.reduceMul, Int.reduceEq, Int.reduceNe]) rfl (fn21 l id hl2) (.inl rfl) trivial ?_
  simp only [go_sem, Nat.reduceEqDiff, Nat.reduceBEq, Nat.reduceAdd, Nat.reduceMul, Nat.reduceSub, Nat.reduceLeDiff, Nat.reduceLT, reduceIte, reduceCtorEq, Int.reduceToNat, Int.reduceLE, Int.reduceLT, Int.reduceNeg, Bool.not_not, and_self, Bool.and_eq_false_iff, Int.cast_ofNat_Int, Int.reduceAdd, Int.reduceSub, Int.reduceMul, Int.reduceEq, Int.reduceNe]
  refine runR_call (by simp only [go_sem, Nat.reduceEqDiff, Nat.reduceBEq, Nat.reduceAdd, Nat.reduceMul, Nat.reduceSub, Nat.reduceLeDiff, Nat.reduceLT, reduceIte, reduceCtorEq, Int.reduceToNat, Int.reduceLE, Int.reduceLT, Int.reduceNeg, Bool.not_not, and_self, Bool.and_eq_false_iff, Int.cast_ofNat_Int, Int.reduceAdd, Int.reduceSub, Int.reduceMul, Int.reduceEq, Int.reduceNe]) rfl (fn30 l id hl2 hs) (.inl rfl) trivial ?_
  simp only [go_sem, Nat.reduceEqDiff, Nat.reduceBEq, Nat.reduceAdd, Nat.reduceMul, Nat.reduceSub, Nat.reduceLeDiff, Nat.reduceLT, reduceIte, reduceCtorEq, Int.reduceToNat, Int.reduceLE, Int.reduceLT, Int.reduceNeg, Bool.not_not, and_self, Bool.and_eq_false_iff, Int.cast_ofNat_Int, Int.reduceAdd, Int.reduceSub, Int.reduceMul, Int.reduceEq, Int.reduceNe]
  refine runR_call (by simp only [go_sem, Nat.reduceEqDiff, Nat.reduceBEq, Nat.reduceAdd, Nat.reduceMul, Nat.reduceSub, Nat.reduceLeDiff, Nat.reduceLT, reduceIte, reduceCtorEq, Int.reduceToNat, Int.reduceLE, Int.reduceLT, Int.reduceNeg, Bool.not_not, and_self, Bool.and_eq_false_iff, Int.cast_ofNat_Int, Int.reduceAdd, Int.reduceSub, Int.reduceMul, Int.reduceEq, Int.reduceNe]) rfl (fn27 l id now hl2) (.inl rfl) trivial ?_
  simp only [go_sem, Nat.reduceEqDiff, Nat.reduceBEq, Nat.reduceAdd, Nat.reduceMul, Nat.reduceSub, Nat.reduceLeDiff, Nat.reduceLT, reduceIte, reduceCtorEq, Int.reduceToNat, Int.reduceLE, Int.reduceLT, Int.reduceNeg, Bool.not_not, and_self, Bool.and_eq_false_iff, Int.cast_ofNat_Int, Int.reduceAdd, Int.reduceSub, Int.reduceMul, Int.reduceEq, Int.reduceNe]
  refine runR_call (by simp only [go_sem, Nat.reduceEqDiff, Nat.reduceBEq, Nat.reduceAdd, Nat.reduceMul, Nat.reduceSub, Nat.reduceLeDiff, Nat.reduceLT, reduceIte, reduceCtorEq, Int.reduceToNat, Int.reduceLE, Int.reduceLT, Int.reduceNeg, Bool.not_not, and_self, Bool.and_eq_false_iff, Int.cast_ofNat_Int, Int.reduceAdd, Int.reduceSub, Int.reduceMul, Int.reduceEq, Int.reduceNe]) rfl (fn31 l id now hl2 hs) (.inl rfl) trivial ?_
  simp only [go_sem, Nat.reduceEqDiff, Nat.reduceBEq, Nat.reduceAdd, Nat.reduceMul, Nat.reduceSub, Nat.reduceLeDiff, Nat.reduceLT, reduceIte, reduceCtorEq, Int.reduceToNat, Int.reduceLE, Int.reduceLT, Int.reduceNeg, Bool.not_not, and_self, Bool.and_eq_false_iff, Int.cast_ofNat_Int, Int.reduceAdd, Int.reduceSub, Int.reduceMul, Int.reduceEq, Int.reduceNe]
  have b1 : (nextO l now).1.ids.length ≤ 31 := nextO_ids h1.2
  have b2 := nackO_small (id := id) (now := now) h1.2
  have b3 := ackO_sub l id
  have b4 := b3.length_le
  have b5 : ∀ x ∈ (ackO l id).1, x.ids.length < 100000 := fun x hx => by have := h1.2 x (b3.subset hx); omega
  have b6 : ∀ x ∈ (nackO l id now).l, x.ids.length < 100000 := fun x hx => by have := b2.2 x hx; omega
  have b7 : ∀ x ∈ l, x.ids.length < 100000 := fun x hx => by have := h1.2 x hx; omega
  refine runR_callf (by simp only [go_sem, Nat.reduceEqDiff, Nat.reduceBEq, Nat.reduceAdd, Nat.reduceMul, Nat.reduceSub, Nat.reduceLeDiff, Nat.reduceLT, reduceIte, reduceCtorEq, Int.reduceToNat, Int.reduceLE, Int.reduceLT, Int.reduceNeg, Bool.not_not, and_self, Bool.and_eq_false_iff, Int.cast_ofNat_Int, Int.reduceAdd, Int.reduceSub, Int.reduceMul, Int.reduceEq, Int.reduceNe]) (by simp only [go_sem, Nat.reduceEqDiff, Nat.reduceBEq, Nat.reduceAdd, Nat.reduceMul, Nat.reduceSub, Nat.reduceLeDiff, Nat.reduceLT, reduceIte, reduceCtorEq, Int.reduceToNat, Int.reduceLE, Int.reduceLT, Int.reduceNeg, Bool.not_not, and_self, Bool.and_eq_false_iff, Int.cast_ofNat_Int, Int.reduceAdd, Int.reduceSub, Int.reduceMul, Int.reduceEq, Int.reduceNe]) (fn32 (nextO l now).1 (nextO l now).1 (by omega) (by omega)) ⟨rfl, trivial⟩ trivial ?_
  simp only [go_sem, Nat.reduceEqDiff, Nat.reduceBEq, Nat.reduceAdd, Nat.reduceMul, Nat.reduceSub, Nat.reduceLeDiff, Nat.reduceLT, reduceIte, reduceCtorEq, Int.reduceToNat, Int.reduceLE, Int.reduceLT, Int.reduceNeg, Bool.not_not, and_self, Bool.and_eq_false_iff, Int.cast_ofNat_Int, Int.reduceAdd, Int.reduceSub, Int.reduceMul, Int.reduceEq, Int.reduceNe]
  refine runR_callgf (by simp only [go_sem, Nat.reduceEqDiff, Nat.reduceBEq, Nat.reduceAdd, Nat.reduceMul, Nat.reduceSub, Nat.reduceLeDiff, Nat.reduceLT, reduceIte, reduceCtorEq, Int.reduceToNat, Int.reduceLE, Int.reduceLT, Int.reduceNeg, Bool.not_not, and_self, Bool.and_eq_false_iff, Int.cast_ofNat_Int, Int.reduceAdd, Int.reduceSub, Int.reduceMul, Int.reduceEq, Int.reduceNe]) (by simp only [go_sem, Nat.reduceEqDiff, Nat.reduceBEq, Nat.reduceAdd, Nat.reduceMul, Nat.reduceSub, Nat.reduceLeDiff, Nat.reduceLT, reduceIte, reduceCtorEq, Int.reduceToNat, Int.reduceLE, Int.reduceLT, Int.reduceNeg, Bool.not_not, and_self, Bool.and_eq_false_iff, Int.cast_ofNat_Int, Int.reduceAdd, Int.reduceSub, Int.reduceMul, Int.reduceEq, Int.reduceNe]) (by simp only [go_sem, Nat.reduceEqDiff, Nat.reduceBEq, Nat.reduceAdd, Nat.reduceMul, Nat.reduceSub, Nat.reduceLeDiff, Nat.reduceLT, reduceIte, reduceCtorEq, Int.reduceToNat, Int.reduceLE, Int.reduceLT, Int.reduceNeg, Bool.not_not, and_self, Bool.and_eq_false_iff, Int.cast_ofNat_Int, Int.reduceAdd, Int.reduceSub, Int.reduceMul, Int.reduceEq, Int.reduceNe]) (fun _ => fn23 (ackO l id).1 (ackO l id).1 (by omega) (by omega) b5 b5) rfl ?_
  simp only [go_sem, Nat.reduceEqDiff, Nat.reduceBEq, Nat.reduceAdd, Nat.reduceMul, Nat.reduceSub, Nat.reduceLeDiff, Nat.reduceLT, reduceIte, reduceCtorEq, Int.reduceToNat, Int.reduceLE, Int.reduceLT, Int.reduceNeg, Bool.not_not, and_self, Bool.and_eq_false_iff, Int.cast_ofNat_Int, Int.reduceAdd, Int.reduceSub, Int.reduceMul, Int.reduceEq, Int.reduceNe]
  refine runR_callgf (by simp only [go_sem, Nat.reduceEqDiff, Nat.reduceBEq, Nat.reduceAdd, Nat.reduceMul, Nat.reduceSub, Nat.reduceLeDiff, Nat.reduceLT, reduceIte, reduceCtorEq, Int.reduceToNat, Int.reduceLE, Int.reduceLT, Int.reduceNeg, Bool.not_not, and_self, Bool.and_eq_false_iff, Int.cast_ofNat_Int, Int.reduceAdd, Int.reduceSub, Int.reduceMul, Int.reduceEq, Int.reduceNe]) (by simp only [go_sem, Nat.reduceEqDiff, Nat.reduceBEq, Nat.reduceAdd, Nat.reduceMul, Nat.reduceSub, Nat.reduceLeDiff, Nat.reduceLT, reduceIte, reduceCtorEq, Int.reduceToNat, Int.reduceLE, Int.reduceLT, Int.reduceNeg, Bool.not_not, and_self, Bool.and_eq_false_iff, Int.cast_ofNat_Int, Int.reduceAdd, Int.reduceSub, Int.reduceMul, Int.reduceEq, Int.reduceNe]) (by simp only [go_sem, Nat.reduceEqDiff, Nat.reduceBEq, Nat.reduceAdd, Nat.reduceMul, Nat.reduceSub, Nat.reduceLeDiff, Nat.reduceLT, reduceIte, reduceCtorEq, Int.reduceToNat, Int.reduceLE, Int.reduceLT, Int.reduceNeg, Bool.not_not, and_self, Bool.and_eq_false_iff, Int.cast_ofNat_Int, Int.reduceAdd, Int.reduceSub, Int.reduceMul, Int.reduceEq, Int.reduceNe]) (fun _ => fn23 (nackO l id now).l (nackO l id now).l (by omega) (by omega) b6 b6) rfl ?_
  simp only [go_sem, Nat.reduceEqDiff, Nat.reduceBEq, Nat.reduceAdd, Nat.reduceMul, Nat.reduceSub, Nat.reduceLeDiff, Nat.reduceLT, reduceIte, reduceCtorEq, Int.reduceToNat, Int.reduceLE, Int.reduceLT, Int.reduceNeg, Bool.not_not, and_self, Bool.and_eq_false_iff, Int.cast_ofNat_Int, Int.reduceAdd, Int.reduceSub, Int.reduceMul, Int.reduceEq, Int.reduceNe]
  refine runR_callgf (by simp only [go_sem, Nat.reduceEqDiff, Nat.reduceBEq, Nat.reduceAdd, Nat.reduceMul, Nat.reduceSub, Nat.reduceLeDiff, Nat.reduceLT, reduceIte, reduceCtorEq, Int.reduceToNat, Int.reduceLE, Int.reduceLT, Int.reduceNeg, Bool.not_not, and_self, Bool.and_eq_false_iff, Int.cast_ofNat_Int, Int.reduceAdd, Int.reduceSub, Int.reduceMul, Int.reduceEq, Int.reduceNe]) (by simp only [go_sem, Nat.reduceEqDiff, Nat.reduceBEq, Nat.reduceAdd, Nat.reduceMul, Nat.reduceSub, Nat.reduceLeDiff, Nat.reduceLT, reduceIte, reduceCtorEq, Int.reduceToNat, Int.reduceLE, Int.reduceLT, Int.reduceNeg, Bool.not_not, and_self, Bool.and_eq_false_iff, Int.cast_ofNat_Int, Int.reduceAdd, Int.reduceSub, Int.reduceMul, Int.reduceEq, Int.reduceNe]) (by simp only [go_sem, Nat.reduceEqDiff, Nat.reduceBEq, Nat.reduceAdd, Nat.reduceMul, Nat.reduceSub, Nat.reduceLeDiff, Nat.reduceLT, reduceIte, reduceCtorEq, Int.reduceToNat, Int.reduceLE, Int.reduceLT, Int.reduceNeg, Bool.not_not, and_self, Bool.and_eq_false_iff, Int.cast_ofNat_Int, Int.reduceAdd, Int.reduceSub, Int.reduceMul, Int.reduceEq, Int.reduceNe]) (fun _ => fn23 l l (by omega) (by omega) b7 b7) rfl ?_
  simp only [go_sem, Nat.reduceEqDiff, Nat.reduceBEq, Nat.reduceAdd, Nat.reduceMul, Nat.reduceSub, Nat.reduceLeDiff, Nat.reduceLT, reduceIte, reduceCtorEq, Int.reduceToNat, Int.reduceLE, Int.reduceLT, Int.reduceNeg, Bool.not_not, and_self, Bool.and_eq_false_iff, Int.cast_ofNat_Int, Int.reduceAdd, Int.reduceSub, Int.reduceMul, Int.reduceEq, Int.reduceNe]
  refine runR_callgf (by simp only [go_sem, Nat.reduceEqDiff, Nat.reduceBEq, Nat.reduceAdd, Nat.reduceMul, Nat.reduceSub, Nat.reduceLeDiff, Nat.reduceLT, reduceIte, reduceCtorEq, Int.reduceToNat, Int.reduceLE, Int.reduceLT, Int.reduceNeg, Bool.not_not, and_self, Bool.and_eq_false_iff, Int.cast_ofNat_Int, Int.reduceAdd, Int.reduceSub, Int.reduceMul, Int.reduceEq, Int.reduceNe]) (by simp only [go_sem, Nat.reduceEqDiff, Nat.reduceBEq, Nat.reduceAdd, Nat.reduceMul, Nat.reduceSub, Nat.reduceLeDiff, Nat.reduceLT, reduceIte, reduceCtorEq, Int.reduceToNat, Int.reduceLE, Int.reduceLT, Int.reduceNeg, Bool.not_not, and_self, Bool.and_eq_false_iff, Int.cast_ofNat_Int, Int.reduceAdd, Int.reduceSub, Int.reduceMul, Int.reduceEq, Int.reduceNe]) (by simp only [go_sem, Nat.reduceEqDiff, Nat.reduceBEq, Nat.reduceAdd, Nat.reduceMul, Nat.reduceSub, Nat.reduceLeDiff, Nat.reduceLT, reduceIte, reduceCtorEq, Int.reduceToNat, Int.reduceLE, Int.reduceLT, Int.reduceNeg, Bool.not_not, and_self, Bool.and_eq_false_iff, Int.cast_ofNat_Int, Int.reduceAdd, Int.reduceSub, Int.reduceMul, Int.reduceEq, Int.reduceNe]) (fun _ => fn22) rfl ?_
  simp only [go_sem, Nat.reduceEqDiff, Nat.reduceBEq, Nat.reduceAdd, Nat.reduceMul, Nat.reduceSub, Nat.reduceLeDiff, Nat.reduceLT, reduceIte, reduceCtorEq, Int.reduceToNat, Int.reduceLE, Int.reduceLT, Int.reduceNeg, Bool.not_not, and_self, Bool.and_eq_false_iff, Int.cast_ofNat_Int, Int.reduceAdd, Int.reduceSub, Int.reduceMul, Int.reduceEq, Int.reduceNe]
end Go.Vc
