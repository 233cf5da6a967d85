/- A part of the proofs of the seat Ytjlmnegbgmpekaa: the contracts of functions, each proved out of its code. -/
import Derived.Test.YtjlmnegbgmpekaaWc
import Derived.Test.YtjlmnegbgmpekaaVh
import Derived.Test.YtjlmnegbgmpekaaRows
namespace Go.Vc
open Go.Proofs
set_option linter.unusedSimpArgs false
set_option linter.unusedVariables false

/-! ## 'OutboxTurns' -/
theorem few60_size (s : ByteArray) : (few60 s).size ≤ 60 := by
  unfold few60; split
  · rw [ByteArray.size_extract]; omega
  · omega
theorem fewO_lt (l : List Ot) : (fewO l).length ≤ 101 ∧ ∀ x ∈ fewO l, x.ids.length ≤ 31 := by
  unfold fewO
  refine ⟨by rw [List.length_map, List.length_take]; omega, fun y hy => ?_⟩
  obtain ⟨x, _, rfl⟩ := List.mem_map.1 hy
  simp only [oneO, List.length_take]
  omega
abbrev OtLt (x y : Ot) : Prop := x.id < y.id
theorem checkO_ord {l : List Ot} (h : checkO l = true) : l.Pairwise OtLt := by
  have h' := (checkO_iff l).1 h
  have adj : ∀ i, i + 1 < l.length → (l.getD i default).id < (l.getD (i + 1) default).id := fun i hi => by
    have := h'.2 (i + 1) hi
    simp only [okO, Bool.and_eq_true, Bool.or_eq_true, decide_eq_true_eq, Nat.add_sub_cancel] at this
    rcases this.2 with h1 | h1
    · omega
    · exact h1
  have key : ∀ d i, i + 1 + d < l.length → (l.getD i default).id < (l.getD (i + 1 + d) default).id := by
    intro d
    induction d with
    | zero => intro i hi; exact adj i hi
    | succ d ih => intro i hi; exact Int.lt_trans (ih i (by omega)) (adj (i + 1 + d) (by omega))
  rw [List.pairwise_iff_getElem]
  intro i k hi hk hik
  have := key (k - (i + 1)) i (by omega)
  rw [show i + 1 + (k - (i + 1)) = k by omega, getD_get hi, getD_get hk] at this
  exact this
theorem checkO_of {l : List Ot} (h1 : l.length ≤ 100) (h2 : ∀ x ∈ l, mayO x = true) (h3 : l.Pairwise OtLt) : checkO l = true := by
  refine (checkO_iff l).2 ⟨h1, fun i hi => ?_⟩
  simp only [okO, Bool.and_eq_true, Bool.or_eq_true, decide_eq_true_eq, getD_get hi]
  refine ⟨h2 _ (List.getElem_mem hi), ?_⟩
  by_cases h0 : i = 0
  · exact .inl h0
  · right
    rw [getD_get (show i - 1 < l.length by omega)]
    exact List.pairwise_iff_getElem.1 h3 (i - 1) i (by omega) hi (by omega)
theorem cutO_sub (l : List Ot) (i : Nat) : (cutO l i).Sublist l := by
  unfold cutO
  have h1 : (l.take i ++ l.drop (i + 1)).Sublist (l.take i ++ l.drop i) := List.Sublist.append (List.Sublist.refl _) (by
    rw [← List.drop_drop]
    exact List.drop_sublist _ _)
  rwa [List.take_append_drop] at h1
/-- what is cut at its place is what has another number -/
theorem cutO_filter : ∀ {l : List Ot} {i : Nat} (h : i < l.length), l.Pairwise OtLt → cutO l i = l.filter (fun x => decide (x.id ≠ l[i].id))
  | [], i, h, _ => by simp at h
  | a :: l, 0, h, hs => by
    rw [List.pairwise_cons] at hs
    have : l.filter (fun x => decide (x.id ≠ a.id)) = l := List.filter_eq_self.2 fun y hy => by have := hs.1 y hy; simp; omega
    simp [cutO]
    simpa using this.symm
  | a :: l, i + 1, h, hs => by
    rw [List.pairwise_cons] at hs
    have hi : i < l.length := by simpa using h
    have ih := cutO_filter hi hs.2
    have hne : a.id ≠ l[i].id := by have := hs.1 _ (List.getElem_mem hi); omega
    simp only [cutO, List.take_succ_cons, List.drop_succ_cons, List.getElem_cons_succ, List.cons_append, List.filter_cons] at ih ⊢
    rw [if_pos (by simpa using hne), ← ih]
theorem findO_at {l : List Ot} {id : Int} (h : ¬ findO l id < 0) : ∃ n, ∃ hn : n < l.length, findO l id = n ∧ l[n].id = id := by
  rcases idxA_lt (fun x : Ot => decide (x.id = id)) l with ⟨h3, _⟩ | ⟨n, hn, h3, h4, _⟩
  · exact absurd (show findO l id < 0 by unfold findO; omega) h
  · exact ⟨n, hn, h3, by simpa using h4⟩
theorem findO_no {l : List Ot} {id : Int} : findO l id < 0 ↔ ∀ x ∈ l, x.id ≠ id := by
  rcases idxA_lt (fun x : Ot => decide (x.id = id)) l with ⟨h3, h4⟩ | ⟨n, hn, h3, h4, _⟩
  · exact ⟨fun _ x hx => by simpa using h4 x hx, fun _ => by unfold findO; omega⟩
  · refine ⟨fun h => absurd h (by unfold findO; omega), fun h => absurd (by simpa using h4) (h _ (List.getElem_mem hn))⟩
/-- an ack that is taken -/
theorem ackO_ok {l : List Ot} {id : Int} : (ackO l id).2 = 0 ↔ checkO l = true ∧ ∃ x ∈ l, x.id = id := by
  unfold ackO
  cases hc : checkO l with
  | false => simp
  | true =>
    by_cases hf : findO l id < 0
    · have := findO_no.1 hf
      simp only [hf, if_true]
      simp
      exact this
    · obtain ⟨n, hn, _, h2⟩ := findO_at hf
      simp only [hf, if_false]
      simp
      exact ⟨_, List.getElem_mem hn, h2⟩
theorem ackO_is {l : List Ot} {id : Int} (h : (ackO l id).2 = 0) : (ackO l id).1 = l.filter (fun x => decide (x.id ≠ id)) ∧ (ackO l id).1.length = l.length - 1 := by
  obtain ⟨hc, x, hx, e⟩ := ackO_ok.1 h
  have hf : ¬ findO l id < 0 := fun hf => findO_no.1 hf x hx e
  obtain ⟨n, hn, h1, h2⟩ := findO_at hf
  have e1 : (ackO l id).1 = cutO l n := by simp [ackO, hc, h1, show ¬ (n : Int) < 0 by omega]
  rw [e1]
  have := cutO_filter hn (checkO_ord hc)
  rw [h2] at this
  refine ⟨this, ?_⟩
  simp only [cutO, List.length_append, List.length_take, List.length_drop]
  omega
theorem ackO_check {l : List Ot} {id : Int} (h : (ackO l id).2 = 0) : checkO (ackO l id).1 = true := by
  obtain ⟨hc, _⟩ := ackO_ok.1 h
  have hi := ackO_is h
  have hl := ((checkO_iff l).1 hc).1
  refine checkO_of (by omega) (fun x hx => ?_) ?_
  · rw [hi.1] at hx
    exact checkO_may hc (List.mem_filter.1 hx).1
  · rw [hi.1]
    exact (checkO_ord hc).filter _
theorem ackO_none {l : List Ot} {id : Int} (h : checkO l = true) (hf : findO l id < 0) : (ackO l id).2 = 4 := by simp [ackO, h, hf]
theorem ackO_sub (l : List Ot) (id : Int) : (ackO l id).1.Sublist l := by
  unfold ackO
  split
  · exact List.nil_sublist _
  · split
    · exact List.nil_sublist _
    · exact cutO_sub _ _
theorem turns {l : List Ot} {a b : Int} (hab : a ≠ b) (h1 : (ackO l a).2 = 0) (h2 : (ackO l b).2 = 0) :
    (ackO (ackO l a).1 b).1 = (ackO (ackO l b).1 a).1 ∧ (ackO (ackO l a).1 b).2 = 0 ∧ (ackO (ackO l b).1 a).2 = 0 ∧ (ackO (ackO l a).1 a).2 = 4 ∧ (ackO (ackO l a).1 b).1.length = l.length - 2 ∧ findO (ackO (ackO l a).1 b).1 a < 0 ∧ 2 ≤ l.length := by
  obtain ⟨hc, x, hx, ex⟩ := ackO_ok.1 h1
  obtain ⟨_, y, hy, ey⟩ := ackO_ok.1 h2
  have i1 := ackO_is h1
  have i2 := ackO_is h2
  have k1 : (ackO (ackO l a).1 b).2 = 0 := ackO_ok.2 ⟨ackO_check h1, y, by rw [i1.1]; exact List.mem_filter.2 ⟨hy, by simp; omega⟩, ey⟩
  have k2 : (ackO (ackO l b).1 a).2 = 0 := ackO_ok.2 ⟨ackO_check h2, x, by rw [i2.1]; exact List.mem_filter.2 ⟨hx, by simp; omega⟩, ex⟩
  have j1 := ackO_is k1
  have j2 := ackO_is k2
  have hlen : 2 ≤ l.length := by
    have : 0 < (ackO l a).1.length := List.length_pos_of_mem (by rw [i1.1]; exact List.mem_filter.2 ⟨hy, by simp; omega⟩)
    omega
  refine ⟨?_, k1, k2, ?_, by omega, ?_, hlen⟩
  · rw [j1.1, j2.1, i1.1, i2.1, List.filter_filter, List.filter_filter]
    congr 1
    funext z
    exact Bool.and_comm _ _
  · have hno : findO (ackO l a).1 a < 0 := findO_no.2 fun z hz => by
      rw [i1.1] at hz
      simpa using (List.mem_filter.1 hz).2
    exact ackO_none (ackO_check h1) hno
  · refine findO_no.2 fun z hz => ?_
    rw [j1.1, i1.1] at hz
    have := (List.mem_filter.1 (List.mem_filter.1 hz).1).2
    simpa using this
theorem law3 (l : List Ot) (a b : Int) (hl : l.length ≤ 9223372036854775807) (hk : ∀ x ∈ l, x.ids.length ≤ 9223372036854775807) : Fn Try.prog 3 [os l, pU a, pU b] (.pv (pB true)) [] := by
  refine Run3 [] (by simp) ?_
  simp only [go_sem, Nat.reduceEqDiff, Nat.reduceBEq, Nat.reduceAdd, Nat.reduceMul, Nat.reduceSub, Nat.reduceLeDiff, Nat.reduceLT, reduceIte, reduceCtorEq, Int.reduceToNat, Int.reduceLE, Int.reduceLT, Int.reduceNeg, Bool.not_not, and_self, Bool.and_eq_false_iff, Int.cast_ofNat_Int, Int.reduceAdd, Int.reduceSub, Int.reduceMul, Int.reduceEq, Int.reduceNe, M3]
  refine runR_call (by simp only [go_sem, Nat.reduceEqDiff, Nat.reduceBEq, Nat.reduceAdd, Nat.reduceMul, Nat.reduceSub, Nat.reduceLeDiff, Nat.reduceLT, reduceIte, reduceCtorEq, Int.reduceToNat, Int.reduceLE, Int.reduceLT, Int.reduceNeg, Bool.not_not, and_self, Bool.and_eq_false_iff, Int.cast_ofNat_Int, Int.reduceAdd, Int.reduceSub, Int.reduceMul, Int.reduceEq, Int.reduceNe]) rfl (fn20 l hl hk) (.inl rfl) trivial ?_
  simp only [go_sem, Nat.reduceEqDiff, Nat.reduceBEq, Nat.reduceAdd, Nat.reduceMul, Nat.reduceSub, Nat.reduceLeDiff, Nat.reduceLT, reduceIte, reduceCtorEq, Int.reduceToNat, Int.reduceLE, Int.reduceLT, Int.reduceNeg, Bool.not_not, and_self, Bool.and_eq_false_iff, Int.cast_ofNat_Int, Int.reduceAdd, Int.reduceSub, Int.reduceMul, Int.reduceEq, Int.reduceNe]
  have h1 := fewO_lt l
  generalize fewO l = l at *
  refine runR_call (by simp only [go_sem, Nat.reduceEqDiff, Nat.reduceBEq, Nat.reduceAdd, Nat.reduceMul, Nat.reduceSub, Nat.reduceLeDiff, Nat.reduceLT, reduceIte, reduceCtorEq, Int.reduceToNat, Int.reduceLE, Int.reduceLT, Int.reduceNeg, Bool.not_not, and_self, Bool.and_eq_false_iff, Int.cast_ofNat_Int, Int.reduceAdd, Int.reduceSub, Int.reduceMul, Int.reduceEq, Int.reduceNe]) rfl (fn21 l a (by omega)) (.inl rfl) trivial ?_
  simp only [go_sem, Nat.reduceEqDiff, Nat.reduceBEq, Nat.reduceAdd, Nat.reduceMul, Nat.reduceSub, Nat.reduceLeDiff, Nat.reduceLT, reduceIte, reduceCtorEq, Int.reduceToNat, Int.reduceLE, Int.reduceLT, Int.reduceNeg, Bool.not_not, and_self, Bool.and_eq_false_iff, Int.cast_ofNat_Int, Int.reduceAdd, Int.reduceSub, Int.reduceMul, Int.reduceEq, Int.reduceNe]
  refine runR_call (by simp only [go_sem, Nat.reduceEqDiff, Nat.reduceBEq, Nat.reduceAdd, Nat.reduceMul, Nat.reduceSub, Nat.reduceLeDiff, Nat.reduceLT, reduceIte, reduceCtorEq, Int.reduceToNat, Int.reduceLE, Int.reduceLT, Int.reduceNeg, Bool.not_not, and_self, Bool.and_eq_false_iff, Int.cast_ofNat_Int, Int.reduceAdd, Int.reduceSub, Int.reduceMul, Int.reduceEq, Int.reduceNe]) rfl (fn21 l b (by omega)) (.inl rfl) trivial ?_
  simp only [go_sem, Nat.reduceEqDiff, Nat.reduceBEq, Nat.reduceAdd, Nat.reduceMul, Nat.reduceSub, Nat.reduceLeDiff, Nat.reduceLT, reduceIte, reduceCtorEq, Int.reduceToNat, Int.reduceLE, Int.reduceLT, Int.reduceNeg, Bool.not_not, and_self, Bool.and_eq_false_iff, Int.cast_ofNat_Int, Int.reduceAdd, Int.reduceSub, Int.reduceMul, Int.reduceEq, Int.reduceNe]
  have s1 := ackO_sub l a
  have s2 := ackO_sub l b
  have s3 := ackO_sub (ackO l a).1 b
  have s4 := ackO_sub (ackO l b).1 a
  have n1 := s1.length_le
  have n2 := s2.length_le
  have n3 := s3.length_le
  have n4 := s4.length_le
  refine ⟨fun h => ?_, fun h => ?_⟩
  · refine runR_callf (by simp only [go_sem, Nat.reduceEqDiff, Nat.reduceBEq, Nat.reduceAdd, Nat.reduceMul, Nat.reduceSub, Nat.reduceLeDiff, Nat.reduceLT, reduceIte, reduceCtorEq, Int.reduceToNat, Int.reduceLE, Int.reduceLT, Int.reduceNeg, Bool.not_not, and_self, Bool.and_eq_false_iff, Int.cast_ofNat_Int, Int.reduceAdd, Int.reduceSub, Int.reduceMul, Int.reduceEq, Int.reduceNe]) (by simp only [go_sem, Nat.reduceEqDiff, Nat.reduceBEq, Nat.reduceAdd, Nat.reduceMul, Nat.reduceSub, Nat.reduceLeDiff, Nat.reduceLT, reduceIte, reduceCtorEq, Int.reduceToNat, Int.reduceLE, Int.reduceLT, Int.reduceNeg, Bool.not_not, and_self, Bool.and_eq_false_iff, Int.cast_ofNat_Int, Int.reduceAdd, Int.reduceSub, Int.reduceMul, Int.reduceEq, Int.reduceNe]) (fn22) ⟨rfl, trivial⟩ trivial ?_
    simp only [go_sem, Nat.reduceEqDiff, Nat.reduceBEq, Nat.reduceAdd, Nat.reduceMul, Nat.reduceSub, Nat.reduceLeDiff, Nat.reduceLT, reduceIte, reduceCtorEq, Int.reduceToNat, Int.reduceLE, Int.reduceLT, Int.reduceNeg, Bool.not_not, and_self, Bool.and_eq_false_iff, Int.cast_ofNat_Int, Int.reduceAdd, Int.reduceSub, Int.reduceMul, Int.reduceEq, Int.reduceNe]
  have h' : ((ackO l a).2 = 0 ∧ (ackO l b).2 = 0) ∧ a ≠ b := by simpa using h
  obtain ⟨t1, t2, t3, t4, t5, t6, t7⟩ := turns h'.2 h'.1.1 h'.1.2
  refine runR_call (by simp only [go_sem, Nat.reduceEqDiff, Nat.reduceBEq, Nat.reduceAdd, Nat.reduceMul, Nat.reduceSub, Nat.reduceLeDiff, Nat.reduceLT, reduceIte, reduceCtorEq, Int.reduceToNat, Int.reduceLE, Int.reduceLT, Int.reduceNeg, Bool.not_not, and_self, Bool.and_eq_false_iff, Int.cast_ofNat_Int, Int.reduceAdd, Int.reduceSub, Int.reduceMul, Int.reduceEq, Int.reduceNe]) rfl (fn21 (ackO l a).1 b (by omega)) (.inl rfl) trivial ?_
  simp only [go_sem, Nat.reduceEqDiff, Nat.reduceBEq, Nat.reduceAdd, Nat.reduceMul, Nat.reduceSub, Nat.reduceLeDiff, Nat.reduceLT, reduceIte, reduceCtorEq, Int.reduceToNat, Int.reduceLE, Int.reduceLT, Int.reduceNeg, Bool.not_not, and_self, Bool.and_eq_false_iff, Int.cast_ofNat_Int, Int.reduceAdd, Int.reduceSub, Int.reduceMul, Int.reduceEq, Int.reduceNe]
  refine runR_call (by simp only [go_sem, Nat.reduceEqDiff, Nat.reduceBEq, Nat.reduceAdd, Nat.reduceMul, Nat.reduceSub, Nat.reduceLeDiff, Nat.reduceLT, reduceIte, reduceCtorEq, Int.reduceToNat, Int.reduceLE, Int.reduceLT, Int.reduceNeg, Bool.not_not, and_self, Bool.and_eq_false_iff, Int.cast_ofNat_Int, Int.reduceAdd, Int.reduceSub, Int.reduceMul, Int.reduceEq, Int.reduceNe]) rfl (fn21 (ackO l b).1 a (by omega)) (.inl rfl) trivial ?_
  simp only [go_sem, Nat.reduceEqDiff, Nat.reduceBEq, Nat.reduceAdd, Nat.reduceMul, Nat.reduceSub, Nat.reduceLeDiff, Nat.reduceLT, reduceIte, reduceCtorEq, Int.reduceToNat, Int.reduceLE, Int.reduceLT, Int.reduceNeg, Bool.not_not, and_self, Bool.and_eq_false_iff, Int.cast_ofNat_Int, Int.reduceAdd, Int.reduceSub, Int.reduceMul, Int.reduceEq, Int.reduceNe]
  refine runR_call (by simp only [go_sem, Nat.reduceEqDiff, Nat.reduceBEq, Nat.reduceAdd, Nat.reduceMul, Nat.reduceSub, Nat.reduceLeDiff, Nat.reduceLT, reduceIte, reduceCtorEq, Int.reduceToNat, Int.reduceLE, Int.reduceLT, Int.reduceNeg, Bool.not_not, and_self, Bool.and_eq_false_iff, Int.cast_ofNat_Int, Int.reduceAdd, Int.reduceSub, Int.reduceMul, Int.reduceEq, Int.reduceNe]) rfl (fn21 (ackO l a).1 a (by omega)) (.inl rfl) trivial ?_
  simp only [go_sem, Nat.reduceEqDiff, Nat.reduceBEq, Nat.reduceAdd, Nat.reduceMul, Nat.reduceSub, Nat.reduceLeDiff, Nat.reduceLT, reduceIte, reduceCtorEq, Int.reduceToNat, Int.reduceLE, Int.reduceLT, Int.reduceNeg, Bool.not_not, and_self, Bool.and_eq_false_iff, Int.cast_ofNat_Int, Int.reduceAdd, Int.reduceSub, Int.reduceMul, Int.reduceEq, Int.reduceNe]
  have h3 : ∀ x ∈ (ackO (ackO l a).1 b).1, x.ids.length < 100000 := fun x hx => by have := h1.2 x (s1.subset (s3.subset hx)); omega
  rw [t1] at h3 t5 t6 n3
  rw [t1]
  refine runR_callf (by simp only [go_sem, Nat.reduceEqDiff, Nat.reduceBEq, Nat.reduceAdd, Nat.reduceMul, Nat.reduceSub, Nat.reduceLeDiff, Nat.reduceLT, reduceIte, reduceCtorEq, Int.reduceToNat, Int.reduceLE, Int.reduceLT, Int.reduceNeg, Bool.not_not, and_self, Bool.and_eq_false_iff, Int.cast_ofNat_Int, Int.reduceAdd, Int.reduceSub, Int.reduceMul, Int.reduceEq, Int.reduceNe]) (by simp only [go_sem, Nat.reduceEqDiff, Nat.reduceBEq, Nat.reduceAdd, Nat.reduceMul, Nat.reduceSub, Nat.reduceLeDiff, Nat.reduceLT, reduceIte, reduceCtorEq, Int.reduceToNat, Int.reduceLE, Int.reduceLT, Int.reduceNeg, Bool.not_not, and_self, Bool.and_eq_false_iff, Int.cast_ofNat_Int, Int.reduceAdd, Int.reduceSub, Int.reduceMul, Int.reduceEq, Int.reduceNe]) (fn23 (ackO (ackO l b).1 a).1 (ackO (ackO l b).1 a).1 (by omega) (by omega) h3 h3) ⟨rfl, trivial⟩ trivial ?_
  have e1 : ((l.length - 2 : Nat) : Int) = (l.length : Int) - 2 := by omega
  simp only [go_sem, Nat.reduceEqDiff, Nat.reduceBEq, Nat.reduceAdd, Nat.reduceMul, Nat.reduceSub, Nat.reduceLeDiff, Nat.reduceLT, reduceIte, reduceCtorEq, Int.reduceToNat, Int.reduceLE, Int.reduceLT, Int.reduceNeg, Bool.not_not, and_self, Bool.and_eq_false_iff, Int.cast_ofNat_Int, Int.reduceAdd, Int.reduceSub, Int.reduceMul, Int.reduceEq, Int.reduceNe, t2, t3, t4, t5, e1]
  refine ⟨⟨by omega, by omega⟩, ?_⟩
  refine runR_callgf (by simp only [go_sem, Nat.reduceEqDiff, Nat.reduceBEq, Nat.reduceAdd, Nat.reduceMul, Nat.reduceSub, Nat.reduceLeDiff, Nat.reduceLT, reduceIte, reduceCtorEq, Int.reduceToNat, Int.reduceLE, Int.reduceLT, Int.reduceNeg, Bool.not_not, and_self, Bool.and_eq_false_iff, Int.cast_ofNat_Int, Int.reduceAdd, Int.reduceSub, Int.reduceMul, Int.reduceEq, Int.reduceNe]) (by simp only [go_sem, Nat.reduceEqDiff, Nat.reduceBEq, Nat.reduceAdd, Nat.reduceMul, Nat.reduceSub, Nat.reduceLeDiff, Nat.reduceLT, reduceIte, reduceCtorEq, Int.reduceToNat, Int.reduceLE, Int.reduceLT, Int.reduceNeg, Bool.not_not, and_self, Bool.and_eq_false_iff, Int.cast_ofNat_Int, Int.reduceAdd, Int.reduceSub, Int.reduceMul, Int.reduceEq, Int.reduceNe]) (by simp only [go_sem, Nat.reduceEqDiff, Nat.reduceBEq, Nat.reduceAdd, Nat.reduceMul, Nat.reduceSub, Nat.reduceLeDiff, Nat.reduceLT, reduceIte, reduceCtorEq, Int.reduceToNat, Int.reduceLE, Int.reduceLT, Int.reduceNeg, Bool.not_not, and_self, Bool.and_eq_false_iff, Int.cast_ofNat_Int, Int.reduceAdd, Int.reduceSub, Int.reduceMul, Int.reduceEq, Int.reduceNe]) (fun _ => fn24 (ackO (ackO l b).1 a).1 a (by omega)) rfl ?_
  simp only [go_sem, Nat.reduceEqDiff, Nat.reduceBEq, Nat.reduceAdd, Nat.reduceMul, Nat.reduceSub, Nat.reduceLeDiff, Nat.reduceLT, reduceIte, reduceCtorEq, Int.reduceToNat, Int.reduceLE, Int.reduceLT, Int.reduceNeg, Bool.not_not, and_self, Bool.and_eq_false_iff, Int.cast_ofNat_Int, Int.reduceAdd, Int.reduceSub, Int.reduceMul, Int.reduceEq, Int.reduceNe, t6]
  refine runR_callgf (by simp only [go_sem, Nat.reduceEqDiff, Nat.reduceBEq, Nat.reduceAdd, Nat.reduceMul, Nat.reduceSub, Nat.reduceLeDiff, Nat.reduceLT, reduceIte, reduceCtorEq, Int.reduceToNat, Int.reduceLE, Int.reduceLT, Int.reduceNeg, Bool.not_not, and_self, Bool.and_eq_false_iff, Int.cast_ofNat_Int, Int.reduceAdd, Int.reduceSub, Int.reduceMul, Int.reduceEq, Int.reduceNe]) (by simp only [go_sem, Nat.reduceEqDiff, Nat.reduceBEq, Nat.reduceAdd, Nat.reduceMul, Nat.reduceSub, Nat.reduceLeDiff, Nat.reduceLT, reduceIte, reduceCtorEq, Int.reduceToNat, Int.reduceLE, Int.reduceLT, Int.reduceNeg, Bool.not_not, and_self, Bool.and_eq_false_iff, Int.cast_ofNat_Int, Int.reduceAdd, Int.reduceSub, Int.reduceMul, Int.reduceEq, Int.reduceNe]) (by simp only [go_sem, Nat.reduceEqDiff, Nat.reduceBEq, Nat.reduceAdd, Nat.reduceMul, Nat.reduceSub, Nat.reduceLeDiff, Nat.reduceLT, reduceIte, reduceCtorEq, Int.reduceToNat, Int.reduceLE, Int.reduceLT, Int.reduceNeg, Bool.not_not, and_self, Bool.and_eq_false_iff, Int.cast_ofNat_Int, Int.reduceAdd, Int.reduceSub, Int.reduceMul, Int.reduceEq, Int.reduceNe]) (fun _ => fn22) rfl ?_
  simp only [go_sem, Nat.reduceEqDiff, Nat.reduceBEq, Nat.reduceAdd, Nat.reduceMul, Nat.reduceSub, Nat.reduceLeDiff, Nat.reduceLT, reduceIte, reduceCtorEq, Int.reduceToNat, Int.reduceLE, Int.reduceLT, Int.reduceNeg, Bool.not_not, and_self, Bool.and_eq_false_iff, Int.cast_ofNat_Int, Int.reduceAdd, Int.reduceSub, Int.reduceMul, Int.reduceEq, Int.reduceNe]
end Go.Vc

namespace Go.Vc
open Go.Proofs
set_option linter.unusedSimpArgs false

theorem ownTry : ownKnob Try.prog.godebug = none := by kernel_rfl
theorem laidOutTry : laidOutB Try.prog = true := by kernel_rfl
abbrev shOt : List Sh := [.int .u64, .str, .lst false [.int .u64], .int .i64, .int .i64]
theorem ot_of {ss : List PV} (h : OkShs shOt ss) : ∃ x : {x : Ot // x.ids.length ≤ 9223372036854775807}, PV.agg ss = x.1.pv := by
  simp only [OkShs] at h
  obtain ⟨_, _, rfl, h1, _, _, rfl, h2, p3, _, rfl, h3, _, _, rfl, h4, _, _, rfl, h5, rfl⟩ := h
  obtain ⟨l, rfl, hl, _⟩ := ints_of h3
  simp only [OkSh] at h1 h2 h4 h5
  obtain ⟨a, rfl, _⟩ := h1
  obtain ⟨b, rfl, _⟩ := h2
  obtain ⟨d, rfl, _⟩ := h4
  obtain ⟨e, rfl, _⟩ := h5
  exact ⟨⟨⟨a, b, l, d, e⟩, hl⟩, rfl⟩
theorem os_of {p : PV} (h : ArgOk (false, [.lst true shOt]) p) : ∃ l : List Ot, p = os l ∧ l.length ≤ 9223372036854775807 ∧ ∀ x ∈ l, x.ids.length ≤ 9223372036854775807 := by
  have h1 := OkShs_one h
  simp only [OkSh] at h1
  obtain ⟨xs, rfl, hl, hx⟩ := h1
  obtain ⟨l, rfl⟩ := map_of (f := fun x : {x : Ot // x.ids.length ≤ 9223372036854775807} => x.1.pv) (fun x hx' => by obtain ⟨qs, rfl, hq⟩ := (hx x hx').1 trivial; exact ot_of hq)
  refine ⟨l.map (·.1), by simp [Function.comp_def], by simpa [maxLen] using hl, fun x hx' => ?_⟩
  obtain ⟨y, _, rfl⟩ := List.mem_map.1 hx'
  exact y.2
end Go.Vc
