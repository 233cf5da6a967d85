/- A part of the proofs of the seat Ytjlmnegbgmpekaa: the contracts of functions, each proved out of its code. -/
import Derived.Test.YtjlmnegbgmpekaaWb
import Derived.Test.YtjlmnegbgmpekaaProg
namespace Go.Vc
open Go.Proofs
set_option linter.unusedSimpArgs false
set_option linter.unusedVariables false

/-! ## Outputs -/
def mayO (x : Ot) : Bool := decide (1 ≤ x.id) && fieldB x.sub && decide (1 ≤ x.ids.length ∧ x.ids.length ≤ 30) && decide (0 ≤ x.tries ∧ x.tries < 5) && timeB x.due
theorem fn71 (x : Ot) : Fn Try.prog 71 [x.pv] (.pv (pB (mayO x))) [] := by
  refine Run71 [] (by simp) ?_
  simp only [go_sem, Nat.reduceEqDiff, Nat.reduceBEq, Nat.reduceAdd, Nat.reduceMul, Nat.reduceSub, Nat.reduceLeDiff, Nat.reduceLT, reduceIte, reduceCtorEq, Int.reduceToNat, Int.reduceLE, Int.reduceLT, Int.reduceNeg, Bool.not_not, and_self, Bool.and_eq_false_iff, Int.cast_ofNat_Int, Int.reduceAdd, Int.reduceSub, Int.reduceMul, Int.reduceEq, Int.reduceNe, M71]
  refine runR_callgf (by simp only [go_sem, Nat.reduceEqDiff, Nat.reduceBEq, Nat.reduceAdd, Nat.reduceMul, Nat.reduceSub, Nat.reduceLeDiff, Nat.reduceLT, reduceIte, reduceCtorEq, Int.reduceToNat, Int.reduceLE, Int.reduceLT, Int.reduceNeg, Bool.not_not, and_self, Bool.and_eq_false_iff, Int.cast_ofNat_Int, Int.reduceAdd, Int.reduceSub, Int.reduceMul, Int.reduceEq, Int.reduceNe]) (by simp only [go_sem, Nat.reduceEqDiff, Nat.reduceBEq, Nat.reduceAdd, Nat.reduceMul, Nat.reduceSub, Nat.reduceLeDiff, Nat.reduceLT, reduceIte, reduceCtorEq, Int.reduceToNat, Int.reduceLE, Int.reduceLT, Int.reduceNeg, Bool.not_not, and_self, Bool.and_eq_false_iff, Int.cast_ofNat_Int, Int.reduceAdd, Int.reduceSub, Int.reduceMul, Int.reduceEq, Int.reduceNe]) (by simp only [go_sem, Nat.reduceEqDiff, Nat.reduceBEq, Nat.reduceAdd, Nat.reduceMul, Nat.reduceSub, Nat.reduceLeDiff, Nat.reduceLT, reduceIte, reduceCtorEq, Int.reduceToNat, Int.reduceLE, Int.reduceLT, Int.reduceNeg, Bool.not_not, and_self, Bool.and_eq_false_iff, Int.cast_ofNat_Int, Int.reduceAdd, Int.reduceSub, Int.reduceMul, Int.reduceEq, Int.reduceNe]) (fun _ => fn81 x.sub) rfl ?_
  simp only [go_sem, Nat.reduceEqDiff, Nat.reduceBEq, Nat.reduceAdd, Nat.reduceMul, Nat.reduceSub, Nat.reduceLeDiff, Nat.reduceLT, reduceIte, reduceCtorEq, Int.reduceToNat, Int.reduceLE, Int.reduceLT, Int.reduceNeg, Bool.not_not, and_self, Bool.and_eq_false_iff, Int.cast_ofNat_Int, Int.reduceAdd, Int.reduceSub, Int.reduceMul, Int.reduceEq, Int.reduceNe]
  refine runR_callgf (by simp only [go_sem, Nat.reduceEqDiff, Nat.reduceBEq, Nat.reduceAdd, Nat.reduceMul, Nat.reduceSub, Nat.reduceLeDiff, Nat.reduceLT, reduceIte, reduceCtorEq, Int.reduceToNat, Int.reduceLE, Int.reduceLT, Int.reduceNeg, Bool.not_not, and_self, Bool.and_eq_false_iff, Int.cast_ofNat_Int, Int.reduceAdd, Int.reduceSub, Int.reduceMul, Int.reduceEq, Int.reduceNe]) (by simp only [go_sem, Nat.reduceEqDiff, Nat.reduceBEq, Nat.reduceAdd, Nat.reduceMul, Nat.reduceSub, Nat.reduceLeDiff, Nat.reduceLT, reduceIte, reduceCtorEq, Int.reduceToNat, Int.reduceLE, Int.reduceLT, Int.reduceNeg, Bool.not_not, and_self, Bool.and_eq_false_iff, Int.cast_ofNat_Int, Int.reduceAdd, Int.reduceSub, Int.reduceMul, Int.reduceEq, Int.reduceNe]) (by simp only [go_sem, Nat.reduceEqDiff, Nat.reduceBEq, Nat.reduceAdd, Nat.reduceMul, Nat.reduceSub, Nat.reduceLeDiff, Nat.reduceLT, reduceIte, reduceCtorEq, Int.reduceToNat, Int.reduceLE, Int.reduceLT, Int.reduceNeg, Bool.not_not, and_self, Bool.and_eq_false_iff, Int.cast_ofNat_Int, Int.reduceAdd, Int.reduceSub, Int.reduceMul, Int.reduceEq, Int.reduceNe]) (fun _ => fn73 x.due) rfl ?_
  simp only [go_sem, Nat.reduceEqDiff, Nat.reduceBEq, Nat.reduceAdd, Nat.reduceMul, Nat.reduceSub, Nat.reduceLeDiff, Nat.reduceLT, reduceIte, reduceCtorEq, Int.reduceToNat, Int.reduceLE, Int.reduceLT, Int.reduceNeg, Bool.not_not, and_self, Bool.and_eq_false_iff, Int.cast_ofNat_Int, Int.reduceAdd, Int.reduceSub, Int.reduceMul, Int.reduceEq, Int.reduceNe]
  unfold mayO
  by_cases h1 : 1 ≤ x.id <;> cases h2 : fieldB x.sub <;> by_cases h3 : 1 ≤ x.ids.length <;> by_cases h4 : x.ids.length ≤ 30 <;> by_cases h5 : 0 ≤ x.tries <;> by_cases h6 : x.tries < 5 <;> cases h7 : timeB x.due <;> simp [h1, h2, h3, h4, h5, h6, h7] <;> omega
def okO (l : List Ot) (i : Nat) : Bool := mayO (l.getD i default) && (decide (i = 0) || decide ((l.getD (i - 1) default).id < (l.getD i default).id))
def checkO (l : List Ot) : Bool := decide (l.length ≤ 100) && (List.range l.length).all (okO l)
def errN (b : Bool) : Int := if b then 0 else 1
theorem checkO_iff (l : List Ot) : checkO l = true ↔ l.length ≤ 100 ∧ ∀ i, i < l.length → okO l i = true := by
  simp [checkO, List.all_eq_true]
theorem fn33 (l : List Ot) (hl : l.length < 100000) : Fn Try.prog 33 [os l] (.pv (pI (errN (checkO l)))) [] := by
  refine Run33 [] (by simp) ?_
  simp only [go_sem, Nat.reduceEqDiff, Nat.reduceBEq, Nat.reduceAdd, Nat.reduceMul, Nat.reduceSub, Nat.reduceLeDiff, Nat.reduceLT, reduceIte, reduceCtorEq, Int.reduceToNat, Int.reduceLE, Int.reduceLT, Int.reduceNeg, Bool.not_not, and_self, Bool.and_eq_false_iff, Int.cast_ofNat_Int, Int.reduceAdd, Int.reduceSub, Int.reduceMul, Int.reduceEq, Int.reduceNe, M33]
  refine ⟨fun h => ?_, fun h => ?_⟩
  · have : checkO l = false := by simp [checkO]; omega
    rw [this]; rfl
  have h100 : l.length ≤ 100 := by omega
  refine run_loop (T := Nat) (fun i => ⟨[(0, .pv (os l)), (8, .pv (os l)), (9, .pv (pI l.length)), (10, .pv (pI i))], []⟩) (fun i => i ≤ l.length ∧ ∀ j, j < i → okO l j = true) (fun i => l.length - i) 0 rfl ⟨Nat.zero_le _, fun j h => absurd h (by omega)⟩ ?_
  intro i ⟨hi, hq⟩
  by_cases hlt : i < l.length
  · have no : okO l i = false → checkO l = false := fun h => by
      cases hc : checkO l with
      | false => rfl
      | true => rw [((checkO_iff l).1 hc).2 i hlt] at h; cases h
    have next : okO l i = true → ∀ j, j < i + 1 → okO l j = true := fun h j hj => by
      by_cases hji : j = i
      · subst hji; exact h
      · exact hq j (by omega)
    simp only [go_sem, Nat.reduceEqDiff, Nat.reduceBEq, Nat.reduceAdd, Nat.reduceMul, Nat.reduceSub, Nat.reduceLeDiff, Nat.reduceLT, reduceIte, reduceCtorEq, Int.reduceToNat, Int.reduceLE, Int.reduceLT, Int.reduceNeg, Bool.not_not, and_self, Bool.and_eq_false_iff, Int.cast_ofNat_Int, Int.reduceAdd, Int.reduceSub, Int.reduceMul, Int.reduceEq, Int.reduceNe, B33_0, wf_os, getD_map hlt, show (i : Int) < (l.length : Int) by omega]
    refine runR_callf (by simp only [go_sem, Nat.reduceEqDiff, Nat.reduceBEq, Nat.reduceAdd, Nat.reduceMul, Nat.reduceSub, Nat.reduceLeDiff, Nat.reduceLT, reduceIte, reduceCtorEq, Int.reduceToNat, Int.reduceLE, Int.reduceLT, Int.reduceNeg, Bool.not_not, and_self, Bool.and_eq_false_iff, Int.cast_ofNat_Int, Int.reduceAdd, Int.reduceSub, Int.reduceMul, Int.reduceEq, Int.reduceNe]) (by simp only [go_sem, Nat.reduceEqDiff, Nat.reduceBEq, Nat.reduceAdd, Nat.reduceMul, Nat.reduceSub, Nat.reduceLeDiff, Nat.reduceLT, reduceIte, reduceCtorEq, Int.reduceToNat, Int.reduceLE, Int.reduceLT, Int.reduceNeg, Bool.not_not, and_self, Bool.and_eq_false_iff, Int.cast_ofNat_Int, Int.reduceAdd, Int.reduceSub, Int.reduceMul, Int.reduceEq, Int.reduceNe]) (fn71 l[i]) ⟨rfl, trivial⟩ trivial ?_
    have hok : okO l i = (mayO l[i] && (decide (i = 0) || decide ((l.getD (i - 1) default).id < l[i].id))) := by
      unfold okO; rw [getD_get hlt]
    by_cases h0 : i = 0
    · subst h0
      simp only [go_sem, Nat.reduceEqDiff, Nat.reduceBEq, Nat.reduceAdd, Nat.reduceMul, Nat.reduceSub, Nat.reduceLeDiff, Nat.reduceLT, reduceIte, reduceCtorEq, Int.reduceToNat, Int.reduceLE, Int.reduceLT, Int.reduceNeg, Bool.not_not, and_self, Bool.and_eq_false_iff, Int.cast_ofNat_Int, Int.reduceAdd, Int.reduceSub, Int.reduceMul, Int.reduceEq, Int.reduceNe]
      simp only [decide_true, Bool.true_or, Bool.and_true] at hok
      refine ⟨fun h => ?_, fun h => ⟨1, rfl, ⟨by omega, next (by rw [hok]; exact h)⟩, by omega⟩⟩
      rw [no (by rw [hok]; exact h)]; rfl
    · have hlt1 : i - 1 < l.length := by omega
      have e1 : ((i : Int) - 1).toNat = i - 1 := by omega
      simp only [go_sem, Nat.reduceEqDiff, Nat.reduceBEq, Nat.reduceAdd, Nat.reduceMul, Nat.reduceSub, Nat.reduceLeDiff, Nat.reduceLT, reduceIte, reduceCtorEq, Int.reduceToNat, Int.reduceLE, Int.reduceLT, Int.reduceNeg, Bool.not_not, and_self, Bool.and_eq_false_iff, Int.cast_ofNat_Int, Int.reduceAdd, Int.reduceSub, Int.reduceMul, Int.reduceEq, Int.reduceNe, wf_os, e1, getD_map hlt1, show (0 : Int) < (i : Int) by omega]
      rw [getD_get hlt1] at hok
      refine ⟨fun h => ⟨h, by omega, by omega⟩, fun h => ⟨h, by omega, by omega⟩, fun h => ?_, fun h => ⟨⟨by omega, by omega⟩, i + 1, rfl, ⟨by omega, next ?_⟩, by omega⟩⟩
      · rw [no]; rfl
        rw [hok]
        rcases h with h | h
        · rw [h]; rfl
        · simp [h0]; omega
      · rw [hok, h.1]
        simp [h0]; omega
  · simp only [go_sem, Nat.reduceEqDiff, Nat.reduceBEq, Nat.reduceAdd, Nat.reduceMul, Nat.reduceSub, Nat.reduceLeDiff, Nat.reduceLT, reduceIte, reduceCtorEq, Int.reduceToNat, Int.reduceLE, Int.reduceLT, Int.reduceNeg, Bool.not_not, and_self, Bool.and_eq_false_iff, Int.cast_ofNat_Int, Int.reduceAdd, Int.reduceSub, Int.reduceMul, Int.reduceEq, Int.reduceNe, B33_0, R33_0, show ¬ ((i : Int) < (l.length : Int)) by omega]
    have : checkO l = true := (checkO_iff l).2 ⟨h100, fun j hj => hq j (by omega)⟩
    rw [this]; rfl
theorem errN_iff (b : Bool) : (errN b = 0) = (b = true) := by cases b <;> simp [errN]
theorem errN_dec (b : Bool) : decide (errN b = 0) = b := by cases b <;> simp [errN]
def ackO (l : List Ot) (id : Int) : List Ot × Int :=
  if checkO l = false then ([], 1) else if findO l id < 0 then ([], 4) else (cutO l (findO l id).toNat, 0)
theorem fn21 (l : List Ot) (id : Int) (hl : l.length < 100000) : Fn Try.prog 21 [os l, pU id] (.pv (.tup [os (ackO l id).1, pI (ackO l id).2])) [] := by
  refine Run21 [false, false] (by simp) ?_
  simp only [go_sem, Nat.reduceEqDiff, Nat.reduceBEq, Nat.reduceAdd, Nat.reduceMul, Nat.reduceSub, Nat.reduceLeDiff, Nat.reduceLT, reduceIte, reduceCtorEq, Int.reduceToNat, Int.reduceLE, Int.reduceLT, Int.reduceNeg, Bool.not_not, and_self, Bool.and_eq_false_iff, Int.cast_ofNat_Int, Int.reduceAdd, Int.reduceSub, Int.reduceMul, Int.reduceEq, Int.reduceNe, M21]
  refine runR_callf (by simp only [go_sem, Nat.reduceEqDiff, Nat.reduceBEq, Nat.reduceAdd, Nat.reduceMul, Nat.reduceSub, Nat.reduceLeDiff, Nat.reduceLT, reduceIte, reduceCtorEq, Int.reduceToNat, Int.reduceLE, Int.reduceLT, Int.reduceNeg, Bool.not_not, and_self, Bool.and_eq_false_iff, Int.cast_ofNat_Int, Int.reduceAdd, Int.reduceSub, Int.reduceMul, Int.reduceEq, Int.reduceNe]) (by simp only [go_sem, Nat.reduceEqDiff, Nat.reduceBEq, Nat.reduceAdd, Nat.reduceMul, Nat.reduceSub, Nat.reduceLeDiff, Nat.reduceLT, reduceIte, reduceCtorEq, Int.reduceToNat, Int.reduceLE, Int.reduceLT, Int.reduceNeg, Bool.not_not, and_self, Bool.and_eq_false_iff, Int.cast_ofNat_Int, Int.reduceAdd, Int.reduceSub, Int.reduceMul, Int.reduceEq, Int.reduceNe]) (fn33 l hl) ⟨rfl, trivial⟩ trivial ?_
  cases hc : checkO l with
  | false =>
    simp only [go_sem, Nat.reduceEqDiff, Nat.reduceBEq, Nat.reduceAdd, Nat.reduceMul, Nat.reduceSub, Nat.reduceLeDiff, Nat.reduceLT, reduceIte, reduceCtorEq, Int.reduceToNat, Int.reduceLE, Int.reduceLT, Int.reduceNeg, Bool.not_not, and_self, Bool.and_eq_false_iff, Int.cast_ofNat_Int, Int.reduceAdd, Int.reduceSub, Int.reduceMul, Int.reduceEq, Int.reduceNe, errN]
    simp [ackO, hc]
  | true =>
    simp only [go_sem, Nat.reduceEqDiff, Nat.reduceBEq, Nat.reduceAdd, Nat.reduceMul, Nat.reduceSub, Nat.reduceLeDiff, Nat.reduceLT, reduceIte, reduceCtorEq, Int.reduceToNat, Int.reduceLE, Int.reduceLT, Int.reduceNeg, Bool.not_not, and_self, Bool.and_eq_false_iff, Int.cast_ofNat_Int, Int.reduceAdd, Int.reduceSub, Int.reduceMul, Int.reduceEq, Int.reduceNe, errN]
    refine runR_callf (by simp only [go_sem, Nat.reduceEqDiff, Nat.reduceBEq, Nat.reduceAdd, Nat.reduceMul, Nat.reduceSub, Nat.reduceLeDiff, Nat.reduceLT, reduceIte, reduceCtorEq, Int.reduceToNat, Int.reduceLE, Int.reduceLT, Int.reduceNeg, Bool.not_not, and_self, Bool.and_eq_false_iff, Int.cast_ofNat_Int, Int.reduceAdd, Int.reduceSub, Int.reduceMul, Int.reduceEq, Int.reduceNe]) (by simp only [go_sem, Nat.reduceEqDiff, Nat.reduceBEq, Nat.reduceAdd, Nat.reduceMul, Nat.reduceSub, Nat.reduceLeDiff, Nat.reduceLT, reduceIte, reduceCtorEq, Int.reduceToNat, Int.reduceLE, Int.reduceLT, Int.reduceNeg, Bool.not_not, and_self, Bool.and_eq_false_iff, Int.cast_ofNat_Int, Int.reduceAdd, Int.reduceSub, Int.reduceMul, Int.reduceEq, Int.reduceNe]) (fn24 l id hl) ⟨rfl, trivial⟩ trivial ?_
    simp only [go_sem, Nat.reduceEqDiff, Nat.reduceBEq, Nat.reduceAdd, Nat.reduceMul, Nat.reduceSub, Nat.reduceLeDiff, Nat.reduceLT, reduceIte, reduceCtorEq, Int.reduceToNat, Int.reduceLE, Int.reduceLT, Int.reduceNeg, Bool.not_not, and_self, Bool.and_eq_false_iff, Int.cast_ofNat_Int, Int.reduceAdd, Int.reduceSub, Int.reduceMul, Int.reduceEq, Int.reduceNe]
    refine ⟨fun h => ?_, fun h => ?_⟩
    · simp [ackO, hc, h]
    · rcases idxA_lt (fun x : Ot => decide (x.id = id)) l with ⟨h1, _⟩ | ⟨n, hn, h1, _⟩
      · exact absurd (show findO l id < 0 by unfold findO; omega) h
      · have h2 : findO l id = (n : Int) := h1
        rw [h2]
        refine runR_call (by simp only [go_sem, Nat.reduceEqDiff, Nat.reduceBEq, Nat.reduceAdd, Nat.reduceMul, Nat.reduceSub, Nat.reduceLeDiff, Nat.reduceLT, reduceIte, reduceCtorEq, Int.reduceToNat, Int.reduceLE, Int.reduceLT, Int.reduceNeg, Bool.not_not, and_self, Bool.and_eq_false_iff, Int.cast_ofNat_Int, Int.reduceAdd, Int.reduceSub, Int.reduceMul, Int.reduceEq, Int.reduceNe]) rfl (fn68 l n hn hl) (.inl rfl) trivial ?_
        simp only [go_sem, Nat.reduceEqDiff, Nat.reduceBEq, Nat.reduceAdd, Nat.reduceMul, Nat.reduceSub, Nat.reduceLeDiff, Nat.reduceLT, reduceIte, reduceCtorEq, Int.reduceToNat, Int.reduceLE, Int.reduceLT, Int.reduceNeg, Bool.not_not, and_self, Bool.and_eq_false_iff, Int.cast_ofNat_Int, Int.reduceAdd, Int.reduceSub, Int.reduceMul, Int.reduceEq, Int.reduceNe]
        simp [ackO, hc, h2, show ¬ (n : Int) < 0 by omega]
def addO (l : List Ot) (x : Ot) : List Ot × Int :=
  if checkO l = false ∨ mayO x = false then ([], 1) else if 0 < l.length ∧ x.id ≤ (l.getD (l.length - 1) default).id then ([], 8) else if 100 ≤ l.length then ([], 6) else (l ++ [x], 0)
theorem fn25 (l : List Ot) (x : Ot) (hl : l.length < 100000) : Fn Try.prog 25 [os l, x.pv] (.pv (.tup [os (addO l x).1, pI (addO l x).2])) [] := by
  refine Run25 [false, false] (by simp) ?_
  by_cases h0 : 0 < l.length
  · have e1 : ((l.length : Int) - 1).toNat = l.length - 1 := by omega
    have hlt : l.length - 1 < l.length := by omega
    simp only [go_sem, Nat.reduceEqDiff, Nat.reduceBEq, Nat.reduceAdd, Nat.reduceMul, Nat.reduceSub, Nat.reduceLeDiff, Nat.reduceLT, reduceIte, reduceCtorEq, Int.reduceToNat, Int.reduceLE, Int.reduceLT, Int.reduceNeg, Bool.not_not, and_self, Bool.and_eq_false_iff, Int.cast_ofNat_Int, Int.reduceAdd, Int.reduceSub, Int.reduceMul, Int.reduceEq, Int.reduceNe, M25]
    refine runR_callf (by simp only [go_sem, Nat.reduceEqDiff, Nat.reduceBEq, Nat.reduceAdd, Nat.reduceMul, Nat.reduceSub, Nat.reduceLeDiff, Nat.reduceLT, reduceIte, reduceCtorEq, Int.reduceToNat, Int.reduceLE, Int.reduceLT, Int.reduceNeg, Bool.not_not, and_self, Bool.and_eq_false_iff, Int.cast_ofNat_Int, Int.reduceAdd, Int.reduceSub, Int.reduceMul, Int.reduceEq, Int.reduceNe]) (by simp only [go_sem, Nat.reduceEqDiff, Nat.reduceBEq, Nat.reduceAdd, Nat.reduceMul, Nat.reduceSub, Nat.reduceLeDiff, Nat.reduceLT, reduceIte, reduceCtorEq, Int.reduceToNat, Int.reduceLE, Int.reduceLT, Int.reduceNeg, Bool.not_not, and_self, Bool.and_eq_false_iff, Int.cast_ofNat_Int, Int.reduceAdd, Int.reduceSub, Int.reduceMul, Int.reduceEq, Int.reduceNe]) (fn33 l hl) ⟨rfl, trivial⟩ trivial ?_
    simp only [go_sem, Nat.reduceEqDiff, Nat.reduceBEq, Nat.reduceAdd, Nat.reduceMul, Nat.reduceSub, Nat.reduceLeDiff, Nat.reduceLT, reduceIte, reduceCtorEq, Int.reduceToNat, Int.reduceLE, Int.reduceLT, Int.reduceNeg, Bool.not_not, and_self, Bool.and_eq_false_iff, Int.cast_ofNat_Int, Int.reduceAdd, Int.reduceSub, Int.reduceMul, Int.reduceEq, Int.reduceNe]
    refine runR_callgf (by simp only [go_sem, Nat.reduceEqDiff, Nat.reduceBEq, Nat.reduceAdd, Nat.reduceMul, Nat.reduceSub, Nat.reduceLeDiff, Nat.reduceLT, reduceIte, reduceCtorEq, Int.reduceToNat, Int.reduceLE, Int.reduceLT, Int.reduceNeg, Bool.not_not, and_self, Bool.and_eq_false_iff, Int.cast_ofNat_Int, Int.reduceAdd, Int.reduceSub, Int.reduceMul, Int.reduceEq, Int.reduceNe]) (by simp only [go_sem, Nat.reduceEqDiff, Nat.reduceBEq, Nat.reduceAdd, Nat.reduceMul, Nat.reduceSub, Nat.reduceLeDiff, Nat.reduceLT, reduceIte, reduceCtorEq, Int.reduceToNat, Int.reduceLE, Int.reduceLT, Int.reduceNeg, Bool.not_not, and_self, Bool.and_eq_false_iff, Int.cast_ofNat_Int, Int.reduceAdd, Int.reduceSub, Int.reduceMul, Int.reduceEq, Int.reduceNe]) (by simp only [go_sem, Nat.reduceEqDiff, Nat.reduceBEq, Nat.reduceAdd, Nat.reduceMul, Nat.reduceSub, Nat.reduceLeDiff, Nat.reduceLT, reduceIte, reduceCtorEq, Int.reduceToNat, Int.reduceLE, Int.reduceLT, Int.reduceNeg, Bool.not_not, and_self, Bool.and_eq_false_iff, Int.cast_ofNat_Int, Int.reduceAdd, Int.reduceSub, Int.reduceMul, Int.reduceEq, Int.reduceNe]) (fun _ => fn71 x) rfl ?_
    simp only [go_sem, Nat.reduceEqDiff, Nat.reduceBEq, Nat.reduceAdd, Nat.reduceMul, Nat.reduceSub, Nat.reduceLeDiff, Nat.reduceLT, reduceIte, reduceCtorEq, Int.reduceToNat, Int.reduceLE, Int.reduceLT, Int.reduceNeg, Bool.not_not, and_self, Bool.and_eq_false_iff, Int.cast_ofNat_Int, Int.reduceAdd, Int.reduceSub, Int.reduceMul, Int.reduceEq, Int.reduceNe, errN_dec, e1, getD_map hlt, wf_os, show (0 : Int) < (l.length : Int) by omega]
    have hd : l.getD (l.length - 1) default = l[l.length - 1] := getD_get hlt
    refine ⟨fun h => ?_, fun ⟨h1, h2⟩ => ⟨⟨by omega, by omega⟩, ⟨by omega, by omega⟩, fun h3 => ?_, fun h3 => ⟨fun h4 => ?_, fun h4 => ?_⟩⟩⟩
    · simp [addO, h]
    · simp only [addO, h1, h2, h0, hd]
      simp [h3]
    · simp only [addO, h1, h2, h0, hd]
      simp [show ¬ x.id ≤ l[l.length - 1].id by omega, show 100 ≤ l.length by omega]
    · refine runG_call (by simp only [go_sem, Nat.reduceEqDiff, Nat.reduceBEq, Nat.reduceAdd, Nat.reduceMul, Nat.reduceSub, Nat.reduceLeDiff, Nat.reduceLT, reduceIte, reduceCtorEq, Int.reduceToNat, Int.reduceLE, Int.reduceLT, Int.reduceNeg, Bool.not_not, and_self, Bool.and_eq_false_iff, Int.cast_ofNat_Int, Int.reduceAdd, Int.reduceSub, Int.reduceMul, Int.reduceEq, Int.reduceNe]) rfl (fn72 l hl) (.inl rfl) trivial ?_
      simp only [go_sem, Nat.reduceEqDiff, Nat.reduceBEq, Nat.reduceAdd, Nat.reduceMul, Nat.reduceSub, Nat.reduceLeDiff, Nat.reduceLT, reduceIte, reduceCtorEq, Int.reduceToNat, Int.reduceLE, Int.reduceLT, Int.reduceNeg, Bool.not_not, and_self, Bool.and_eq_false_iff, Int.cast_ofNat_Int, Int.reduceAdd, Int.reduceSub, Int.reduceMul, Int.reduceEq, Int.reduceNe]
      refine ⟨⟨wf_os [x], by omega, by omega⟩, ?_⟩
      have e2 : List.take l.length (List.map Ot.pv l) = List.map Ot.pv l := take_len_map _ _
      simp only [addO, h1, h2, h0, hd]
      rw [e2, List.take_of_length_le (by simp)]
      simp [show ¬ x.id ≤ l[l.length - 1].id by omega, show ¬ 100 ≤ l.length by omega]
  · have hl0 : l = [] := List.eq_nil_of_length_eq_zero (by omega)
    subst hl0
    simp only [go_sem, Nat.reduceEqDiff, Nat.reduceBEq, Nat.reduceAdd, Nat.reduceMul, Nat.reduceSub, Nat.reduceLeDiff, Nat.reduceLT, reduceIte, reduceCtorEq, Int.reduceToNat, Int.reduceLE, Int.reduceLT, Int.reduceNeg, Bool.not_not, and_self, Bool.and_eq_false_iff, Int.cast_ofNat_Int, Int.reduceAdd, Int.reduceSub, Int.reduceMul, Int.reduceEq, Int.reduceNe, M25]
    refine runR_callf (by simp only [go_sem, Nat.reduceEqDiff, Nat.reduceBEq, Nat.reduceAdd, Nat.reduceMul, Nat.reduceSub, Nat.reduceLeDiff, Nat.reduceLT, reduceIte, reduceCtorEq, Int.reduceToNat, Int.reduceLE, Int.reduceLT, Int.reduceNeg, Bool.not_not, and_self, Bool.and_eq_false_iff, Int.cast_ofNat_Int, Int.reduceAdd, Int.reduceSub, Int.reduceMul, Int.reduceEq, Int.reduceNe]) (by simp only [go_sem, Nat.reduceEqDiff, Nat.reduceBEq, Nat.reduceAdd, Nat.reduceMul, Nat.reduceSub, Nat.reduceLeDiff, Nat.reduceLT, reduceIte, reduceCtorEq, Int.reduceToNat, Int.reduceLE, Int.reduceLT, Int.reduceNeg, Bool.not_not, and_self, Bool.and_eq_false_iff, Int.cast_ofNat_Int, Int.reduceAdd, Int.reduceSub, Int.reduceMul, Int.reduceEq, Int.reduceNe]) (fn33 [] (by simp)) ⟨rfl, trivial⟩ trivial ?_
    simp only [go_sem, Nat.reduceEqDiff, Nat.reduceBEq, Nat.reduceAdd, Nat.reduceMul, Nat.reduceSub, Nat.reduceLeDiff, Nat.reduceLT, reduceIte, reduceCtorEq, Int.reduceToNat, Int.reduceLE, Int.reduceLT, Int.reduceNeg, Bool.not_not, and_self, Bool.and_eq_false_iff, Int.cast_ofNat_Int, Int.reduceAdd, Int.reduceSub, Int.reduceMul, Int.reduceEq, Int.reduceNe]
    refine runR_callgf (by simp only [go_sem, Nat.reduceEqDiff, Nat.reduceBEq, Nat.reduceAdd, Nat.reduceMul, Nat.reduceSub, Nat.reduceLeDiff, Nat.reduceLT, reduceIte, reduceCtorEq, Int.reduceToNat, Int.reduceLE, Int.reduceLT, Int.reduceNeg, Bool.not_not, and_self, Bool.and_eq_false_iff, Int.cast_ofNat_Int, Int.reduceAdd, Int.reduceSub, Int.reduceMul, Int.reduceEq, Int.reduceNe]) (by simp only [go_sem, Nat.reduceEqDiff, Nat.reduceBEq, Nat.reduceAdd, Nat.reduceMul, Nat.reduceSub, Nat.reduceLeDiff, Nat.reduceLT, reduceIte, reduceCtorEq, Int.reduceToNat, Int.reduceLE, Int.reduceLT, Int.reduceNeg, Bool.not_not, and_self, Bool.and_eq_false_iff, Int.cast_ofNat_Int, Int.reduceAdd, Int.reduceSub, Int.reduceMul, Int.reduceEq, Int.reduceNe]) (by simp only [go_sem, Nat.reduceEqDiff, Nat.reduceBEq, Nat.reduceAdd, Nat.reduceMul, Nat.reduceSub, Nat.reduceLeDiff, Nat.reduceLT, reduceIte, reduceCtorEq, Int.reduceToNat, Int.reduceLE, Int.reduceLT, Int.reduceNeg, Bool.not_not, and_self, Bool.and_eq_false_iff, Int.cast_ofNat_Int, Int.reduceAdd, Int.reduceSub, Int.reduceMul, Int.reduceEq, Int.reduceNe]) (fun _ => fn71 x) rfl ?_
    simp only [go_sem, Nat.reduceEqDiff, Nat.reduceBEq, Nat.reduceAdd, Nat.reduceMul, Nat.reduceSub, Nat.reduceLeDiff, Nat.reduceLT, reduceIte, reduceCtorEq, Int.reduceToNat, Int.reduceLE, Int.reduceLT, Int.reduceNeg, Bool.not_not, and_self, Bool.and_eq_false_iff, Int.cast_ofNat_Int, Int.reduceAdd, Int.reduceSub, Int.reduceMul, Int.reduceEq, Int.reduceNe, errN_dec]
    refine ⟨fun h => ?_, fun ⟨h1, h2⟩ => ?_⟩
    · simp [addO, h]
    · refine runG_call (by simp only [go_sem, Nat.reduceEqDiff, Nat.reduceBEq, Nat.reduceAdd, Nat.reduceMul, Nat.reduceSub, Nat.reduceLeDiff, Nat.reduceLT, reduceIte, reduceCtorEq, Int.reduceToNat, Int.reduceLE, Int.reduceLT, Int.reduceNeg, Bool.not_not, and_self, Bool.and_eq_false_iff, Int.cast_ofNat_Int, Int.reduceAdd, Int.reduceSub, Int.reduceMul, Int.reduceEq, Int.reduceNe]) rfl (fn72 [] (by simp)) (.inl rfl) trivial ?_
      simp only [go_sem, Nat.reduceEqDiff, Nat.reduceBEq, Nat.reduceAdd, Nat.reduceMul, Nat.reduceSub, Nat.reduceLeDiff, Nat.reduceLT, reduceIte, reduceCtorEq, Int.reduceToNat, Int.reduceLE, Int.reduceLT, Int.reduceNeg, Bool.not_not, and_self, Bool.and_eq_false_iff, Int.cast_ofNat_Int, Int.reduceAdd, Int.reduceSub, Int.reduceMul, Int.reduceEq, Int.reduceNe]
      refine ⟨wf_os [x], ?_⟩
      simp [addO, h1, h2]
end Go.Vc

namespace Go.Vc
open Go.Proofs
set_option maxRecDepth 100000

/-- 'outbox.Nack' -/
def M27 : MC := (.seq (.reg [⟨(some 6), none, (.q (.mv .nil))⟩, ⟨(some 7), none, (.q (.mv (.c (.bool false))))⟩, ⟨(some 8), none, (.q (.mv (.c (.int .i64 0))))⟩] [] [0, 1, 2] [1033])
  (.seq (.seq (.reg [⟨(some 10), none, (.q (.mv (.t 0)))⟩, ⟨(some 11), none, (.call (.f 33) [(.t 10)])⟩, ⟨(some 12), none, (.q (.bin .neq (.t 11) (.c (.int .i64 0))))⟩, ⟨(some 13), none,
  (.q (.mv (.t 12)))⟩, ⟨(some 14), (some (13, false)), (.q (.mv (.t 2)))⟩, ⟨(some 15), (some (13, false)), (.call (.f 73) [(.t 14)])⟩, ⟨(some 16), (some (13, false)), (.q (.not (.t 15)))⟩, ⟨(some 17),
  none, (.q (.pick (.t 13) (.c (.bool true)) (.t 16)))⟩] [] [0, 1, 2, 17] [1011, 1015, 1033]) (.cond (.t 17) (.seq (.reg [⟨(some 6), none, (.q (.mv .nil))⟩, ⟨(some 7), none,
  (.q (.mv (.c (.bool false))))⟩, ⟨(some 8), none, (.q (.mv (.c (.int .i64 1))))⟩] [] [6, 7, 8] [1031, 1033]) .ret) .skip)) (.seq (.reg [⟨(some 18), none, (.q (.mv (.t 0)))⟩, ⟨(some 19), none,
  (.q (.mv (.t 1)))⟩, ⟨(some 20), none, (.call (.f 24) [(.t 18), (.t 19)])⟩, ⟨(some 9), none, (.q (.mv (.t 20)))⟩] [] [0, 2, 9] [1020, 1033]) (.seq (.seq (.reg [⟨(some 21), none, (.q (.mv (.t 9)))⟩,
  ⟨(some 22), none, (.q (.bin .lss (.t 21) (.c (.int .i64 0))))⟩] [] [0, 2, 9, 22] [1020, 1033]) (.cond (.t 22) (.seq (.reg [⟨(some 6), none, (.q (.mv .nil))⟩, ⟨(some 7), none,
  (.q (.mv (.c (.bool false))))⟩, ⟨(some 8), none, (.q (.mv (.c (.int .i64 4))))⟩] [] [6, 7, 8] [1031, 1033]) .ret) .skip)) (.seq (.seq (.reg [⟨(some 23), none, (.q (.mv (.t 0)))⟩, ⟨(some 24), none,
  (.q (.mv (.t 9)))⟩, ⟨(some 25), none, (.q (.ia (.t 23) (.t 24) 5))⟩, ⟨(some 26), none, (.q (.fa (.t 25) 3))⟩, ⟨(some 27), none, (.q (.ld (.t 26) 1 false))⟩, ⟨(some 28), none, (.q (.bin .eql (.t 27)
  (.c (.int .i64 4))))⟩] [] [0, 2, 9, 28] [1020, 1033]) (.cond (.t 28) (.seq (.reg [⟨(some 29), none, (.q (.mv (.t 0)))⟩, ⟨(some 30), none, (.q (.mv (.t 9)))⟩, ⟨(some 31), none, (.call (.f 68)
  [(.t 29), (.t 30)])⟩, ⟨(some 6), none, (.q (.mv (.t 31)))⟩, ⟨(some 7), none, (.q (.mv (.c (.bool true))))⟩, ⟨(some 8), none, (.q (.mv (.c (.int .i64 0))))⟩] [] [6, 7, 8] [1031, 1033]) .ret) .skip))
  (.seq (.reg [⟨(some 32), none, (.q (.mv (.t 0)))⟩, ⟨(some 33), none, (.call (.f 72) [(.t 32)])⟩, ⟨(some 0), none, (.q (.mv (.t 33)))⟩] [] [0, 2, 9] [1020, 1033]) (.seq (.reg [⟨(some 34), none,
  (.q (.mv (.t 0)))⟩, ⟨(some 35), none, (.q (.mv (.t 9)))⟩, ⟨(some 36), none, (.q (.ia (.t 34) (.t 35) 5))⟩, ⟨(some 37), none, (.q (.fa (.t 36) 3))⟩, ⟨(some 38), none, (.q (.ld (.t 37) 1 false))⟩,
  ⟨(some 39), none, (.q (.bin .add (.t 38) (.c (.int .i64 1))))⟩, ⟨(some 40), none, (.q (.ia (.t 34) (.t 35) 5))⟩, ⟨(some 41), none, (.q (.fa (.t 40) 3))⟩, ⟨none, none, (.st (.t 41) (.t 39)
  1)⟩] [] [0, 2, 9] [1020, 1033]) (.seq (.reg [⟨(some 42), none, (.q (.mv (.t 0)))⟩, ⟨(some 43), none, (.q (.mv (.t 9)))⟩, ⟨(some 44), none, (.q (.mv (.t 2)))⟩, ⟨(some 45), none, (.q (.mv (.t 0)))⟩,
  ⟨(some 46), none, (.q (.mv (.t 9)))⟩, ⟨(some 47), none, (.q (.ia (.t 45) (.t 46) 5))⟩, ⟨(some 48), none, (.q (.fa (.t 47) 3))⟩, ⟨(some 49), none, (.q (.ld (.t 48) 1 false))⟩, ⟨(some 50), none,
  (.q (.shf true (.c (.int .i64 1)) (.t 49)))⟩, ⟨(some 51), none, (.q (.bin .add (.t 44) (.t 50)))⟩, ⟨(some 52), none, (.q (.mm false (.t 51) (.c (.int .i64 1099511627775))))⟩, ⟨(some 53), none,
  (.q (.ia (.t 42) (.t 43) 5))⟩, ⟨(some 54), none, (.q (.fa (.t 53) 4))⟩, ⟨none, none, (.st (.t 54) (.t 52) 1)⟩] [] [0] [1033]) (.seq (.reg [⟨(some 55), none, (.q (.mv (.t 0)))⟩, ⟨(some 6), none,
  (.q (.mv (.t 55)))⟩, ⟨(some 7), none, (.q (.mv (.c (.bool false))))⟩, ⟨(some 8), none, (.q (.mv (.c (.int .i64 0))))⟩] [] [6, 7, 8] [1031, 1033]) .ret)))))))))
theorem mc27 : ofCode Try.prog [] Try.f27.ntmps [(0, ⟨[0, 1, 2], [1033], [], 0, [], none⟩),
    (1, ⟨[0, 1, 2, 17], [1011, 1015, 1033], [], 0, [], none⟩),
    (2, ⟨[6, 7, 8], [1031, 1033], [], 0, [], none⟩),
    (3, ⟨[0, 2, 9], [1020, 1033], [], 0, [], none⟩),
    (4, ⟨[0, 2, 9, 22], [1020, 1033], [], 0, [], none⟩),
    (5, ⟨[6, 7, 8], [1031, 1033], [], 0, [], none⟩),
    (6, ⟨[0, 2, 9, 28], [1020, 1033], [], 0, [], none⟩),
    (7, ⟨[6, 7, 8], [1031, 1033], [], 0, [], none⟩),
    (8, ⟨[0, 2, 9], [1020, 1033], [], 0, [], none⟩),
    (9, ⟨[0, 2, 9], [1020, 1033], [], 0, [], none⟩),
    (10, ⟨[0], [1033], [], 0, [], none⟩),
    (11, ⟨[6, 7, 8], [1031, 1033], [], 0, [], none⟩)] (Try.f27.body.getD .skip) = some M27 := by kernel_rfl
theorem Run27 {args : List PV} {v : AV} {rs : List (Nat × List PV)} (ids : List Bool) (h : args.length ≤ 56) (hv : run Try.prog (retK [RV.tmp 6, RV.tmp 7, RV.tmp 8] ids v rs) M27 [] ⟨entry 0 args, []⟩) : Fn Try.prog 27 args v rs :=
  Fn_run ids (by kernel_rfl) Try.func27 (by decide) rfl mc27 (by kernel_rfl) (by rw [Try.ntmps27]; exact h) (by rw [Try.ntmps27]; decide) hv

/-- 'trystlaw15.awake' -/
def B22_0 : MC := (.seq (.seq (.reg [⟨(some 16), none, (.q (.mv (.t 3)))⟩, ⟨(some 17), none, (.q (.bin .lss (.t 16) (.c (.int .i64 4))))⟩] [] [1, 2, 3, 17] [1013, 1025]) (.cond (.t 17)
  .skip (.exit 0))) (.seq (.block 1 (.seq (.reg [⟨(some 21), none, (.q (.mv (.t 1)))⟩, ⟨(some 22), none, (.q (.mv (.t 3)))⟩, ⟨(some 23), none, (.q (.bin .add (.t 22) (.c (.int .i64 1))))⟩, ⟨(some 24),
  none, (.q (.bin .mul (.c (.int .i64 10)) (.t 23)))⟩, ⟨(some 25), none, (.call (.f 27) [(.t 21), (.c (.int .u64 1)), (.t 24)])⟩, ⟨(some 20), none, (.q (.mv (.t 25)))⟩, ⟨(some 26), none,
  (.q (.ext (.t 20) 0))⟩, ⟨(some 27), none, (.q (.ext (.t 20) 1))⟩, ⟨(some 28), none, (.q (.ext (.t 20) 2))⟩, ⟨(some 4), none, (.q (.mv (.t 26)))⟩, ⟨(some 5), none, (.q (.mv (.t 27)))⟩, ⟨(some 6),
  none, (.q (.mv (.t 28)))⟩] [] [2, 3, 4, 5, 6] [1013, 1025]) (.seq (.seq (.reg [⟨(some 29), none, (.q (.mv (.t 5)))⟩, ⟨(some 30), none, (.q (.mv (.t 29)))⟩, ⟨(some 31), (some (30, false)),
  (.q (.mv (.t 6)))⟩, ⟨(some 32), (some (30, false)), (.q (.bin .neq (.t 31) (.c (.int .i64 0))))⟩, ⟨(some 33), none, (.q (.pick (.t 30) (.c (.bool true)) (.t 32)))⟩, ⟨(some 34), none,
  (.q (.mv (.t 33)))⟩, ⟨(some 35), (some (34, false)), (.q (.mv (.t 4)))⟩, ⟨(some 36), (some (34, false)), (.q (.len (.t 35) false))⟩, ⟨(some 37), (some (34, false)), (.q (.bin .neq (.t 36)
  (.c (.int .i64 1))))⟩, ⟨(some 38), none, (.q (.pick (.t 34) (.c (.bool true)) (.t 37)))⟩, ⟨(some 39), none, (.q (.mv (.t 38)))⟩, ⟨(some 40), (some (39, false)), (.q (.mv (.t 4)))⟩, ⟨(some 41),
  (some (39, false)), (.q (.ia (.t 40) (.c (.int .i64 0)) 5))⟩, ⟨(some 42), (some (39, false)), (.q (.fa (.t 41) 4))⟩, ⟨(some 43), (some (39, false)), (.q (.ld (.t 42) 1 false))⟩, ⟨(some 44),
  (some (39, false)), (.q (.mv (.t 3)))⟩, ⟨(some 45), (some (39, false)), (.q (.bin .add (.t 44) (.c (.int .i64 1))))⟩, ⟨(some 46), (some (39, false)), (.q (.bin .mul (.c (.int .i64 10)) (.t 45)))⟩,
  ⟨(some 47), (some (39, false)), (.q (.mv (.t 3)))⟩, ⟨(some 48), (some (39, false)), (.q (.shf true (.c (.int .i64 2)) (.t 47)))⟩, ⟨(some 49), (some (39, false)), (.q (.bin .add (.t 46) (.t 48)))⟩,
  ⟨(some 50), (some (39, false)), (.q (.bin .neq (.t 43) (.t 49)))⟩, ⟨(some 51), none, (.q (.pick (.t 39) (.c (.bool true)) (.t 50)))⟩] [] [2, 3, 4, 51] [1013, 1025]) (.cond (.t 51)
  (.seq (.reg [⟨(some 0), none, (.q (.mv (.c (.bool false))))⟩] [] [0] [1013, 1055]) .ret) .skip)) (.reg [⟨(some 52), none, (.q (.mv (.t 4)))⟩, ⟨(some 1), none, (.q (.mv (.t 52)))⟩] [] [1, 2,
  3] [1013, 1025])))) (.reg [⟨(some 18), none, (.q (.mv (.t 3)))⟩, ⟨(some 19), none, (.q (.bin .add (.t 18) (.c (.int .i64 1))))⟩, ⟨(some 3), none, (.q (.mv (.t 19)))⟩] [] [1, 2, 3] [1013, 1025])))
def R22_0 : MC := (.seq (.reg [⟨(some 54), none, (.q (.mv (.t 1)))⟩, ⟨(some 55), none, (.call (.f 27) [(.t 54), (.c (.int .u64 1)), (.c (.int .i64 50))])⟩, ⟨(some 53), none, (.q (.mv (.t 55)))⟩,
  ⟨(some 56), none, (.q (.ext (.t 53) 0))⟩, ⟨(some 57), none, (.q (.ext (.t 53) 1))⟩, ⟨(some 58), none, (.q (.ext (.t 53) 2))⟩, ⟨(some 7), none, (.q (.mv (.t 56)))⟩, ⟨(some 8), none,
  (.q (.mv (.t 57)))⟩, ⟨(some 9), none, (.q (.mv (.t 58)))⟩] [] [2, 7, 8, 9] [1013, 1055]) (.seq (.reg [⟨(some 59), none, (.q (.mv (.t 2)))⟩, ⟨(some 60), none, (.q (.bin .eql (.t 59)
  (.c (.int .i64 0))))⟩, ⟨(some 61), none, (.q (.mv (.t 60)))⟩, ⟨(some 62), (some (61, true)), (.q (.mv (.t 7)))⟩, ⟨(some 63), (some (61, true)), (.q (.len (.t 62) false))⟩, ⟨(some 64), (some (61,
  true)), (.q (.bin .eql (.t 63) (.c (.int .i64 0))))⟩, ⟨(some 65), none, (.q (.pick (.t 61) (.t 64) (.c (.bool false))))⟩, ⟨(some 66), none, (.q (.mv (.t 65)))⟩, ⟨(some 67), (some (66, true)),
  (.q (.mv (.t 8)))⟩, ⟨(some 68), none, (.q (.pick (.t 66) (.t 67) (.c (.bool false))))⟩, ⟨(some 69), none, (.q (.mv (.t 68)))⟩, ⟨(some 70), (some (69, true)), (.q (.mv (.t 9)))⟩, ⟨(some 71),
  (some (69, true)), (.q (.bin .eql (.t 70) (.c (.int .i64 0))))⟩, ⟨(some 72), none, (.q (.pick (.t 69) (.t 71) (.c (.bool false))))⟩, ⟨(some 73), none, (.q (.mv (.t 72)))⟩, ⟨(some 74), none,
  (.q (.pick (.t 73) (.c (.bool true)) (.c (.bool false))))⟩, ⟨(some 75), none, (.q (.mv (.t 74)))⟩, ⟨(some 76), none, (.q (.pick (.t 75) (.c (.bool true)) (.c (.bool false))))⟩, ⟨(some 0), none,
  (.q (.mv (.t 76)))⟩] [] [0] [1013, 1055]) .ret))
def M22 : MC := (.seq (.reg [⟨(some 0), none, (.q (.mv (.c (.bool false))))⟩] [] [] []) (.seq (.reg [⟨(some 11), none, (.lits [(.c (.int .u64 7))] 1)⟩, ⟨(some 12), none,
  (.q (.mk [(.pv (.sc (.int .u64 0))), (.pv (.sc (.string ⟨#[]⟩))), .e0, (.pv (.sc (.int .i64 0))), (.pv (.sc (.int .i64 0)))] [(0, 1, (.c (.int .u64 1))), (1, 1, (.c (.string ⟨#[115]⟩))), (2, 1,
  (.t 11))]))⟩, ⟨(some 13), none, (.call (.f 25) [.nil, (.t 12)])⟩, ⟨(some 10), none, (.q (.mv (.t 13)))⟩, ⟨(some 14), none, (.q (.ext (.t 10) 0))⟩, ⟨(some 15), none, (.q (.ext (.t 10) 1))⟩,
  ⟨(some 1), none, (.q (.mv (.t 14)))⟩, ⟨(some 2), none, (.q (.mv (.t 15)))⟩] [] [1, 2] [1013, 1025]) (.seq (.seq (.reg [⟨(some 3), none, (.q (.mv (.c (.int .i64 0))))⟩] [] [1, 2, 3] [1013, 1025])
  (.block 0 (.loop B22_0))) R22_0)))
theorem mc22 : ofCode Try.prog [] Try.f22.ntmps [(0, ⟨[], [], [], 0, [], none⟩),
    (1, ⟨[1, 2], [1013, 1025], [], 0, [], none⟩),
    (2, ⟨[1, 2, 3], [1013, 1025], [], 0, [], none⟩),
    (3, ⟨[1, 2, 3, 17], [1013, 1025], [], 0, [], none⟩),
    (4, ⟨[1, 2, 3], [1013, 1025], [], 0, [], none⟩),
    (5, ⟨[2, 3, 4, 5, 6], [1013, 1025], [], 0, [], none⟩),
    (6, ⟨[2, 3, 4, 51], [1013, 1025], [(0, 8388607), (1, 8388606), (2, 8388604), (3, 8388600), (4, 8388592), (5, 8388576), (6, 8388544), (7, 8388480), (8, 8388352), (9, 8388096), (10, 8387584), (11, 6322176), (12, 6320128), (13, 6316032), (14, 6307840), (15, 7569408), (16, 7536640), (17, 7471104), (18, 8126464), (19, 7864320), (20, 7340032), (21, 6291456), (22, 4194304)], 8388607, [], none⟩),
    (7, ⟨[0], [1013, 1055], [], 0, [], none⟩),
    (8, ⟨[1, 2, 3], [1013, 1025], [], 0, [], none⟩),
    (9, ⟨[2, 7, 8, 9], [1013, 1055], [], 0, [], none⟩),
    (10, ⟨[0], [1013, 1055], [], 0, [], none⟩)] (Try.f22.body.getD .skip) = some M22 := by kernel_rfl
theorem Run22 {args : List PV} {v : AV} {rs : List (Nat × List PV)} (ids : List Bool) (h : args.length ≤ 77) (hv : run Try.prog (retK [RV.tmp 0] ids v rs) M22 [] ⟨entry 0 args, []⟩) : Fn Try.prog 22 args v rs :=
  Fn_run ids (by kernel_rfl) Try.func22 (by decide) rfl mc22 (by kernel_rfl) (by rw [Try.ntmps22]; exact h) (by rw [Try.ntmps22]; decide) hv

/-- 'trystlaw15.OutboxTurns' -/
def M3 : MC := (.seq (.reg [⟨(some 6), none, (.q (.mv (.c (.bool false))))⟩] [] [0, 1, 2] [1018]) (.seq (.reg [⟨(some 17), none, (.q (.mv (.t 0)))⟩, ⟨(some 18), none, (.call (.f 20) [(.t 17)])⟩,
  ⟨(some 0), none, (.q (.mv (.t 18)))⟩] [] [0, 1, 2] [1018]) (.seq (.reg [⟨(some 20), none, (.q (.mv (.t 0)))⟩, ⟨(some 21), none, (.q (.mv (.t 1)))⟩, ⟨(some 22), none, (.call (.f 21) [(.t 20),
  (.t 21)])⟩, ⟨(some 19), none, (.q (.mv (.t 22)))⟩, ⟨(some 23), none, (.q (.ext (.t 19) 0))⟩, ⟨(some 24), none, (.q (.ext (.t 19) 1))⟩, ⟨(some 7), none, (.q (.mv (.t 23)))⟩, ⟨(some 8), none,
  (.q (.mv (.t 24)))⟩] [] [0, 1, 2, 7, 8] [1018, 1022]) (.seq (.reg [⟨(some 26), none, (.q (.mv (.t 0)))⟩, ⟨(some 27), none, (.q (.mv (.t 2)))⟩, ⟨(some 28), none, (.call (.f 21) [(.t 26), (.t 27)])⟩,
  ⟨(some 25), none, (.q (.mv (.t 28)))⟩, ⟨(some 29), none, (.q (.ext (.t 25) 0))⟩, ⟨(some 30), none, (.q (.ext (.t 25) 1))⟩, ⟨(some 9), none, (.q (.mv (.t 29)))⟩, ⟨(some 10), none,
  (.q (.mv (.t 30)))⟩] [] [0, 1, 2, 7, 8, 9, 10] [1018, 1022, 1028]) (.seq (.seq (.reg [⟨(some 31), none, (.q (.mv (.t 8)))⟩, ⟨(some 32), none, (.q (.bin .neq (.t 31) (.c (.int .i64 0))))⟩,
  ⟨(some 33), none, (.q (.mv (.t 32)))⟩, ⟨(some 34), (some (33, false)), (.q (.mv (.t 10)))⟩, ⟨(some 35), (some (33, false)), (.q (.bin .neq (.t 34) (.c (.int .i64 0))))⟩, ⟨(some 36), none,
  (.q (.pick (.t 33) (.c (.bool true)) (.t 35)))⟩, ⟨(some 37), none, (.q (.mv (.t 36)))⟩, ⟨(some 38), (some (37, false)), (.q (.mv (.t 1)))⟩, ⟨(some 39), (some (37, false)), (.q (.mv (.t 2)))⟩,
  ⟨(some 40), (some (37, false)), (.q (.bin .eql (.t 38) (.t 39)))⟩, ⟨(some 41), none, (.q (.pick (.t 37) (.c (.bool true)) (.t 40)))⟩] [] [0, 1, 2, 7, 9, 41] [1018, 1022, 1028]) (.cond (.t 41)
  (.seq (.reg [⟨(some 42), none, (.call (.f 22) [])⟩, ⟨(some 6), none, (.q (.mv (.t 42)))⟩] [] [6] [1042, 1046, 1052, 1058, 1063, 1087, 1091]) .ret) .skip)) (.seq (.reg [⟨(some 44), none,
  (.q (.mv (.t 7)))⟩, ⟨(some 45), none, (.q (.mv (.t 2)))⟩, ⟨(some 46), none, (.call (.f 21) [(.t 44), (.t 45)])⟩, ⟨(some 43), none, (.q (.mv (.t 46)))⟩, ⟨(some 47), none, (.q (.ext (.t 43) 0))⟩,
  ⟨(some 48), none, (.q (.ext (.t 43) 1))⟩, ⟨(some 11), none, (.q (.mv (.t 47)))⟩, ⟨(some 12), none, (.q (.mv (.t 48)))⟩] [] [0, 1, 7, 9, 11, 12] [1018, 1022, 1028, 1046]) (.seq (.reg [⟨(some 50),
  none, (.q (.mv (.t 9)))⟩, ⟨(some 51), none, (.q (.mv (.t 1)))⟩, ⟨(some 52), none, (.call (.f 21) [(.t 50), (.t 51)])⟩, ⟨(some 49), none, (.q (.mv (.t 52)))⟩, ⟨(some 53), none, (.q (.ext (.t 49)
  0))⟩, ⟨(some 54), none, (.q (.ext (.t 49) 1))⟩, ⟨(some 13), none, (.q (.mv (.t 53)))⟩, ⟨(some 14), none, (.q (.mv (.t 54)))⟩] [] [0, 1, 7, 11, 12, 13, 14] [1018, 1022, 1046, 1052])
  (.seq (.reg [⟨(some 56), none, (.q (.mv (.t 7)))⟩, ⟨(some 57), none, (.q (.mv (.t 1)))⟩, ⟨(some 58), none, (.call (.f 21) [(.t 56), (.t 57)])⟩, ⟨(some 55), none, (.q (.mv (.t 58)))⟩, ⟨(some 59),
  none, (.q (.ext (.t 55) 0))⟩, ⟨(some 60), none, (.q (.ext (.t 55) 1))⟩, ⟨(some 15), none, (.q (.mv (.t 59)))⟩, ⟨(some 16), none, (.q (.mv (.t 60)))⟩] [] [0, 1, 11, 12, 13, 14, 16] [1018, 1046, 1052,
  1058]) (.seq (.reg [⟨(some 61), none, (.q (.mv (.t 11)))⟩, ⟨(some 62), none, (.q (.mv (.t 13)))⟩, ⟨(some 63), none, (.call (.f 23) [(.t 61), (.t 62)])⟩, ⟨(some 64), none, (.q (.mv (.t 63)))⟩,
  ⟨(some 65), (some (64, true)), (.q (.mv (.t 12)))⟩, ⟨(some 66), (some (64, true)), (.q (.bin .eql (.t 65) (.c (.int .i64 0))))⟩, ⟨(some 67), none, (.q (.pick (.t 64) (.t 66) (.c (.bool false))))⟩,
  ⟨(some 68), none, (.q (.mv (.t 67)))⟩, ⟨(some 69), (some (68, true)), (.q (.mv (.t 14)))⟩, ⟨(some 70), (some (68, true)), (.q (.bin .eql (.t 69) (.c (.int .i64 0))))⟩, ⟨(some 71), none,
  (.q (.pick (.t 68) (.t 70) (.c (.bool false))))⟩, ⟨(some 72), none, (.q (.mv (.t 71)))⟩, ⟨(some 73), (some (72, true)), (.q (.mv (.t 16)))⟩, ⟨(some 74), (some (72, true)), (.q (.bin .eql (.t 73)
  (.c (.int .i64 4))))⟩, ⟨(some 75), none, (.q (.pick (.t 72) (.t 74) (.c (.bool false))))⟩, ⟨(some 76), none, (.q (.mv (.t 75)))⟩, ⟨(some 77), (some (76, true)), (.q (.mv (.t 11)))⟩, ⟨(some 78),
  (some (76, true)), (.q (.len (.t 77) false))⟩, ⟨(some 79), (some (76, true)), (.q (.mv (.t 0)))⟩, ⟨(some 80), (some (76, true)), (.q (.len (.t 79) false))⟩, ⟨(some 81), (some (76, true)),
  (.q (.bin .sub (.t 80) (.c (.int .i64 2))))⟩, ⟨(some 82), (some (76, true)), (.q (.bin .eql (.t 78) (.t 81)))⟩, ⟨(some 83), none, (.q (.pick (.t 76) (.t 82) (.c (.bool false))))⟩, ⟨(some 84), none,
  (.q (.mv (.t 83)))⟩, ⟨(some 85), (some (84, true)), (.q (.mv (.t 11)))⟩, ⟨(some 86), (some (84, true)), (.q (.mv (.t 1)))⟩, ⟨(some 87), (some (84, true)), (.call (.f 24) [(.t 85), (.t 86)])⟩,
  ⟨(some 88), (some (84, true)), (.q (.bin .lss (.t 87) (.c (.int .i64 0))))⟩, ⟨(some 89), none, (.q (.pick (.t 84) (.t 88) (.c (.bool false))))⟩, ⟨(some 90), none, (.q (.mv (.t 89)))⟩, ⟨(some 91),
  (some (90, true)), (.call (.f 22) [])⟩, ⟨(some 92), none, (.q (.pick (.t 90) (.t 91) (.c (.bool false))))⟩, ⟨(some 6), none, (.q (.mv (.t 92)))⟩] [] [6] [1042, 1046, 1052, 1058, 1063, 1087, 1091])
  .ret)))))))))
theorem mc3 : ofCode Try.prog [] Try.f3.ntmps [(0, ⟨[0, 1, 2], [1018], [], 0, [], none⟩),
    (1, ⟨[0, 1, 2], [1018], [], 0, [], none⟩),
    (2, ⟨[0, 1, 2, 7, 8], [1018, 1022], [], 0, [], none⟩),
    (3, ⟨[0, 1, 2, 7, 8, 9, 10], [1018, 1022, 1028], [], 0, [], none⟩),
    (4, ⟨[0, 1, 2, 7, 9, 41], [1018, 1022, 1028], [], 0, [], none⟩),
    (5, ⟨[6], [1042, 1046, 1052, 1058, 1063, 1087, 1091], [], 0, [], none⟩),
    (6, ⟨[0, 1, 7, 9, 11, 12], [1018, 1022, 1028, 1046], [], 0, [], none⟩),
    (7, ⟨[0, 1, 7, 11, 12, 13, 14], [1018, 1022, 1046, 1052], [], 0, [], none⟩),
    (8, ⟨[0, 1, 11, 12, 13, 14, 16], [1018, 1046, 1052, 1058], [], 0, [], none⟩),
    (9, ⟨[6], [1042, 1046, 1052, 1058, 1063, 1087, 1091], [], 0, [], none⟩)] (Try.f3.body.getD .skip) = some M3 := by kernel_rfl
theorem Run3 {args : List PV} {v : AV} {rs : List (Nat × List PV)} (ids : List Bool) (h : args.length ≤ 93) (hv : run Try.prog (retK [RV.tmp 6] ids v rs) M3 [] ⟨entry 0 args, []⟩) : Fn Try.prog 3 args v rs :=
  Fn_run ids (by kernel_rfl) Try.func3 (by decide) rfl mc3 (by kernel_rfl) (by rw [Try.ntmps3]; exact h) (by rw [Try.ntmps3]; decide) hv

end Go.Vc

namespace Go.Vc
open Go.Proofs
set_option linter.unusedSimpArgs false
set_option linter.unusedVariables false

def nackOne (x : Ot) (now : Int) : Ot := { x with tries := x.tries + 1, due := if 1099511627775 < now + 2 ^ (x.tries + 1).toNat then 1099511627775 else now + 2 ^ (x.tries + 1).toNat }
structure NR where
  l : List Ot
  up : Bool
  err : Int
  deriving DecidableEq
abbrev NR.pv (r : NR) : PV := .tup [os r.l, pB r.up, pI r.err]
def nackO (l : List Ot) (id now : Int) : NR :=
  if checkO l = false ∨ timeB now = false then ⟨[], false, 1⟩ else if findO l id < 0 then ⟨[], false, 4⟩
  else if (l.getD (findO l id).toNat default).tries = 4 then ⟨cutO l (findO l id).toNat, true, 0⟩
  else ⟨l.set (findO l id).toNat (nackOne (l.getD (findO l id).toNat default) now), false, 0⟩
theorem mayO_iff (x : Ot) : mayO x = true ↔ 1 ≤ x.id ∧ fieldB x.sub = true ∧ (1 ≤ x.ids.length ∧ x.ids.length ≤ 30) ∧ (0 ≤ x.tries ∧ x.tries < 5) ∧ timeB x.due = true := by
  simp [mayO, and_assoc]
theorem checkO_may {l : List Ot} (h : checkO l = true) {x : Ot} (hx : x ∈ l) : mayO x = true := by
  obtain ⟨i, hi, rfl⟩ := List.mem_iff_getElem.1 hx
  have := ((checkO_iff l).1 h).2 i hi
  simp only [okO, Bool.and_eq_true, getD_get hi] at this
  exact this.1
theorem timeB_iff (n : Int) : timeB n = true ↔ 0 ≤ n ∧ n ≤ 1099511627775 := by simp [timeB]
theorem getD_setS {xs : List PV} {n : Nat} {p : PV} (h : n < xs.length) : (xs.set n p).getD n default = p := by
  simp [List.getD_eq_getElem?_getD, h]
theorem pow_le5 {t : Int} (h0 : 0 ≤ t) (h5 : t < 5) : (2 : Int) ^ (t + 1).toNat ≤ 32 ∧ 0 ≤ (2 : Int) ^ (t + 1).toNat := by
  have : t = 0 ∨ t = 1 ∨ t = 2 ∨ t = 3 ∨ t = 4 := by omega
  rcases this with h | h | h | h | h <;> subst h <;> decide
theorem fn27 (l : List Ot) (id now : Int) (hl : l.length < 100000) : Fn Try.prog 27 [os l, pU id, pI now] (.pv (nackO l id now).pv) [] := by
  refine Run27 [false, false, false] (by simp) ?_
  simp only [go_sem, Nat.reduceEqDiff, Nat.reduceBEq, Nat.reduceAdd, Nat.reduceMul, Nat.reduceSub, Nat.reduceLeDiff, Nat.reduceLT, reduceIte, reduceCtorEq, Int.reduceToNat, Int.reduceLE, Int.reduceLT, Int.reduceNeg, Bool.not_not, and_self, Bool.and_eq_false_iff, Int.cast_ofNat_Int, Int.reduceAdd, Int.reduceSub, Int.reduceMul, Int.reduceEq, Int.reduceNe, M27]
  refine runR_callf (by simp only [go_sem, Nat.reduceEqDiff, Nat.reduceBEq, Nat.reduceAdd, Nat.reduceMul, Nat.reduceSub, Nat.reduceLeDiff, Nat.reduceLT, reduceIte, reduceCtorEq, Int.reduceToNat, Int.reduceLE, Int.reduceLT, Int.reduceNeg, Bool.not_not, and_self, Bool.and_eq_false_iff, Int.cast_ofNat_Int, Int.reduceAdd, Int.reduceSub, Int.reduceMul, Int.reduceEq, Int.reduceNe]) (by simp only [go_sem, Nat.reduceEqDiff, Nat.reduceBEq, Nat.reduceAdd, Nat.reduceMul, Nat.reduceSub, Nat.reduceLeDiff, Nat.reduceLT, reduceIte, reduceCtorEq, Int.reduceToNat, Int.reduceLE, Int.reduceLT, Int.reduceNeg, Bool.not_not, and_self, Bool.and_eq_false_iff, Int.cast_ofNat_Int, Int.reduceAdd, Int.reduceSub, Int.reduceMul, Int.reduceEq, Int.reduceNe]) (fn33 l hl) ⟨rfl, trivial⟩ trivial ?_
  simp only [go_sem, Nat.reduceEqDiff, Nat.reduceBEq, Nat.reduceAdd, Nat.reduceMul, Nat.reduceSub, Nat.reduceLeDiff, Nat.reduceLT, reduceIte, reduceCtorEq, Int.reduceToNat, Int.reduceLE, Int.reduceLT, Int.reduceNeg, Bool.not_not, and_self, Bool.and_eq_false_iff, Int.cast_ofNat_Int, Int.reduceAdd, Int.reduceSub, Int.reduceMul, Int.reduceEq, Int.reduceNe]
  refine runR_callgf (by simp only [go_sem, Nat.reduceEqDiff, Nat.reduceBEq, Nat.reduceAdd, Nat.reduceMul, Nat.reduceSub, Nat.reduceLeDiff, Nat.reduceLT, reduceIte, reduceCtorEq, Int.reduceToNat, Int.reduceLE, Int.reduceLT, Int.reduceNeg, Bool.not_not, and_self, Bool.and_eq_false_iff, Int.cast_ofNat_Int, Int.reduceAdd, Int.reduceSub, Int.reduceMul, Int.reduceEq, Int.reduceNe]) (by simp only [go_sem, Nat.reduceEqDiff, Nat.reduceBEq, Nat.reduceAdd, Nat.reduceMul, Nat.reduceSub, Nat.reduceLeDiff, Nat.reduceLT, reduceIte, reduceCtorEq, Int.reduceToNat, Int.reduceLE, Int.reduceLT, Int.reduceNeg, Bool.not_not, and_self, Bool.and_eq_false_iff, Int.cast_ofNat_Int, Int.reduceAdd, Int.reduceSub, Int.reduceMul, Int.reduceEq, Int.reduceNe]) (by simp only [go_sem, Nat.reduceEqDiff, Nat.reduceBEq, Nat.reduceAdd, Nat.reduceMul, Nat.reduceSub, Nat.reduceLeDiff, Nat.reduceLT, reduceIte, reduceCtorEq, Int.reduceToNat, Int.reduceLE, Int.reduceLT, Int.reduceNeg, Bool.not_not, and_self, Bool.and_eq_false_iff, Int.cast_ofNat_Int, Int.reduceAdd, Int.reduceSub, Int.reduceMul, Int.reduceEq, Int.reduceNe]) (fun _ => fn73 now) rfl ?_
  simp only [go_sem, Nat.reduceEqDiff, Nat.reduceBEq, Nat.reduceAdd, Nat.reduceMul, Nat.reduceSub, Nat.reduceLeDiff, Nat.reduceLT, reduceIte, reduceCtorEq, Int.reduceToNat, Int.reduceLE, Int.reduceLT, Int.reduceNeg, Bool.not_not, and_self, Bool.and_eq_false_iff, Int.cast_ofNat_Int, Int.reduceAdd, Int.reduceSub, Int.reduceMul, Int.reduceEq, Int.reduceNe, errN_dec]
  refine ⟨fun h => ?_, fun ⟨h1, h2⟩ => ?_⟩
  · simp [nackO, h]
  · refine runR_callf (by simp only [go_sem, Nat.reduceEqDiff, Nat.reduceBEq, Nat.reduceAdd, Nat.reduceMul, Nat.reduceSub, Nat.reduceLeDiff, Nat.reduceLT, reduceIte, reduceCtorEq, Int.reduceToNat, Int.reduceLE, Int.reduceLT, Int.reduceNeg, Bool.not_not, and_self, Bool.and_eq_false_iff, Int.cast_ofNat_Int, Int.reduceAdd, Int.reduceSub, Int.reduceMul, Int.reduceEq, Int.reduceNe]) (by simp only [go_sem, Nat.reduceEqDiff, Nat.reduceBEq, Nat.reduceAdd, Nat.reduceMul, Nat.reduceSub, Nat.reduceLeDiff, Nat.reduceLT, reduceIte, reduceCtorEq, Int.reduceToNat, Int.reduceLE, Int.reduceLT, Int.reduceNeg, Bool.not_not, and_self, Bool.and_eq_false_iff, Int.cast_ofNat_Int, Int.reduceAdd, Int.reduceSub, Int.reduceMul, Int.reduceEq, Int.reduceNe]) (fn24 l id hl) ⟨rfl, trivial⟩ trivial ?_
    simp only [go_sem, Nat.reduceEqDiff, Nat.reduceBEq, Nat.reduceAdd, Nat.reduceMul, Nat.reduceSub, Nat.reduceLeDiff, Nat.reduceLT, reduceIte, reduceCtorEq, Int.reduceToNat, Int.reduceLE, Int.reduceLT, Int.reduceNeg, Bool.not_not, and_self, Bool.and_eq_false_iff, Int.cast_ofNat_Int, Int.reduceAdd, Int.reduceSub, Int.reduceMul, Int.reduceEq, Int.reduceNe]
    refine ⟨fun h => ?_, fun h => ?_⟩
    · simp [nackO, h1, h2, h]
    · rcases idxA_lt (fun x : Ot => decide (x.id = id)) l with ⟨h3, _⟩ | ⟨n, hn, h3, _⟩
      · exact absurd (show findO l id < 0 by unfold findO; omega) h
      · have h4 : findO l id = (n : Int) := h3
        have hm := (mayO_iff _).1 (checkO_may h1 (List.getElem_mem hn))
        have hp := pow_le5 hm.2.2.2.1.1 hm.2.2.2.1.2
        have ht := (timeB_iff now).1 h2
        simp only [go_sem, Nat.reduceEqDiff, Nat.reduceBEq, Nat.reduceAdd, Nat.reduceMul, Nat.reduceSub, Nat.reduceLeDiff, Nat.reduceLT, reduceIte, reduceCtorEq, Int.reduceToNat, Int.reduceLE, Int.reduceLT, Int.reduceNeg, Bool.not_not, and_self, Bool.and_eq_false_iff, Int.cast_ofNat_Int, Int.reduceAdd, Int.reduceSub, Int.reduceMul, Int.reduceEq, Int.reduceNe, h4, wf_os, getD_map hn, show (n : Int) < (l.length : Int) by omega]
        refine ⟨fun h5 => ?_, fun h5 => ?_⟩
        · refine runR_call (by simp only [go_sem, Nat.reduceEqDiff, Nat.reduceBEq, Nat.reduceAdd, Nat.reduceMul, Nat.reduceSub, Nat.reduceLeDiff, Nat.reduceLT, reduceIte, reduceCtorEq, Int.reduceToNat, Int.reduceLE, Int.reduceLT, Int.reduceNeg, Bool.not_not, and_self, Bool.and_eq_false_iff, Int.cast_ofNat_Int, Int.reduceAdd, Int.reduceSub, Int.reduceMul, Int.reduceEq, Int.reduceNe]) rfl (fn68 l n hn hl) (.inl rfl) trivial ?_
          simp only [go_sem, Nat.reduceEqDiff, Nat.reduceBEq, Nat.reduceAdd, Nat.reduceMul, Nat.reduceSub, Nat.reduceLeDiff, Nat.reduceLT, reduceIte, reduceCtorEq, Int.reduceToNat, Int.reduceLE, Int.reduceLT, Int.reduceNeg, Bool.not_not, and_self, Bool.and_eq_false_iff, Int.cast_ofNat_Int, Int.reduceAdd, Int.reduceSub, Int.reduceMul, Int.reduceEq, Int.reduceNe]
          simp [nackO, h1, h2, h4, show ¬ (n : Int) < 0 by omega, hn, h5]
        · refine runR_call (by simp only [go_sem, Nat.reduceEqDiff, Nat.reduceBEq, Nat.reduceAdd, Nat.reduceMul, Nat.reduceSub, Nat.reduceLeDiff, Nat.reduceLT, reduceIte, reduceCtorEq, Int.reduceToNat, Int.reduceLE, Int.reduceLT, Int.reduceNeg, Bool.not_not, and_self, Bool.and_eq_false_iff, Int.cast_ofNat_Int, Int.reduceAdd, Int.reduceSub, Int.reduceMul, Int.reduceEq, Int.reduceNe]) rfl (fn72 l hl) (.inl rfl) trivial ?_
          have hn' : n < (l.map Ot.pv).length := by simpa using hn
          simp only [go_sem, Nat.reduceEqDiff, Nat.reduceBEq, Nat.reduceAdd, Nat.reduceMul, Nat.reduceSub, Nat.reduceLeDiff, Nat.reduceLT, reduceIte, reduceCtorEq, Int.reduceToNat, Int.reduceLE, Int.reduceLT, Int.reduceNeg, Bool.not_not, and_self, Bool.and_eq_false_iff, Int.cast_ofNat_Int, Int.reduceAdd, Int.reduceSub, Int.reduceMul, Int.reduceEq, Int.reduceNe, getD_map hn, hn, getD_setS hn', List.length_set, setElem, show (n : Int) < (l.length : Int) by omega]
          have e1 : (1 : Int) * 2 ^ (l[n].tries + 1).toNat = 2 ^ (l[n].tries + 1).toNat := Int.one_mul _
          rw [e1]
          refine ⟨⟨by omega, by omega⟩, ⟨by omega, by omega, by omega, by omega⟩, ⟨by omega, by omega⟩, ?_⟩
          have e2 : nackO l id now = ⟨l.set n (nackOne l[n] now), false, 0⟩ := by
            simp [nackO, h1, h2, h4, show ¬ (n : Int) < 0 by omega, hn, h5]
          rw [e2, List.set_set, List.take_of_length_le (by simp)]
          simp only [NR.pv, os, List.map_set]
          rfl
/-! 'awake' -/
abbrev sS : ByteArray := ⟨#[115]⟩
def lW (i : Nat) : List Ot := [⟨1, sS, [7], i, if i = 0 then 0 else 10 * i + 2 ^ i⟩]
theorem aw0 : addO [] ⟨1, sS, [7], 0, 0⟩ = (lW 0, 0) := by decide +kernel
theorem aw1 : ∀ i, i < 4 → nackO (lW i) 1 (10 * ((i : Int) + 1)) = ⟨lW (i + 1), false, 0⟩ := by decide +kernel
theorem aw2 : nackO (lW 4) 1 50 = ⟨[], true, 0⟩ := by decide +kernel
theorem lW_due (i : Nat) : (lW (i + 1)).getD 0 default = ⟨1, sS, [7], ((i + 1 : Nat) : Int), 10 * ((i + 1 : Nat) : Int) + 2 ^ (i + 1)⟩ := by simp [lW]
theorem fn22 : Fn Try.prog 22 [] (.pv (pB true)) [] := by
  refine Run22 [] (by simp) ?_
  simp only [go_sem, Nat.reduceEqDiff, Nat.reduceBEq, Nat.reduceAdd, Nat.reduceMul, Nat.reduceSub, Nat.reduceLeDiff, Nat.reduceLT, reduceIte, reduceCtorEq, Int.reduceToNat, Int.reduceLE, Int.reduceLT, Int.reduceNeg, Bool.not_not, and_self, Bool.and_eq_false_iff, Int.cast_ofNat_Int, Int.reduceAdd, Int.reduceSub, Int.reduceMul, Int.reduceEq, Int.reduceNe, M22]
  have h25 := fn25 [] ⟨1, sS, [7], 0, 0⟩ (by simp)
  rw [aw0] at h25
  refine runR_call (by simp only [go_sem, Nat.reduceEqDiff, Nat.reduceBEq, Nat.reduceAdd, Nat.reduceMul, Nat.reduceSub, Nat.reduceLeDiff, Nat.reduceLT, reduceIte, reduceCtorEq, Int.reduceToNat, Int.reduceLE, Int.reduceLT, Int.reduceNeg, Bool.not_not, and_self, Bool.and_eq_false_iff, Int.cast_ofNat_Int, Int.reduceAdd, Int.reduceSub, Int.reduceMul, Int.reduceEq, Int.reduceNe]) rfl (h25) (.inl rfl) trivial ?_
  simp only [go_sem, Nat.reduceEqDiff, Nat.reduceBEq, Nat.reduceAdd, Nat.reduceMul, Nat.reduceSub, Nat.reduceLeDiff, Nat.reduceLT, reduceIte, reduceCtorEq, Int.reduceToNat, Int.reduceLE, Int.reduceLT, Int.reduceNeg, Bool.not_not, and_self, Bool.and_eq_false_iff, Int.cast_ofNat_Int, Int.reduceAdd, Int.reduceSub, Int.reduceMul, Int.reduceEq, Int.reduceNe]
  refine run_loop (T := Nat) (fun i => ⟨[(1, .pv (os (lW i))), (2, .pv (pI 0)), (3, .pv (pI i))], []⟩) (fun i => i ≤ 4) (fun i => 4 - i) 0 rfl (by decide) ?_
  intro i hi
  have hlen : ∀ k, (lW k).length = 1 := fun k => rfl
  by_cases hlt : i < 4
  · have h27 := fn27 (lW i) 1 (10 * ((i : Int) + 1)) (by rw [hlen]; decide)
    rw [aw1 i hlt] at h27
    have hw := wf_os (lW (i + 1))
    have hg := getD_map (f := Ot.pv) (l := lW (i + 1)) (i := 0) (by rw [hlen]; decide)
    have h0 : (lW (i + 1))[0]'(by rw [hlen]; decide) = ⟨1, sS, [7], ((i + 1 : Nat) : Int), 10 * ((i + 1 : Nat) : Int) + 2 ^ (i + 1)⟩ := by simp [lW]
    rw [h0] at hg
    simp only [go_sem, Nat.reduceEqDiff, Nat.reduceBEq, Nat.reduceAdd, Nat.reduceMul, Nat.reduceSub, Nat.reduceLeDiff, Nat.reduceLT, reduceIte, reduceCtorEq, Int.reduceToNat, Int.reduceLE, Int.reduceLT, Int.reduceNeg, Bool.not_not, and_self, Bool.and_eq_false_iff, Int.cast_ofNat_Int, Int.reduceAdd, Int.reduceSub, Int.reduceMul, Int.reduceEq, Int.reduceNe, B22_0, show (i : Int) < 4 by omega]
    refine ⟨⟨by omega, by omega⟩, ⟨by omega, by omega⟩, ?_⟩
    refine runR_call (by simp only [go_sem, Nat.reduceEqDiff, Nat.reduceBEq, Nat.reduceAdd, Nat.reduceMul, Nat.reduceSub, Nat.reduceLeDiff, Nat.reduceLT, reduceIte, reduceCtorEq, Int.reduceToNat, Int.reduceLE, Int.reduceLT, Int.reduceNeg, Bool.not_not, and_self, Bool.and_eq_false_iff, Int.cast_ofNat_Int, Int.reduceAdd, Int.reduceSub, Int.reduceMul, Int.reduceEq, Int.reduceNe]) rfl (h27) (.inl rfl) trivial ?_
    simp only [go_sem, Nat.reduceEqDiff, Nat.reduceBEq, Nat.reduceAdd, Nat.reduceMul, Nat.reduceSub, Nat.reduceLeDiff, Nat.reduceLT, reduceIte, reduceCtorEq, Int.reduceToNat, Int.reduceLE, Int.reduceLT, Int.reduceNeg, Bool.not_not, and_self, Bool.and_eq_false_iff, Int.cast_ofNat_Int, Int.reduceAdd, Int.reduceSub, Int.reduceMul, Int.reduceEq, Int.reduceNe, hlen, hw, hg]
    have hpow : (2 : Int) ^ i ≤ 8 ∧ 1 ≤ (2 : Int) ^ i := by
      have : i = 0 ∨ i = 1 ∨ i = 2 ∨ i = 3 := by omega
      rcases this with h | h | h | h <;> subst h <;> decide
    have hps : (2 : Int) ^ (i + 1) = 2 * 2 ^ i := by rw [Int.pow_succ]; omega
    have heq : 10 * ((i + 1 : Nat) : Int) + 2 ^ (i + 1) = 10 * ((i : Int) + 1) + 2 * 2 ^ i := by rw [hps]; omega
    exact ⟨⟨by omega, by omega⟩, ⟨by omega, by omega⟩, ⟨by omega, by omega, by omega⟩, ⟨by omega, by omega⟩, fun h => absurd heq h, fun _ => ⟨⟨by omega, by omega⟩, i + 1, rfl, by omega, by omega⟩⟩
  · have hie : i = 4 := by omega
    subst hie
    have h27 := fn27 (lW 4) 1 50 (by rw [hlen]; decide)
    rw [aw2] at h27
    simp only [go_sem, Nat.reduceEqDiff, Nat.reduceBEq, Nat.reduceAdd, Nat.reduceMul, Nat.reduceSub, Nat.reduceLeDiff, Nat.reduceLT, reduceIte, reduceCtorEq, Int.reduceToNat, Int.reduceLE, Int.reduceLT, Int.reduceNeg, Bool.not_not, and_self, Bool.and_eq_false_iff, Int.cast_ofNat_Int, Int.reduceAdd, Int.reduceSub, Int.reduceMul, Int.reduceEq, Int.reduceNe, B22_0, R22_0]
    refine runR_call (by simp only [go_sem, Nat.reduceEqDiff, Nat.reduceBEq, Nat.reduceAdd, Nat.reduceMul, Nat.reduceSub, Nat.reduceLeDiff, Nat.reduceLT, reduceIte, reduceCtorEq, Int.reduceToNat, Int.reduceLE, Int.reduceLT, Int.reduceNeg, Bool.not_not, and_self, Bool.and_eq_false_iff, Int.cast_ofNat_Int, Int.reduceAdd, Int.reduceSub, Int.reduceMul, Int.reduceEq, Int.reduceNe]) rfl (h27) (.inl rfl) trivial ?_
    simp only [go_sem, Nat.reduceEqDiff, Nat.reduceBEq, Nat.reduceAdd, Nat.reduceMul, Nat.reduceSub, Nat.reduceLeDiff, Nat.reduceLT, reduceIte, reduceCtorEq, Int.reduceToNat, Int.reduceLE, Int.reduceLT, Int.reduceNeg, Bool.not_not, and_self, Bool.and_eq_false_iff, Int.cast_ofNat_Int, Int.reduceAdd, Int.reduceSub, Int.reduceMul, Int.reduceEq, Int.reduceNe]
end Go.Vc
