/- A part of the proofs of the seat Ytjlmnegbgmpekaa: the contracts of functions, each proved out of its code. -/
import Derived.Test.YtjlmnegbgmpekaaWb
import Derived.Test.YtjlmnegbgmpekaaWa
import Derived.Test.YtjlmnegbgmpekaaVf
import Derived.Test.YtjlmnegbgmpekaaProg
namespace Go.Vc
open Go.Proofs
set_option linter.unusedSimpArgs false
set_option linter.unusedVariables false
set_option maxRecDepth 10000

/-! ### maps from numbers to numbers, as lists -/
abbrev enI (t : Int × Int) : PV × PV := (pU t.1, pI t.2)
def lkI : List (Int × Int) → Int → Option Int
  | [], _ => none
  | t :: ts, p => if p = t.1 then some t.2 else lkI ts p
theorem lkp_I (p : Int) : ∀ ts : List (Int × Int), lkp (pU p) (ts.map enI) = (lkI ts p).map pI
  | [] => rfl
  | t :: ts => by
    simp only [List.map_cons, lkp, keyEq, lkI, lkp_I p ts]
    by_cases h : p = t.1 <;> simp [h]
theorem mput_I {p : Int} (v : Int) : ∀ {ts : List (Int × Int)}, lkI ts p = none → mput (pU p) (pI v) (ts.map enI) = (ts ++ [(p, v)]).map enI
  | [], _ => rfl
  | t :: ts, h => by
    unfold lkI at h
    split at h
    · cases h
    · rename_i hne
      simp only [List.map_cons, mput, keyEq, hne, decide_false, Bool.false_eq_true, if_false, mput_I v h, List.cons_append]
theorem like_I (p : Int) : ∀ ts : List (Int × Int), keysLike .int (pU p) (ts.map enI)
  | [] => trivial
  | t :: ts => by simp only [List.map_cons, keysLike, keyLike]; exact ⟨trivial, like_I p ts⟩
def tsF (l : List Tm) (i : Nat) : List (Int × Int) := ((l.take i).zipIdx).map fun t => (t.1.id, (t.2 : Int))
theorem tsF_snoc {l : List Tm} {i : Nat} (h : i < l.length) : tsF l (i + 1) = tsF l i ++ [(l[i].id, (i : Int))] := by
  have hl : (l.take i).length = i := by simp; omega
  unfold tsF
  rw [take_snoc h, List.zipIdx_append, List.map_append, hl]
  simp
theorem lkI_tsF (l : List Tm) (n : Int) : ∀ i, i ≤ l.length → ((lkI (tsF l i) n).isSome = true ↔ (l.take i).any (fun y => decide (y.id = n)) = true)
  | 0, _ => by simp [tsF, lkI]
  | i + 1, h => by
    have ih := lkI_tsF l n i (by omega)
    have hlt : i < l.length := by omega
    have app : ∀ (ts : List (Int × Int)) (k v : Int), (lkI (ts ++ [(k, v)]) n).isSome = true ↔ (lkI ts n).isSome = true ∨ n = k := by
      intro ts k v
      induction ts with
      | nil => simp only [List.nil_append, lkI]; by_cases h : n = k <;> simp [h]
      | cons t ts ih2 => simp only [List.cons_append, lkI]; by_cases h : n = t.1 <;> simp [h, ih2]
    rw [tsF_snoc hlt, app, ih, take_snoc hlt, List.any_append, Bool.or_eq_true, List.any_cons, List.any_nil, Bool.or_false, decide_eq_true_eq]
    exact or_congr Iff.rfl eq_comm
theorem fn60 (l : List Tm) (hl : l.length < 100000) : Fn Try.prog 60 [tm l] (.pv (pI (errN (checkT l)))) [] := by
  refine Run60 [] (by simp) ?_
  simp only [go_sem, Nat.reduceEqDiff, Nat.reduceBEq, Nat.reduceAdd, Nat.reduceMul, Nat.reduceSub, Nat.reduceLeDiff, Nat.reduceLT, reduceIte, reduceCtorEq, Int.reduceToNat, Int.reduceLE, Int.reduceLT, Int.reduceNeg, Bool.not_not, and_self, Bool.and_eq_false_iff, Int.cast_ofNat_Int, Int.reduceAdd, Int.reduceSub, Int.reduceMul, Int.reduceEq, Int.reduceNe, M60]
  refine ⟨fun h => ?_, fun h => ?_⟩
  · have : checkT l = false := by simp [checkT]; omega
    rw [this]; rfl
  have h100 : l.length ≤ 120 := by omega
  refine run_loop (T := Nat) (fun i => ⟨[(0, .pv (tm l)), (3, .mp 13), (14, .pv (tm l)), (15, .pv (pI l.length)), (16, .pv (pI i))], [(13, .mp ((tsF l i).map enI))]⟩) (fun i => i ≤ l.length ∧ ∀ j, j < i → okT l j = true) (fun i => l.length - i) 0 rfl ⟨Nat.zero_le _, fun j h => absurd h (by omega)⟩ ?_
  intro i ⟨hi, hq⟩
  by_cases hlt : i < l.length
  · have no : okT l i = false → checkT l = false := fun h => by
      cases hc : checkT l with
      | false => rfl
      | true => rw [((checkT_iff l).1 hc).2 i hlt] at h; cases h
    have next : okT l i = true → ∀ j, j < i + 1 → okT l j = true := fun h j hj => by
      by_cases hji : j = i
      · subst hji; exact h
      · exact hq j (by omega)
    have hok : okT l i = (atB (l[i]).at_ && (decide (i = 0) || ltT (l.getD (i - 1) default) l[i]) && !(l.take i).any (fun y => decide (y.id = (l[i]).id))) := by
      unfold okT; rw [getD_get hlt]
    have hlk := lkI_tsF l (l[i]).id i hi
    rw [Option.isSome_iff_exists] at hlk
    have hcase : (i = 0 ∨ ∃ h0 : 0 < i, ∃ h1 : i - 1 < l.length, True) := by
      by_cases h0 : i = 0
      · exact .inl h0
      · exact .inr ⟨by omega, by omega, trivial⟩
    rcases hcase with h0 | ⟨h0, hlt1, _⟩
    · subst h0
      simp only [go_sem, Nat.reduceEqDiff, Nat.reduceBEq, Nat.reduceAdd, Nat.reduceMul, Nat.reduceSub, Nat.reduceLeDiff, Nat.reduceLT, reduceIte, reduceCtorEq, Int.reduceToNat, Int.reduceLE, Int.reduceLT, Int.reduceNeg, Bool.not_not, and_self, Bool.and_eq_false_iff, Int.cast_ofNat_Int, Int.reduceAdd, Int.reduceSub, Int.reduceMul, Int.reduceEq, Int.reduceNe, B60_0, wf_tm, getD_map hlt, show (0 : Int) < (l.length : Int) by omega]
      simp only [decide_true, Bool.true_or, Bool.and_true, List.take_zero, List.any_nil, Bool.not_false] at hok
      refine ⟨fun h => ?_, fun h => ?_⟩
      · have : atB (l[0]).at_ = false := by simp [atB]; omega
        rw [no (by rw [hok, this])]; rfl
      have hat : atB (l[0]).at_ = true := by simp [atB]; omega
      refine runR_callgf (p := pI 0) (by simp only [go_sem, Nat.reduceEqDiff, Nat.reduceBEq, Nat.reduceAdd, Nat.reduceMul, Nat.reduceSub, Nat.reduceLeDiff, Nat.reduceLT, reduceIte, reduceCtorEq, Int.reduceToNat, Int.reduceLE, Int.reduceLT, Int.reduceNeg, Bool.not_not, and_self, Bool.and_eq_false_iff, Int.cast_ofNat_Int, Int.reduceAdd, Int.reduceSub, Int.reduceMul, Int.reduceEq, Int.reduceNe]) (by simp only [go_sem, Nat.reduceEqDiff, Nat.reduceBEq, Nat.reduceAdd, Nat.reduceMul, Nat.reduceSub, Nat.reduceLeDiff, Nat.reduceLT, reduceIte, reduceCtorEq, Int.reduceToNat, Int.reduceLE, Int.reduceLT, Int.reduceNeg, Bool.not_not, and_self, Bool.and_eq_false_iff, Int.cast_ofNat_Int, Int.reduceAdd, Int.reduceSub, Int.reduceMul, Int.reduceEq, Int.reduceNe]) (by simp only [go_sem, Nat.reduceEqDiff, Nat.reduceBEq, Nat.reduceAdd, Nat.reduceMul, Nat.reduceSub, Nat.reduceLeDiff, Nat.reduceLT, reduceIte, reduceCtorEq, Int.reduceToNat, Int.reduceLE, Int.reduceLT, Int.reduceNeg, Bool.not_not, and_self, Bool.and_eq_false_iff, Int.cast_ofNat_Int, Int.reduceAdd, Int.reduceSub, Int.reduceMul, Int.reduceEq, Int.reduceNe] <;> rfl) (fun h => absurd h (by simp only [go_sem, Nat.reduceEqDiff, Nat.reduceBEq, Nat.reduceAdd, Nat.reduceMul, Nat.reduceSub, Nat.reduceLeDiff, Nat.reduceLT, reduceIte, reduceCtorEq, Int.reduceToNat, Int.reduceLE, Int.reduceLT, Int.reduceNeg, Bool.not_not, and_self, Bool.and_eq_false_iff, Int.cast_ofNat_Int, Int.reduceAdd, Int.reduceSub, Int.reduceMul, Int.reduceEq, Int.reduceNe])) rfl ?_
      have hl0 : lkI (tsF l 0) (l[0]).id = none := rfl
      simp only [go_sem, Nat.reduceEqDiff, Nat.reduceBEq, Nat.reduceAdd, Nat.reduceMul, Nat.reduceSub, Nat.reduceLeDiff, Nat.reduceLT, reduceIte, reduceCtorEq, Int.reduceToNat, Int.reduceLE, Int.reduceLT, Int.reduceNeg, Bool.not_not, and_self, Bool.and_eq_false_iff, Int.cast_ofNat_Int, Int.reduceAdd, Int.reduceSub, Int.reduceMul, Int.reduceEq, Int.reduceNe, lkp_I, hl0, like_I, mput_I _ hl0]
      refine ⟨1, ?_, ⟨by omega, next (by rw [hok, hat])⟩, by omega⟩
      rw [show (1 : Nat) = 0 + 1 from rfl, tsF_snoc hlt]; rfl
    · have e1 : ((i : Int) - 1).toNat = i - 1 := by omega
      simp only [go_sem, Nat.reduceEqDiff, Nat.reduceBEq, Nat.reduceAdd, Nat.reduceMul, Nat.reduceSub, Nat.reduceLeDiff, Nat.reduceLT, reduceIte, reduceCtorEq, Int.reduceToNat, Int.reduceLE, Int.reduceLT, Int.reduceNeg, Bool.not_not, and_self, Bool.and_eq_false_iff, Int.cast_ofNat_Int, Int.reduceAdd, Int.reduceSub, Int.reduceMul, Int.reduceEq, Int.reduceNe, B60_0, wf_tm, e1, getD_map hlt, getD_map hlt1, show (i : Int) < (l.length : Int) by omega, show (0 : Int) < (i : Int) by omega]
      rw [getD_get hlt1] at hok
      refine ⟨fun h => ?_, fun h => ⟨⟨by omega, by omega⟩, ⟨by omega, by omega⟩, ?_⟩⟩
      · have : atB (l[i]).at_ = false := by simp [atB]; omega
        rw [no (by rw [hok, this]; rfl)]; rfl
      have hat : atB (l[i]).at_ = true := by simp [atB]; omega
      refine runR_callgf (by simp only [go_sem, Nat.reduceEqDiff, Nat.reduceBEq, Nat.reduceAdd, Nat.reduceMul, Nat.reduceSub, Nat.reduceLeDiff, Nat.reduceLT, reduceIte, reduceCtorEq, Int.reduceToNat, Int.reduceLE, Int.reduceLT, Int.reduceNeg, Bool.not_not, and_self, Bool.and_eq_false_iff, Int.cast_ofNat_Int, Int.reduceAdd, Int.reduceSub, Int.reduceMul, Int.reduceEq, Int.reduceNe]) (by simp only [go_sem, Nat.reduceEqDiff, Nat.reduceBEq, Nat.reduceAdd, Nat.reduceMul, Nat.reduceSub, Nat.reduceLeDiff, Nat.reduceLT, reduceIte, reduceCtorEq, Int.reduceToNat, Int.reduceLE, Int.reduceLT, Int.reduceNeg, Bool.not_not, and_self, Bool.and_eq_false_iff, Int.cast_ofNat_Int, Int.reduceAdd, Int.reduceSub, Int.reduceMul, Int.reduceEq, Int.reduceNe]) (by simp only [go_sem, Nat.reduceEqDiff, Nat.reduceBEq, Nat.reduceAdd, Nat.reduceMul, Nat.reduceSub, Nat.reduceLeDiff, Nat.reduceLT, reduceIte, reduceCtorEq, Int.reduceToNat, Int.reduceLE, Int.reduceLT, Int.reduceNeg, Bool.not_not, and_self, Bool.and_eq_false_iff, Int.cast_ofNat_Int, Int.reduceAdd, Int.reduceSub, Int.reduceMul, Int.reduceEq, Int.reduceNe] <;> rfl) (fun _ => fn94 l[i - 1] l[i]) rfl ?_
      simp only [go_sem, Nat.reduceEqDiff, Nat.reduceBEq, Nat.reduceAdd, Nat.reduceMul, Nat.reduceSub, Nat.reduceLeDiff, Nat.reduceLT, reduceIte, reduceCtorEq, Int.reduceToNat, Int.reduceLE, Int.reduceLT, Int.reduceNeg, Bool.not_not, and_self, Bool.and_eq_false_iff, Int.cast_ofNat_Int, Int.reduceAdd, Int.reduceSub, Int.reduceMul, Int.reduceEq, Int.reduceNe]
      refine ⟨fun hc => ?_, fun hc => ?_⟩
      · have : ltT l[i - 1] l[i] = false := by
          cases h9 : ltT l[i - 1] l[i]
          · rfl
          · have := cmpT_lt.2 h9; omega
        rw [no (by rw [hok, this, hat]; simp; omega)]; rfl
      have hlt9 : ltT l[i - 1] l[i] = true := cmpT_lt.1 (by omega)
      cases hl0 : lkI (tsF l i) (l[i]).id with
      | some v =>
        have hany := hlk.1 ⟨v, hl0⟩
        simp only [go_sem, Nat.reduceEqDiff, Nat.reduceBEq, Nat.reduceAdd, Nat.reduceMul, Nat.reduceSub, Nat.reduceLeDiff, Nat.reduceLT, reduceIte, reduceCtorEq, Int.reduceToNat, Int.reduceLE, Int.reduceLT, Int.reduceNeg, Bool.not_not, and_self, Bool.and_eq_false_iff, Int.cast_ofNat_Int, Int.reduceAdd, Int.reduceSub, Int.reduceMul, Int.reduceEq, Int.reduceNe, lkp_I, hl0, like_I]
        rw [no (by rw [hok, hany]; simp)]; rfl
      | none =>
        have hany : (l.take i).any (fun y => decide (y.id = (l[i]).id)) = false := by
          cases h9 : (l.take i).any (fun y => decide (y.id = (l[i]).id))
          · rfl
          · obtain ⟨v, hv⟩ := hlk.2 h9
            rw [hl0] at hv; cases hv
        simp only [go_sem, Nat.reduceEqDiff, Nat.reduceBEq, Nat.reduceAdd, Nat.reduceMul, Nat.reduceSub, Nat.reduceLeDiff, Nat.reduceLT, reduceIte, reduceCtorEq, Int.reduceToNat, Int.reduceLE, Int.reduceLT, Int.reduceNeg, Bool.not_not, and_self, Bool.and_eq_false_iff, Int.cast_ofNat_Int, Int.reduceAdd, Int.reduceSub, Int.reduceMul, Int.reduceEq, Int.reduceNe, lkp_I, hl0, like_I, mput_I _ hl0]
        refine ⟨⟨by omega, by omega⟩, i + 1, ?_, ⟨by omega, next (by rw [hok, hat, hlt9, hany]; simp)⟩, by omega⟩
        rw [tsF_snoc hlt]; rfl
  · simp only [go_sem, Nat.reduceEqDiff, Nat.reduceBEq, Nat.reduceAdd, Nat.reduceMul, Nat.reduceSub, Nat.reduceLeDiff, Nat.reduceLT, reduceIte, reduceCtorEq, Int.reduceToNat, Int.reduceLE, Int.reduceLT, Int.reduceNeg, Bool.not_not, and_self, Bool.and_eq_false_iff, Int.cast_ofNat_Int, Int.reduceAdd, Int.reduceSub, Int.reduceMul, Int.reduceEq, Int.reduceNe, B60_0, R60_0, show ¬ ((i : Int) < (l.length : Int)) by omega]
    have e : checkT l = true := (checkT_iff l).2 ⟨h100, fun j hj => hq j (by omega)⟩
    rw [e]; rfl
def stopT (l : List Tm) (n : Int) : List Tm × Bool := if checkT l = false then ([], false) else (woT l (findT l n), decide (0 ≤ findT l n))
theorem fn61 (l : List Tm) (n : Int) (hl : l.length < 100000) : Fn Try.prog 61 [tm l, pU n] (.pv (.tup [tm (stopT l n).1, pB (stopT l n).2])) [] := by
  refine Run61 [false, false] (by simp) ?_
  simp only [go_sem, Nat.reduceEqDiff, Nat.reduceBEq, Nat.reduceAdd, Nat.reduceMul, Nat.reduceSub, Nat.reduceLeDiff, Nat.reduceLT, reduceIte, reduceCtorEq, Int.reduceToNat, Int.reduceLE, Int.reduceLT, Int.reduceNeg, Bool.not_not, and_self, Bool.and_eq_false_iff, Int.cast_ofNat_Int, Int.reduceAdd, Int.reduceSub, Int.reduceMul, Int.reduceEq, Int.reduceNe, M61]
  refine runR_callf (by simp only [go_sem, Nat.reduceEqDiff, Nat.reduceBEq, Nat.reduceAdd, Nat.reduceMul, Nat.reduceSub, Nat.reduceLeDiff, Nat.reduceLT, reduceIte, reduceCtorEq, Int.reduceToNat, Int.reduceLE, Int.reduceLT, Int.reduceNeg, Bool.not_not, and_self, Bool.and_eq_false_iff, Int.cast_ofNat_Int, Int.reduceAdd, Int.reduceSub, Int.reduceMul, Int.reduceEq, Int.reduceNe]) (by simp only [go_sem, Nat.reduceEqDiff, Nat.reduceBEq, Nat.reduceAdd, Nat.reduceMul, Nat.reduceSub, Nat.reduceLeDiff, Nat.reduceLT, reduceIte, reduceCtorEq, Int.reduceToNat, Int.reduceLE, Int.reduceLT, Int.reduceNeg, Bool.not_not, and_self, Bool.and_eq_false_iff, Int.cast_ofNat_Int, Int.reduceAdd, Int.reduceSub, Int.reduceMul, Int.reduceEq, Int.reduceNe] <;> rfl) (fn60 l hl) ⟨rfl, trivial⟩ trivial ?_
  simp only [go_sem, Nat.reduceEqDiff, Nat.reduceBEq, Nat.reduceAdd, Nat.reduceMul, Nat.reduceSub, Nat.reduceLeDiff, Nat.reduceLT, reduceIte, reduceCtorEq, Int.reduceToNat, Int.reduceLE, Int.reduceLT, Int.reduceNeg, Bool.not_not, and_self, Bool.and_eq_false_iff, Int.cast_ofNat_Int, Int.reduceAdd, Int.reduceSub, Int.reduceMul, Int.reduceEq, Int.reduceNe, errN_dec, errN_iff]
  unfold stopT
  refine ⟨fun h => by rw [if_pos h]; rfl, fun h => ?_⟩
  rw [if_neg (by rw [h]; simp)]
  refine runR_callf (by simp only [go_sem, Nat.reduceEqDiff, Nat.reduceBEq, Nat.reduceAdd, Nat.reduceMul, Nat.reduceSub, Nat.reduceLeDiff, Nat.reduceLT, reduceIte, reduceCtorEq, Int.reduceToNat, Int.reduceLE, Int.reduceLT, Int.reduceNeg, Bool.not_not, and_self, Bool.and_eq_false_iff, Int.cast_ofNat_Int, Int.reduceAdd, Int.reduceSub, Int.reduceMul, Int.reduceEq, Int.reduceNe]) (by simp only [go_sem, Nat.reduceEqDiff, Nat.reduceBEq, Nat.reduceAdd, Nat.reduceMul, Nat.reduceSub, Nat.reduceLeDiff, Nat.reduceLT, reduceIte, reduceCtorEq, Int.reduceToNat, Int.reduceLE, Int.reduceLT, Int.reduceNeg, Bool.not_not, and_self, Bool.and_eq_false_iff, Int.cast_ofNat_Int, Int.reduceAdd, Int.reduceSub, Int.reduceMul, Int.reduceEq, Int.reduceNe] <;> rfl) (fn95 l n hl) ⟨rfl, trivial⟩ trivial ?_
  simp only [go_sem, Nat.reduceEqDiff, Nat.reduceBEq, Nat.reduceAdd, Nat.reduceMul, Nat.reduceSub, Nat.reduceLeDiff, Nat.reduceLT, reduceIte, reduceCtorEq, Int.reduceToNat, Int.reduceLE, Int.reduceLT, Int.reduceNeg, Bool.not_not, and_self, Bool.and_eq_false_iff, Int.cast_ofNat_Int, Int.reduceAdd, Int.reduceSub, Int.reduceMul, Int.reduceEq, Int.reduceNe]
  refine runR_call (by simp only [go_sem, Nat.reduceEqDiff, Nat.reduceBEq, Nat.reduceAdd, Nat.reduceMul, Nat.reduceSub, Nat.reduceLeDiff, Nat.reduceLT, reduceIte, reduceCtorEq, Int.reduceToNat, Int.reduceLE, Int.reduceLT, Int.reduceNeg, Bool.not_not, and_self, Bool.and_eq_false_iff, Int.cast_ofNat_Int, Int.reduceAdd, Int.reduceSub, Int.reduceMul, Int.reduceEq, Int.reduceNe]) rfl (fn96 l (findT l n) hl) (.inl rfl) trivial ?_
  simp only [go_sem, Nat.reduceEqDiff, Nat.reduceBEq, Nat.reduceAdd, Nat.reduceMul, Nat.reduceSub, Nat.reduceLeDiff, Nat.reduceLT, reduceIte, reduceCtorEq, Int.reduceToNat, Int.reduceLE, Int.reduceLT, Int.reduceNeg, Bool.not_not, and_self, Bool.and_eq_false_iff, Int.cast_ofNat_Int, Int.reduceAdd, Int.reduceSub, Int.reduceMul, Int.reduceEq, Int.reduceNe]
  rw [take_len_map]
def setT (l : List Tm) (n t : Int) : List Tm × Int :=
  if checkT l = false ∨ atB t = false then ([], 1) else if findT l n < 0 ∧ 120 ≤ l.length then ([], 6) else ((woT l (findT l n) ++ [(⟨t, n⟩ : Tm)]).mergeSort (fun x y : Tm => !ltT y x), 0)
theorem fn62 (l : List Tm) (n t : Int) (hl : l.length < 100000) : Fn Try.prog 62 [tm l, pU n, pI t] (.pv (.tup [tm (setT l n t).1, pI (setT l n t).2])) [] := by
  refine Run62 [false, false] (by simp) ?_
  simp only [go_sem, Nat.reduceEqDiff, Nat.reduceBEq, Nat.reduceAdd, Nat.reduceMul, Nat.reduceSub, Nat.reduceLeDiff, Nat.reduceLT, reduceIte, reduceCtorEq, Int.reduceToNat, Int.reduceLE, Int.reduceLT, Int.reduceNeg, Bool.not_not, and_self, Bool.and_eq_false_iff, Int.cast_ofNat_Int, Int.reduceAdd, Int.reduceSub, Int.reduceMul, Int.reduceEq, Int.reduceNe, M62]
  refine runR_callf (by simp only [go_sem, Nat.reduceEqDiff, Nat.reduceBEq, Nat.reduceAdd, Nat.reduceMul, Nat.reduceSub, Nat.reduceLeDiff, Nat.reduceLT, reduceIte, reduceCtorEq, Int.reduceToNat, Int.reduceLE, Int.reduceLT, Int.reduceNeg, Bool.not_not, and_self, Bool.and_eq_false_iff, Int.cast_ofNat_Int, Int.reduceAdd, Int.reduceSub, Int.reduceMul, Int.reduceEq, Int.reduceNe]) (by simp only [go_sem, Nat.reduceEqDiff, Nat.reduceBEq, Nat.reduceAdd, Nat.reduceMul, Nat.reduceSub, Nat.reduceLeDiff, Nat.reduceLT, reduceIte, reduceCtorEq, Int.reduceToNat, Int.reduceLE, Int.reduceLT, Int.reduceNeg, Bool.not_not, and_self, Bool.and_eq_false_iff, Int.cast_ofNat_Int, Int.reduceAdd, Int.reduceSub, Int.reduceMul, Int.reduceEq, Int.reduceNe] <;> rfl) (fn60 l hl) ⟨rfl, trivial⟩ trivial ?_
  simp only [go_sem, Nat.reduceEqDiff, Nat.reduceBEq, Nat.reduceAdd, Nat.reduceMul, Nat.reduceSub, Nat.reduceLeDiff, Nat.reduceLT, reduceIte, reduceCtorEq, Int.reduceToNat, Int.reduceLE, Int.reduceLT, Int.reduceNeg, Bool.not_not, and_self, Bool.and_eq_false_iff, Int.cast_ofNat_Int, Int.reduceAdd, Int.reduceSub, Int.reduceMul, Int.reduceEq, Int.reduceNe, errN_dec, errN_iff]
  unfold setT
  refine ⟨fun h => ?_, fun h => ?_⟩
  · have : checkT l = false ∨ atB t = false := by
      rcases h with (h | h) | h
      · exact .inl h
      · right; simp [atB]; omega
      · right; simp [atB]; omega
    rw [if_pos this]; rfl
  have hat : atB t = true := by simp [atB]; omega
  rw [if_neg (by rw [h.1.1, hat]; simp)]
  refine runR_callf (by simp only [go_sem, Nat.reduceEqDiff, Nat.reduceBEq, Nat.reduceAdd, Nat.reduceMul, Nat.reduceSub, Nat.reduceLeDiff, Nat.reduceLT, reduceIte, reduceCtorEq, Int.reduceToNat, Int.reduceLE, Int.reduceLT, Int.reduceNeg, Bool.not_not, and_self, Bool.and_eq_false_iff, Int.cast_ofNat_Int, Int.reduceAdd, Int.reduceSub, Int.reduceMul, Int.reduceEq, Int.reduceNe]) (by simp only [go_sem, Nat.reduceEqDiff, Nat.reduceBEq, Nat.reduceAdd, Nat.reduceMul, Nat.reduceSub, Nat.reduceLeDiff, Nat.reduceLT, reduceIte, reduceCtorEq, Int.reduceToNat, Int.reduceLE, Int.reduceLT, Int.reduceNeg, Bool.not_not, and_self, Bool.and_eq_false_iff, Int.cast_ofNat_Int, Int.reduceAdd, Int.reduceSub, Int.reduceMul, Int.reduceEq, Int.reduceNe] <;> rfl) (fn95 l n hl) ⟨rfl, trivial⟩ trivial ?_
  simp only [go_sem, Nat.reduceEqDiff, Nat.reduceBEq, Nat.reduceAdd, Nat.reduceMul, Nat.reduceSub, Nat.reduceLeDiff, Nat.reduceLT, reduceIte, reduceCtorEq, Int.reduceToNat, Int.reduceLE, Int.reduceLT, Int.reduceNeg, Bool.not_not, and_self, Bool.and_eq_false_iff, Int.cast_ofNat_Int, Int.reduceAdd, Int.reduceSub, Int.reduceMul, Int.reduceEq, Int.reduceNe]
  refine ⟨fun h5 => by rw [if_pos ⟨h5.1, by omega⟩]; rfl, fun h5 => ?_⟩
  rw [if_neg (by omega)]
  have hle := woT_le l (findT l n)
  refine runR_call (by simp only [go_sem, Nat.reduceEqDiff, Nat.reduceBEq, Nat.reduceAdd, Nat.reduceMul, Nat.reduceSub, Nat.reduceLeDiff, Nat.reduceLT, reduceIte, reduceCtorEq, Int.reduceToNat, Int.reduceLE, Int.reduceLT, Int.reduceNeg, Bool.not_not, and_self, Bool.and_eq_false_iff, Int.cast_ofNat_Int, Int.reduceAdd, Int.reduceSub, Int.reduceMul, Int.reduceEq, Int.reduceNe]) rfl (fn96 l (findT l n) hl) (.inl rfl) trivial ?_
  simp only [go_sem, Nat.reduceEqDiff, Nat.reduceBEq, Nat.reduceAdd, Nat.reduceMul, Nat.reduceSub, Nat.reduceLeDiff, Nat.reduceLT, reduceIte, reduceCtorEq, Int.reduceToNat, Int.reduceLE, Int.reduceLT, Int.reduceNeg, Bool.not_not, and_self, Bool.and_eq_false_iff, Int.cast_ofNat_Int, Int.reduceAdd, Int.reduceSub, Int.reduceMul, Int.reduceEq, Int.reduceNe]
  refine ⟨⟨wf_tm [⟨t, n⟩], by omega, by omega⟩, ?_⟩
  have hS := fnS97 (woT l (findT l n) ++ [(⟨t, n⟩ : Tm)]) (by simp; omega)
  rw [List.length_append, List.length_singleton, List.map_append] at hS
  rw [take_len_map]
  refine runR_calls (fun _ => 1032) (by simp only [go_sem, Nat.reduceEqDiff, Nat.reduceBEq, Nat.reduceAdd, Nat.reduceMul, Nat.reduceSub, Nat.reduceLeDiff, Nat.reduceLT, reduceIte, reduceCtorEq, Int.reduceToNat, Int.reduceLE, Int.reduceLT, Int.reduceNeg, Bool.not_not, and_self, Bool.and_eq_false_iff, Int.cast_ofNat_Int, Int.reduceAdd, Int.reduceSub, Int.reduceMul, Int.reduceEq, Int.reduceNe]) (by simp only [go_sem, Nat.reduceEqDiff, Nat.reduceBEq, Nat.reduceAdd, Nat.reduceMul, Nat.reduceSub, Nat.reduceLeDiff, Nat.reduceLT, reduceIte, reduceCtorEq, Int.reduceToNat, Int.reduceLE, Int.reduceLT, Int.reduceNeg, Bool.not_not, and_self, Bool.and_eq_false_iff, Int.cast_ofNat_Int, Int.reduceAdd, Int.reduceSub, Int.reduceMul, Int.reduceEq, Int.reduceNe] <;> rfl) hS rfl (by intro e he; simp only [List.mem_cons, List.not_mem_nil, or_false] at he; subst he; simp only [go_sem, Nat.reduceEqDiff, Nat.reduceBEq, Nat.reduceAdd, Nat.reduceMul, Nat.reduceSub, Nat.reduceLeDiff, Nat.reduceLT, reduceIte, reduceCtorEq, Int.reduceToNat, Int.reduceLE, Int.reduceLT, Int.reduceNeg, Bool.not_not, and_self, Bool.and_eq_false_iff, Int.cast_ofNat_Int, Int.reduceAdd, Int.reduceSub, Int.reduceMul, Int.reduceEq, Int.reduceNe]) (by simp) (by simp) (by simp) (by intro e he _; decide) ?_
  simp only [go_sem, Nat.reduceEqDiff, Nat.reduceBEq, Nat.reduceAdd, Nat.reduceMul, Nat.reduceSub, Nat.reduceLeDiff, Nat.reduceLT, reduceIte, reduceCtorEq, Int.reduceToNat, Int.reduceLE, Int.reduceLT, Int.reduceNeg, Bool.not_not, and_self, Bool.and_eq_false_iff, Int.cast_ofNat_Int, Int.reduceAdd, Int.reduceSub, Int.reduceMul, Int.reduceEq, Int.reduceNe]
theorem fn54 (l : List Tm) (now : Int) (hl : l.length < 100000) : Fn Try.prog 54 [tm l, pI now] (.pv (.tup [tm (if checkT l then laterT l now else []), us (if checkT l then rungT l now else [])])) [] := by
  refine Run54 [false, false] (by simp) ?_
  simp only [go_sem, Nat.reduceEqDiff, Nat.reduceBEq, Nat.reduceAdd, Nat.reduceMul, Nat.reduceSub, Nat.reduceLeDiff, Nat.reduceLT, reduceIte, reduceCtorEq, Int.reduceToNat, Int.reduceLE, Int.reduceLT, Int.reduceNeg, Bool.not_not, and_self, Bool.and_eq_false_iff, Int.cast_ofNat_Int, Int.reduceAdd, Int.reduceSub, Int.reduceMul, Int.reduceEq, Int.reduceNe, M54]
  refine runR_callf (by simp only [go_sem, Nat.reduceEqDiff, Nat.reduceBEq, Nat.reduceAdd, Nat.reduceMul, Nat.reduceSub, Nat.reduceLeDiff, Nat.reduceLT, reduceIte, reduceCtorEq, Int.reduceToNat, Int.reduceLE, Int.reduceLT, Int.reduceNeg, Bool.not_not, and_self, Bool.and_eq_false_iff, Int.cast_ofNat_Int, Int.reduceAdd, Int.reduceSub, Int.reduceMul, Int.reduceEq, Int.reduceNe]) (by simp only [go_sem, Nat.reduceEqDiff, Nat.reduceBEq, Nat.reduceAdd, Nat.reduceMul, Nat.reduceSub, Nat.reduceLeDiff, Nat.reduceLT, reduceIte, reduceCtorEq, Int.reduceToNat, Int.reduceLE, Int.reduceLT, Int.reduceNeg, Bool.not_not, and_self, Bool.and_eq_false_iff, Int.cast_ofNat_Int, Int.reduceAdd, Int.reduceSub, Int.reduceMul, Int.reduceEq, Int.reduceNe] <;> rfl) (fn60 l hl) ⟨rfl, trivial⟩ trivial ?_
  simp only [go_sem, Nat.reduceEqDiff, Nat.reduceBEq, Nat.reduceAdd, Nat.reduceMul, Nat.reduceSub, Nat.reduceLeDiff, Nat.reduceLT, reduceIte, reduceCtorEq, Int.reduceToNat, Int.reduceLE, Int.reduceLT, Int.reduceNeg, Bool.not_not, and_self, Bool.and_eq_false_iff, Int.cast_ofNat_Int, Int.reduceAdd, Int.reduceSub, Int.reduceMul, Int.reduceEq, Int.reduceNe, errN_dec, errN_iff]
  refine ⟨fun h => by rw [h]; rfl, fun h => ?_⟩
  rw [h]
  simp only [if_true]
  refine run_loop (T := Nat) (fun i => ⟨[(1, .pv (pI now)), (6, .row 2006 0 (laterT (l.take i) now).length), (7, .row 2007 0 (rungT (l.take i) now).length), (13, .pv (tm l)), (14, .pv (pI l.length)), (15, .pv (pI i))], [(2006, .sl 2 ((laterT (l.take i) now).map Tm.pv)), (2007, .sl 1 ((rungT (l.take i) now).map pU))]⟩) (fun i => i ≤ l.length) (fun i => l.length - i) 0 rfl (Nat.zero_le _) ?_
  intro i hi
  have hle : (laterT (l.take i) now).length ≤ l.length := filt_le
  have hle2 := rung_le (l := l) (now := now) (i := i)
  by_cases hlt : i < l.length
  · have hsn : laterT (l.take (i + 1)) now = laterT (l.take i) now ++ if decide (now < l[i].at_) = true then [l[i]] else [] := filt_snoc hlt
    have hsr := rung_snoc (now := now) hlt
    have tk := take_len_map Tm.pv (laterT (l.take i) now)
    have tk2 := take_len_map pU (rungT (l.take i) now)
    simp only [go_sem, Nat.reduceEqDiff, Nat.reduceBEq, Nat.reduceAdd, Nat.reduceMul, Nat.reduceSub, Nat.reduceLeDiff, Nat.reduceLT, reduceIte, reduceCtorEq, Int.reduceToNat, Int.reduceLE, Int.reduceLT, Int.reduceNeg, Bool.not_not, and_self, Bool.and_eq_false_iff, Int.cast_ofNat_Int, Int.reduceAdd, Int.reduceSub, Int.reduceMul, Int.reduceEq, Int.reduceNe, B54_0, wf_tm, getD_map hlt, show (i : Int) < (l.length : Int) by omega]
    refine ⟨fun h => ⟨⟨wf_tm [l[i]], by omega, by omega⟩, ⟨by omega, by omega⟩, i + 1, ?_, by omega, by omega⟩, fun h => ⟨⟨wf_us [l[i].id], by omega, by omega⟩, ⟨by omega, by omega⟩, i + 1, ?_, by omega, by omega⟩⟩
    · rw [hsn, hsr, if_pos (by simp; omega), if_neg (by omega), tk, List.append_nil, List.map_append, List.length_append]; rfl
    · rw [hsn, hsr, if_neg (by simp; omega), if_pos (by omega), tk2, List.append_nil, List.map_append, List.length_append]; rfl
  · simp only [go_sem, Nat.reduceEqDiff, Nat.reduceBEq, Nat.reduceAdd, Nat.reduceMul, Nat.reduceSub, Nat.reduceLeDiff, Nat.reduceLT, reduceIte, reduceCtorEq, Int.reduceToNat, Int.reduceLE, Int.reduceLT, Int.reduceNeg, Bool.not_not, and_self, Bool.and_eq_false_iff, Int.cast_ofNat_Int, Int.reduceAdd, Int.reduceSub, Int.reduceMul, Int.reduceEq, Int.reduceNe, B54_0, R54_0, show ¬ ((i : Int) < (l.length : Int)) by omega]
    have : i = l.length := by omega
    subst this
    rw [take_len_map, take_len_map, List.take_length]
end Go.Vc

namespace Go.Vc
open Go.Proofs
set_option linter.unusedSimpArgs false
set_option linter.unusedVariables false
set_option maxRecDepth 10000

theorem offT_no {l : List Tm} {n t : Int} : (⟨t, n⟩ : Tm) ∉ offT l n := by simp [offT]
theorem setT_ok {l : List Tm} {n t : Int} (hc : checkT l = true) (ht : atB t = true) (hl : ¬(findT l n < 0 ∧ 120 ≤ l.length)) : setT l n t = (insT (offT l n) ⟨t, n⟩, 0) := by
  have h := checkT_split.1 hc
  unfold setT
  rw [if_neg (by simp [hc, ht]), if_neg hl, woT_off h.2.2.2, insT_sort (h.2.2.1.filter _) offT_no]
theorem set_a : setT [] 1 5 = ([⟨5, 1⟩], 0) := by rw [setT_ok (by decide) (by decide) (by decide)]; rfl
theorem set_b : setT [⟨5, 1⟩] 2 3 = ([⟨3, 2⟩, ⟨5, 1⟩], 0) := by rw [setT_ok (by decide) (by decide) (by decide)]; rfl
theorem set_c : setT [⟨3, 2⟩, ⟨5, 1⟩] 2 9 = ([⟨5, 1⟩, ⟨9, 2⟩], 0) := by rw [setT_ok (by decide) (by decide) (by decide)]; rfl
theorem fn56 : Fn Try.prog 56 [] (.pv (pB true)) [] := by
  have h1 : Fn Try.prog 62 [tm [], pU 1, pI 5] (.pv (.tup [tm [⟨5, 1⟩], pI 0])) [] := by have h := fn62 [] 1 5 (by simp); rw [set_a] at h; exact h
  have h2 : Fn Try.prog 62 [tm [⟨5, 1⟩], pU 2, pI 3] (.pv (.tup [tm [⟨3, 2⟩, ⟨5, 1⟩], pI 0])) [] := by have h := fn62 [⟨5, 1⟩] 2 3 (by simp); rw [set_b] at h; exact h
  have h3 : Fn Try.prog 54 [tm [⟨3, 2⟩, ⟨5, 1⟩], pI 4] (.pv (.tup [tm [⟨5, 1⟩], us [2]])) [] := fn54 [⟨3, 2⟩, ⟨5, 1⟩] 4 (by simp)
  have h4 : Fn Try.prog 62 [tm [⟨3, 2⟩, ⟨5, 1⟩], pU 2, pI 9] (.pv (.tup [tm [⟨5, 1⟩, ⟨9, 2⟩], pI 0])) [] := by have h := fn62 [⟨3, 2⟩, ⟨5, 1⟩] 2 9 (by simp); rw [set_c] at h; exact h
  have h5 : Fn Try.prog 61 [tm [⟨3, 2⟩, ⟨5, 1⟩], pU 7] (.pv (.tup [tm [⟨3, 2⟩, ⟨5, 1⟩], pB false])) [] := fn61 [⟨3, 2⟩, ⟨5, 1⟩] 7 (by simp)
  refine Run56 [] (by simp) ?_
  simp only [go_sem, Nat.reduceEqDiff, Nat.reduceBEq, Nat.reduceAdd, Nat.reduceMul, Nat.reduceSub, Nat.reduceLeDiff, Nat.reduceLT, reduceIte, reduceCtorEq, Int.reduceToNat, Int.reduceLE, Int.reduceLT, Int.reduceNeg, Bool.not_not, and_self, Bool.and_eq_false_iff, Int.cast_ofNat_Int, Int.reduceAdd, Int.reduceSub, Int.reduceMul, Int.reduceEq, Int.reduceNe, M56]
  refine runR_call (by simp only [go_sem, Nat.reduceEqDiff, Nat.reduceBEq, Nat.reduceAdd, Nat.reduceMul, Nat.reduceSub, Nat.reduceLeDiff, Nat.reduceLT, reduceIte, reduceCtorEq, Int.reduceToNat, Int.reduceLE, Int.reduceLT, Int.reduceNeg, Bool.not_not, and_self, Bool.and_eq_false_iff, Int.cast_ofNat_Int, Int.reduceAdd, Int.reduceSub, Int.reduceMul, Int.reduceEq, Int.reduceNe]) rfl (h1) (.inl rfl) trivial ?_
  simp only [go_sem, Nat.reduceEqDiff, Nat.reduceBEq, Nat.reduceAdd, Nat.reduceMul, Nat.reduceSub, Nat.reduceLeDiff, Nat.reduceLT, reduceIte, reduceCtorEq, Int.reduceToNat, Int.reduceLE, Int.reduceLT, Int.reduceNeg, Bool.not_not, and_self, Bool.and_eq_false_iff, Int.cast_ofNat_Int, Int.reduceAdd, Int.reduceSub, Int.reduceMul, Int.reduceEq, Int.reduceNe]
  refine runR_call (by simp only [go_sem, Nat.reduceEqDiff, Nat.reduceBEq, Nat.reduceAdd, Nat.reduceMul, Nat.reduceSub, Nat.reduceLeDiff, Nat.reduceLT, reduceIte, reduceCtorEq, Int.reduceToNat, Int.reduceLE, Int.reduceLT, Int.reduceNeg, Bool.not_not, and_self, Bool.and_eq_false_iff, Int.cast_ofNat_Int, Int.reduceAdd, Int.reduceSub, Int.reduceMul, Int.reduceEq, Int.reduceNe]) rfl (h2) (.inl rfl) trivial ?_
  simp only [go_sem, Nat.reduceEqDiff, Nat.reduceBEq, Nat.reduceAdd, Nat.reduceMul, Nat.reduceSub, Nat.reduceLeDiff, Nat.reduceLT, reduceIte, reduceCtorEq, Int.reduceToNat, Int.reduceLE, Int.reduceLT, Int.reduceNeg, Bool.not_not, and_self, Bool.and_eq_false_iff, Int.cast_ofNat_Int, Int.reduceAdd, Int.reduceSub, Int.reduceMul, Int.reduceEq, Int.reduceNe]
  refine runR_call (by simp only [go_sem, Nat.reduceEqDiff, Nat.reduceBEq, Nat.reduceAdd, Nat.reduceMul, Nat.reduceSub, Nat.reduceLeDiff, Nat.reduceLT, reduceIte, reduceCtorEq, Int.reduceToNat, Int.reduceLE, Int.reduceLT, Int.reduceNeg, Bool.not_not, and_self, Bool.and_eq_false_iff, Int.cast_ofNat_Int, Int.reduceAdd, Int.reduceSub, Int.reduceMul, Int.reduceEq, Int.reduceNe]) rfl (h3) (.inl rfl) trivial ?_
  simp only [go_sem, Nat.reduceEqDiff, Nat.reduceBEq, Nat.reduceAdd, Nat.reduceMul, Nat.reduceSub, Nat.reduceLeDiff, Nat.reduceLT, reduceIte, reduceCtorEq, Int.reduceToNat, Int.reduceLE, Int.reduceLT, Int.reduceNeg, Bool.not_not, and_self, Bool.and_eq_false_iff, Int.cast_ofNat_Int, Int.reduceAdd, Int.reduceSub, Int.reduceMul, Int.reduceEq, Int.reduceNe]
  refine runR_call (by simp only [go_sem, Nat.reduceEqDiff, Nat.reduceBEq, Nat.reduceAdd, Nat.reduceMul, Nat.reduceSub, Nat.reduceLeDiff, Nat.reduceLT, reduceIte, reduceCtorEq, Int.reduceToNat, Int.reduceLE, Int.reduceLT, Int.reduceNeg, Bool.not_not, and_self, Bool.and_eq_false_iff, Int.cast_ofNat_Int, Int.reduceAdd, Int.reduceSub, Int.reduceMul, Int.reduceEq, Int.reduceNe]) rfl (h4) (.inl rfl) trivial ?_
  simp only [go_sem, Nat.reduceEqDiff, Nat.reduceBEq, Nat.reduceAdd, Nat.reduceMul, Nat.reduceSub, Nat.reduceLeDiff, Nat.reduceLT, reduceIte, reduceCtorEq, Int.reduceToNat, Int.reduceLE, Int.reduceLT, Int.reduceNeg, Bool.not_not, and_self, Bool.and_eq_false_iff, Int.cast_ofNat_Int, Int.reduceAdd, Int.reduceSub, Int.reduceMul, Int.reduceEq, Int.reduceNe]
  refine runR_call (by simp only [go_sem, Nat.reduceEqDiff, Nat.reduceBEq, Nat.reduceAdd, Nat.reduceMul, Nat.reduceSub, Nat.reduceLeDiff, Nat.reduceLT, reduceIte, reduceCtorEq, Int.reduceToNat, Int.reduceLE, Int.reduceLT, Int.reduceNeg, Bool.not_not, and_self, Bool.and_eq_false_iff, Int.cast_ofNat_Int, Int.reduceAdd, Int.reduceSub, Int.reduceMul, Int.reduceEq, Int.reduceNe]) rfl (h5) (.inl rfl) trivial ?_
  simp only [go_sem, Nat.reduceEqDiff, Nat.reduceBEq, Nat.reduceAdd, Nat.reduceMul, Nat.reduceSub, Nat.reduceLeDiff, Nat.reduceLT, reduceIte, reduceCtorEq, Int.reduceToNat, Int.reduceLE, Int.reduceLT, Int.reduceNeg, Bool.not_not, and_self, Bool.and_eq_false_iff, Int.cast_ofNat_Int, Int.reduceAdd, Int.reduceSub, Int.reduceMul, Int.reduceEq, Int.reduceNe]
  refine runR_callgf (by simp only [go_sem, Nat.reduceEqDiff, Nat.reduceBEq, Nat.reduceAdd, Nat.reduceMul, Nat.reduceSub, Nat.reduceLeDiff, Nat.reduceLT, reduceIte, reduceCtorEq, Int.reduceToNat, Int.reduceLE, Int.reduceLT, Int.reduceNeg, Bool.not_not, and_self, Bool.and_eq_false_iff, Int.cast_ofNat_Int, Int.reduceAdd, Int.reduceSub, Int.reduceMul, Int.reduceEq, Int.reduceNe]) (by simp only [go_sem, Nat.reduceEqDiff, Nat.reduceBEq, Nat.reduceAdd, Nat.reduceMul, Nat.reduceSub, Nat.reduceLeDiff, Nat.reduceLT, reduceIte, reduceCtorEq, Int.reduceToNat, Int.reduceLE, Int.reduceLT, Int.reduceNeg, Bool.not_not, and_self, Bool.and_eq_false_iff, Int.cast_ofNat_Int, Int.reduceAdd, Int.reduceSub, Int.reduceMul, Int.reduceEq, Int.reduceNe]) (by simp only [go_sem, Nat.reduceEqDiff, Nat.reduceBEq, Nat.reduceAdd, Nat.reduceMul, Nat.reduceSub, Nat.reduceLeDiff, Nat.reduceLT, reduceIte, reduceCtorEq, Int.reduceToNat, Int.reduceLE, Int.reduceLT, Int.reduceNeg, Bool.not_not, and_self, Bool.and_eq_false_iff, Int.cast_ofNat_Int, Int.reduceAdd, Int.reduceSub, Int.reduceMul, Int.reduceEq, Int.reduceNe] <;> rfl) (fun _ => fn59t [2] [2] (by simp) (by simp)) rfl ?_
  simp only [go_sem, Nat.reduceEqDiff, Nat.reduceBEq, Nat.reduceAdd, Nat.reduceMul, Nat.reduceSub, Nat.reduceLeDiff, Nat.reduceLT, reduceIte, reduceCtorEq, Int.reduceToNat, Int.reduceLE, Int.reduceLT, Int.reduceNeg, Bool.not_not, and_self, Bool.and_eq_false_iff, Int.cast_ofNat_Int, Int.reduceAdd, Int.reduceSub, Int.reduceMul, Int.reduceEq, Int.reduceNe]
end Go.Vc

namespace Go.Vc
open Go.RowKit
set_option linter.unusedSimpArgs false
set_option linter.unusedVariables false

/-! ## An empty map is one from which entries may be taken away -/
def St.toD (σ : St) (b : Nat) : St := match stGet σ.st b with
  | some (.mp []) => ⟨σ.fr, (b, .mpd [] 0) :: stDel σ.st b⟩
  | _ => σ
theorem SRel.toD {e : Env} {σ : St} {x : Cx} {a : Act} (h : SRel e σ x a) (b : Nat) : SRel e (σ.toD b) x a := by
  unfold St.toD
  split
  · rename_i hb
    have hm := stGet_mem hb
    have old : ∀ q u, (q, u) ∈ (b, Row.mpd [] 0) :: stDel σ.st b → ∃ u', (q, u') ∈ σ.st ∧ ((q = b ∧ u = .mpd [] 0 ∧ u' = .mp []) ∨ u = u') := fun q u hq => by
      rcases List.mem_cons.1 hq with hq | hq
      · injection hq with h1 h2; subst h1; subst h2
        exact ⟨_, hm, .inl ⟨rfl, rfl, rfl⟩⟩
      · exact ⟨u, (stDel_mem hq).1, .inr rfl⟩
    have own : ∀ bb, Own ((b, Row.mpd [] 0) :: stDel σ.st b) x.ρ bb ↔ Own σ.st x.ρ bb := fun bb => by
      constructor
      · rintro ⟨q, u, h1, h2⟩
        obtain ⟨u', h3, _⟩ := old q u h1
        exact ⟨q, u', h3, h2⟩
      · rintro ⟨q, u, h1, h2⟩
        by_cases hq : q = b
        · subst hq; exact ⟨q, _, List.mem_cons_self .., h2⟩
        · exact ⟨q, u, List.mem_cons_of_mem _ (mem_stDel h1 hq), h2⟩
    exact { h with
      st := fun q u hq => by
        obtain ⟨u', h1, h2⟩ := old q u hq
        rcases h2 with ⟨rfl, rfl, rfl⟩ | rfl
        · have := h.st q _ h1
          simp only [Row.rel] at this ⊢
          obtain ⟨h0, ents, clock, h3, h4, _, h6, _⟩ := this
          have he : ents = [] := List.eq_nil_of_length_eq_zero h4
          subst he
          subst h6
          exact ⟨h0, [], h3, rfl, fun i p e hp => by simp at hp, by simp, fun p hp => by cases hp⟩
        · exact h.st q u h1
      keys := by
        simp only [List.map_cons, List.nodup_cons]
        refine ⟨fun hk => ?_, stDel_keys h.keys⟩
        obtain ⟨⟨q, u⟩, h1, h2⟩ := List.mem_map.1 hk
        exact (stDel_mem h1).2 h2
      inj := fun q u q' u' hq hq' => by
        obtain ⟨u1, h1, _⟩ := old q u hq
        obtain ⟨u2, h2, _⟩ := old q' u' hq'
        exact h.inj q u1 q' u2 h1 h2
      F := fun bb => (h.F bb).trans (or_congr Iff.rfl (own bb).symm)
      own := fun q u hq => by
        obtain ⟨u1, h1, _⟩ := old q u hq
        exact h.own q u1 h1 }
  · exact h
theorem Weak.toD (σ : St) (b : Nat) : Weak σ (σ.toD b) := fun e x a h => ⟨x, rfl, h.toD b⟩

/-! ## Timers that ring -/
theorem check_filter {l : List Tm} (f : Tm → Bool) (h : checkT l = true) : checkT (l.filter f) = true := by
  have hc := checkT_split.1 h
  exact checkT_split.2 ⟨by have := List.length_filter_le f l; omega, fun y hy => hc.2.1 y (List.mem_filter.1 hy).1, hc.2.2.1.filter _, hc.2.2.2.filter _⟩
theorem insT_ids' {x : Tm} : ∀ {l : List Tm}, IdsT l → (∀ y ∈ l, y.id ≠ x.id) → IdsT (insT l x)
  | [], _, _ => by simp [insT, IdsT]
  | a :: l, h, hx => by
    have h' := List.pairwise_cons.1 h
    unfold insT
    split
    · refine List.pairwise_cons.2 ⟨fun y hy => ?_, insT_ids' h'.2 (fun y hy => hx y (List.mem_cons_of_mem _ hy))⟩
      rcases insT_mem.1 hy with rfl | hy
      · exact hx a List.mem_cons_self
      · exact h'.1 y hy
    · exact List.pairwise_cons.2 ⟨fun y hy => fun e => hx y hy e.symm, h⟩
theorem check_ins' {l : List Tm} {x : Tm} (h : checkT l = true) (hl : l.length < 120) (hx : atB x.at_ = true) : checkT (insT (offT l x.id) x) = true := by
  have hc := checkT_split.1 h
  have ho : ∀ y ∈ offT l x.id, y.id ≠ x.id := fun y hy => by simpa using (List.mem_filter.1 hy).2
  refine checkT_split.2 ⟨?_, fun y hy => ?_, insT_ris (hc.2.2.1.filter _) (fun hm => ho x hm rfl), insT_ids' (hc.2.2.2.filter _) ho⟩
  · rw [insT_len]; have : (offT l x.id).length ≤ l.length := List.length_filter_le _ _; omega
  · rcases insT_mem.1 hy with rfl | hy
    · exact hx
    · exact hc.2.1 y (List.mem_filter.1 hy).1
theorem rung_nodup {l : List Tm} {now : Int} (h : IdsT l) : (rungT l now).Nodup := by
  unfold rungT
  rw [List.Nodup, List.pairwise_map]
  exact h.filter _
theorem rung_mem {l : List Tm} {now r : Int} (h : r ∈ rungT l now) : ∃ t ∈ l, t.at_ ≤ now ∧ t.id = r := by
  unfold rungT at h
  obtain ⟨t, h1, h2⟩ := List.mem_map.1 h
  obtain ⟨h3, h4⟩ := List.mem_filter.1 h1
  exact ⟨t, h3, by simpa using h4, h2⟩
theorem rung_left {l : List Tm} {now : Int} (hid : IdsT l) {k : Nat} (hk : k < (rungT l now).length) : ∃ t ∈ leftT l ((rungT l now).take k), t.at_ ≤ now ∧ t.id = (rungT l now)[k] := by
  obtain ⟨t, h1, h2, h3⟩ := rung_mem (List.getElem_mem hk)
  refine ⟨t, List.mem_filter.2 ⟨h1, ?_⟩, h2, h3⟩
  simp only [decide_eq_true_eq]
  rw [h3]
  intro hm
  obtain ⟨j, hj, e⟩ := List.mem_take_iff_getElem.1 hm
  exact List.pairwise_iff_getElem.1 (rung_nodup (now := now) hid) j k (by omega) hk (by omega) e
theorem left_later {l : List Tm} {now : Int} (hid : IdsT l) : leftT l (rungT l now) = laterT l now := by
  unfold leftT laterT
  refine List.filter_congr fun t ht => ?_
  by_cases h : t.at_ ≤ now
  · have hm : t.id ∈ rungT l now := List.mem_map.2 ⟨t, List.mem_filter.2 ⟨ht, by simpa using h⟩, rfl⟩
    simp [hm]; omega
  · have hm : t.id ∉ rungT l now := fun hm => by
      obtain ⟨s, h1, h2, h3⟩ := rung_mem hm
      have := ids_eq hid h1 ht h3
      subst this
      exact h h2
    simp [hm]; omega
theorem later_at {es : List ED} {l : List Tm} {now : Int} (h : PD es (laterT l now)) {e : ED} (he : e ∈ es) : now < e.2.2 := by
  have : e.2 ∈ es.map (·.2) := List.mem_map.2 ⟨e, he, rfl⟩
  obtain ⟨t, h1, h2⟩ := List.mem_map.1 (h.mem_iff.1 this)
  have := (List.mem_filter.1 h1).2
  rw [← h2]
  simpa using this
end Go.Vc

namespace Go.Vc
open Go.Proofs
set_option maxRecDepth 100000

/-- 'trystlaw11.WheelOnce' -/
def B16_1 : MC := (.seq (.seq (.reg [⟨(some 99), none, (.q (.mv (.t 17)))⟩, ⟨(some 100), none, (.q (.mv (.t 16)))⟩, ⟨(some 101), none, (.q (.len (.t 100) false))⟩, ⟨(some 102), none,
  (.q (.bin .lss (.t 99) (.t 101)))⟩] [] [0, 1, 6, 8, 10, 15, 16, 17, 102] [24, 1096]) (.cond (.t 102) .skip (.exit 3))) (.seq (.block 4 (.seq (.reg [⟨(some 106), none, (.q (.mv (.t 6)))⟩,
  ⟨(some 107), none, (.q (.mv (.t 16)))⟩, ⟨(some 108), none, (.q (.mv (.t 17)))⟩, ⟨(some 109), none, (.q (.ia (.t 107) (.t 108) 1))⟩, ⟨(some 110), none, (.q (.ld (.t 109) 1 false))⟩, ⟨(some 111),
  none, (.q (.mget (.t 106) (.t 110) true Kk.int (.pv (.sc (.int .i64 0)))))⟩, ⟨(some 105), none, (.q (.mv (.t 111)))⟩, ⟨(some 112), none, (.q (.ext (.t 105) 0))⟩, ⟨(some 113), none,
  (.q (.ext (.t 105) 1))⟩, ⟨(some 18), none, (.q (.mv (.t 112)))⟩, ⟨(some 19), none, (.q (.mv (.t 113)))⟩] [] [0, 1, 6, 8, 10, 15, 16, 17, 18, 19] [24, 1096]) (.seq (.seq (.reg [⟨(some 114), none,
  (.q (.mv (.t 19)))⟩, ⟨(some 115), none, (.q (.not (.t 114)))⟩, ⟨(some 116), none, (.q (.mv (.t 115)))⟩, ⟨(some 117), (some (116, false)), (.q (.mv (.t 18)))⟩, ⟨(some 118), (some (116, false)),
  (.q (.mv (.t 10)))⟩, ⟨(some 119), (some (116, false)), (.q (.bin .gtr (.t 117) (.t 118)))⟩, ⟨(some 120), none, (.q (.pick (.t 116) (.c (.bool true)) (.t 119)))⟩] [] [0, 1, 6, 8, 10, 15, 16, 17,
  120] [24, 1096]) (.cond (.t 120) (.seq (.reg [⟨(some 4), none, (.q (.mv (.c (.bool false))))⟩] [] [4] [1147]) .ret) .skip)) (.reg [⟨(some 121), none, (.q (.mv (.t 6)))⟩, ⟨(some 122), none,
  (.q (.mv (.t 16)))⟩, ⟨(some 123), none, (.q (.mv (.t 17)))⟩, ⟨(some 124), none, (.q (.ia (.t 122) (.t 123) 1))⟩, ⟨(some 125), none, (.q (.ld (.t 124) 1 false))⟩, ⟨none, none, (.mdel (.t 121)
  (.t 125) Kk.int)⟩] [] [0, 1, 6, 8, 10, 15, 16, 17] [24, 1096])))) (.reg [⟨(some 103), none, (.q (.mv (.t 17)))⟩, ⟨(some 104), none, (.q (.bin .add (.t 103) (.c (.int .i64 1))))⟩, ⟨(some 17), none,
  (.q (.mv (.t 104)))⟩] [] [0, 1, 6, 8, 10, 15, 16, 17] [24, 1096])))
def B16_2 : MC := (.seq (.reg [⟨(some 128), none, (.nxtm (.t 127))⟩, ⟨(some 129), none, (.q (.ext (.t 128) 0))⟩] [] [0, 1, 6, 8, 10, 15, 127, 129] [24, 127, 1096]) (.seq (.cond (.t 129)
  .skip (.exit 5)) (.block 6 (.seq (.reg [⟨(some 130), none, (.q (.ent (.t 127)))⟩, ⟨(some 131), none, (.q (.ext (.t 130) 1))⟩, ⟨(some 21), none, (.q (.mv (.t 131)))⟩] [] [0, 1, 6, 8, 10, 15, 21,
  127] [24, 127, 1096]) (.seq (.reg [⟨(some 132), none, (.q (.mv (.t 21)))⟩, ⟨(some 133), none, (.q (.mv (.t 10)))⟩, ⟨(some 134), none, (.q (.bin .leq (.t 132) (.t 133)))⟩] [] [0, 1, 6, 8, 10, 15,
  127, 134] [24, 127, 1096]) (.cond (.t 134) (.seq (.reg [⟨(some 4), none, (.q (.mv (.c (.bool false))))⟩] [] [4] [1147]) .ret) .skip))))))
def R16_2 : MC := (.reg [⟨(some 135), none, (.q (.mv (.t 15)))⟩, ⟨(some 136), none, (.q (.mv (.t 10)))⟩, ⟨(some 5), none, (.q (.mv (.t 135)))⟩, ⟨(some 7), none, (.q (.mv (.t 136)))⟩] [] [0, 1, 5, 6,
  7, 8] [24, 1062, 1076, 1096])
def R16_1 : MC := (.seq (.seq (.reg [⟨(some 126), none, (.q (.mv (.t 6)))⟩, ⟨(some 127), none, (.rngm (.t 126))⟩] [] [0, 1, 6, 8, 10, 15, 127] [24, 127, 1096]) (.block 5 (.loop B16_2))) R16_2)
def B16_0 : MC := (.seq (.seq (.reg [⟨(some 25), none, (.q (.mv (.t 8)))⟩, ⟨(some 26), none, (.q (.mv (.t 0)))⟩, ⟨(some 27), none, (.q (.len (.t 26) false))⟩, ⟨(some 28), none, (.q (.bin .lss (.t 25)
  (.t 27)))⟩, ⟨(some 29), none, (.q (.mv (.t 28)))⟩, ⟨(some 30), (some (29, true)), (.q (.mv (.t 8)))⟩, ⟨(some 31), (some (29, true)), (.q (.bin .lss (.t 30) (.c (.int .i64 100))))⟩, ⟨(some 32), none,
  (.q (.pick (.t 29) (.t 31) (.c (.bool false))))⟩] [] [0, 1, 5, 6, 7, 8, 32] [24, 1062, 1076, 1096]) (.cond (.t 32) .skip (.exit 0))) (.seq (.block 1 (.seq (.reg [⟨(some 35), none,
  (.q (.mv (.t 0)))⟩, ⟨(some 36), none, (.q (.mv (.t 8)))⟩, ⟨(some 37), none, (.q (.ia (.t 35) (.t 36) 1))⟩, ⟨(some 38), none, (.q (.ld (.t 37) 1 false))⟩, ⟨(some 39), none, (.q (.bin .rem (.t 38)
  (.c (.int .u8 8))))⟩, ⟨(some 40), none, (.q (.conv .u64 (.t 39)))⟩, ⟨(some 9), none, (.q (.mv (.t 40)))⟩] [] [0, 1, 5, 6, 7, 8, 9] [24, 1062, 1076, 1096]) (.seq (.reg [⟨(some 41), none,
  (.q (.mv (.t 7)))⟩, ⟨(some 10), none, (.q (.mv (.t 41)))⟩] [] [0, 1, 5, 6, 7, 8, 9, 10] [24, 1062, 1076, 1096]) (.seq (.seq (.reg [⟨(some 42), none, (.q (.mv (.t 8)))⟩, ⟨(some 43), none,
  (.q (.mv (.t 1)))⟩, ⟨(some 44), none, (.q (.len (.t 43) false))⟩, ⟨(some 45), none, (.q (.bin .lss (.t 42) (.t 44)))⟩] [] [0, 1, 5, 6, 7, 8, 9, 10, 45] [24, 1062, 1076, 1096]) (.cond (.t 45)
  (.reg [⟨(some 46), none, (.q (.mv (.t 7)))⟩, ⟨(some 47), none, (.q (.mv (.t 1)))⟩, ⟨(some 48), none, (.q (.mv (.t 8)))⟩, ⟨(some 49), none, (.q (.ia (.t 47) (.t 48) 1))⟩, ⟨(some 50), none,
  (.q (.ld (.t 49) 1 false))⟩, ⟨(some 51), none, (.q (.conv .i64 (.t 50)))⟩, ⟨(some 52), none, (.q (.bin .add (.t 46) (.t 51)))⟩, ⟨(some 10), none, (.q (.mv (.t 52)))⟩] [] [0, 1, 5, 6, 7, 8, 9,
  10] [24, 1062, 1076, 1096]) .skip)) (.seq (.seq (.reg [⟨(some 53), none, (.q (.mv (.t 0)))⟩, ⟨(some 54), none, (.q (.mv (.t 8)))⟩, ⟨(some 55), none, (.q (.ia (.t 53) (.t 54) 1))⟩, ⟨(some 56), none,
  (.q (.ld (.t 55) 1 false))⟩, ⟨(some 57), none, (.q (.bin .rem (.t 56) (.c (.int .u8 5))))⟩] [] [0, 1, 5, 6, 7, 8, 9, 10, 57] [24, 1062, 1076, 1096]) (.block 2 (.seq (.reg [⟨(some 72), none,
  (.q (.bin .eql (.t 57) (.c (.int .u8 0))))⟩, ⟨(some 71), none, (.q (.mv (.t 72)))⟩] [] [0, 1, 5, 6, 7, 8, 9, 10, 57, 71] [24, 1062, 1076, 1096]) (.cond (.t 71) (.seq (.reg [⟨(some 74), none,
  (.q (.mv (.t 5)))⟩, ⟨(some 75), none, (.q (.mv (.t 9)))⟩, ⟨(some 76), none, (.call (.f 61) [(.t 74), (.t 75)])⟩, ⟨(some 73), none, (.q (.mv (.t 76)))⟩, ⟨(some 77), none, (.q (.ext (.t 73) 0))⟩,
  ⟨(some 78), none, (.q (.ext (.t 73) 1))⟩, ⟨(some 11), none, (.q (.mv (.t 77)))⟩, ⟨(some 12), none, (.q (.mv (.t 78)))⟩] [] [0, 1, 6, 7, 8, 9, 11, 12] [24, 1076]) (.seq (.seq (.reg [⟨(some 80), none,
  (.q (.mv (.t 6)))⟩, ⟨(some 81), none, (.q (.mv (.t 9)))⟩, ⟨(some 82), none, (.q (.mget (.t 80) (.t 81) true Kk.int (.pv (.sc (.int .i64 0)))))⟩, ⟨(some 79), none, (.q (.mv (.t 82)))⟩, ⟨(some 83),
  none, (.q (.ext (.t 79) 0))⟩, ⟨(some 84), none, (.q (.ext (.t 79) 1))⟩, ⟨(some 13), none, (.q (.mv (.t 83)))⟩, ⟨(some 14), none, (.q (.mv (.t 84)))⟩] [] [0, 1, 6, 7, 8, 9, 11, 12, 14] [24, 1076])
  (.seq (.reg [⟨(some 85), none, (.q (.mv (.t 14)))⟩, ⟨(some 86), none, (.q (.mv (.t 12)))⟩, ⟨(some 87), none, (.q (.beq true (.t 85) (.t 86)))⟩] [] [0, 1, 6, 7, 8, 9, 11, 87] [24, 1076])
  (.cond (.t 87) (.seq (.reg [⟨(some 4), none, (.q (.mv (.c (.bool false))))⟩] [] [4] [1147]) .ret) .skip))) (.seq (.reg [⟨(some 88), none, (.q (.mv (.t 6)))⟩, ⟨(some 89), none, (.q (.mv (.t 9)))⟩,
  ⟨none, none, (.mdel (.t 88) (.t 89) Kk.int)⟩] [] [0, 1, 6, 7, 8, 11] [24, 1076]) (.reg [⟨(some 90), none, (.q (.mv (.t 11)))⟩, ⟨(some 5), none, (.q (.mv (.t 90)))⟩] [] [0, 1, 5, 6, 7, 8] [24, 1062,
  1076, 1096])))) (.seq (.reg [⟨(some 92), none, (.q (.bin .eql (.t 57) (.c (.int .u8 1))))⟩, ⟨(some 91), none, (.q (.mv (.t 92)))⟩] [] [0, 1, 5, 6, 7, 8, 9, 10, 91] [24, 1062, 1076, 1096])
  (.cond (.t 91) (.seq (.reg [⟨(some 94), none, (.q (.mv (.t 5)))⟩, ⟨(some 95), none, (.q (.mv (.t 10)))⟩, ⟨(some 96), none, (.call (.f 54) [(.t 94), (.t 95)])⟩, ⟨(some 93), none, (.q (.mv (.t 96)))⟩,
  ⟨(some 97), none, (.q (.ext (.t 93) 0))⟩, ⟨(some 98), none, (.q (.ext (.t 93) 1))⟩, ⟨(some 15), none, (.q (.mv (.t 97)))⟩, ⟨(some 16), none, (.q (.mv (.t 98)))⟩] [] [0, 1, 6, 8, 10, 15, 16] [24,
  1096]) (.seq (.seq (.reg [⟨(some 17), none, (.q (.mv (.c (.int .i64 0))))⟩] [] [0, 1, 6, 8, 10, 15, 16, 17] [24, 1096]) (.block 3 (.loop B16_1))) R16_1)) (.seq (.reg [⟨(some 59), none,
  (.q (.mv (.t 5)))⟩, ⟨(some 60), none, (.q (.mv (.t 9)))⟩, ⟨(some 61), none, (.q (.mv (.t 10)))⟩, ⟨(some 62), none, (.call (.f 62) [(.t 59), (.t 60), (.t 61)])⟩, ⟨(some 58), none,
  (.q (.mv (.t 62)))⟩, ⟨(some 63), none, (.q (.ext (.t 58) 0))⟩, ⟨(some 64), none, (.q (.ext (.t 58) 1))⟩, ⟨(some 22), none, (.q (.mv (.t 63)))⟩, ⟨(some 23), none, (.q (.mv (.t 64)))⟩] [] [0, 1, 6, 7,
  8, 9, 10, 22, 23] [24, 1062]) (.seq (.seq (.reg [⟨(some 65), none, (.q (.mv (.t 23)))⟩, ⟨(some 66), none, (.q (.bin .neq (.t 65) (.c (.int .i64 0))))⟩] [] [0, 1, 6, 7, 8, 9, 10, 22, 66] [24, 1062])
  (.cond (.t 66) (.seq (.reg [⟨(some 4), none, (.q (.mv (.c (.bool false))))⟩] [] [4] [1147]) .ret) .skip)) (.seq (.reg [⟨(some 67), none, (.q (.mv (.t 6)))⟩, ⟨(some 68), none, (.q (.mv (.t 9)))⟩,
  ⟨(some 69), none, (.q (.mv (.t 10)))⟩, ⟨none, none, (.mset (.t 67) (.t 68) (.t 69) Kk.int)⟩] [] [0, 1, 6, 7, 8, 22] [24, 1062]) (.reg [⟨(some 70), none, (.q (.mv (.t 22)))⟩, ⟨(some 5), none,
  (.q (.mv (.t 70)))⟩] [] [0, 1, 5, 6, 7, 8] [24, 1062, 1076, 1096])))))))))) (.seq (.reg [⟨(some 137), none, (.q (.mv (.t 5)))⟩, ⟨(some 138), none, (.q (.len (.t 137) false))⟩, ⟨(some 139), none,
  (.q (.mv (.t 6)))⟩, ⟨(some 140), none, (.q (.mlen (.t 139)))⟩, ⟨(some 141), none, (.q (.bin .neq (.t 138) (.t 140)))⟩, ⟨(some 142), none, (.q (.mv (.t 141)))⟩, ⟨(some 143), (some (142, false)),
  (.q (.mv (.t 5)))⟩, ⟨(some 144), (some (142, false)), (.call (.f 60) [(.t 143)])⟩, ⟨(some 145), (some (142, false)), (.q (.bin .neq (.t 144) (.c (.int .i64 0))))⟩, ⟨(some 146), none,
  (.q (.pick (.t 142) (.c (.bool true)) (.t 145)))⟩] [] [0, 1, 5, 6, 7, 8, 146] [24, 1062, 1076, 1096, 1144]) (.cond (.t 146) (.seq (.reg [⟨(some 4), none,
  (.q (.mv (.c (.bool false))))⟩] [] [4] [1147]) .ret) .skip))))))) (.reg [⟨(some 33), none, (.q (.mv (.t 8)))⟩, ⟨(some 34), none, (.q (.bin .add (.t 33) (.c (.int .i64 1))))⟩, ⟨(some 8), none,
  (.q (.mv (.t 34)))⟩] [] [0, 1, 5, 6, 7, 8] [24, 1062, 1076, 1096])))
def R16_0 : MC := (.seq (.reg [⟨(some 147), none, (.call (.f 56) [])⟩, ⟨(some 4), none, (.q (.mv (.t 147)))⟩] [] [4] [1147]) .ret)
def M16 : MC := (.seq (.reg [⟨(some 4), none, (.q (.mv (.c (.bool false))))⟩] [] [0, 1] []) (.seq (.reg [⟨(some 5), none, (.q (.mv .nil))⟩] [(5, 6, 0)] [0, 1, 5] [1062, 1076, 1096])
  (.seq (.reg [⟨(some 24), none, .mkm⟩, ⟨(some 6), none, (.q (.mv (.t 24)))⟩] [] [0, 1, 5, 6] [24, 1062, 1076, 1096]) (.seq (.reg [⟨(some 7), none, (.q (.mv (.c (.int .i64 0))))⟩] [] [0, 1, 5, 6,
  7] [24, 1062, 1076, 1096]) (.seq (.seq (.reg [⟨(some 8), none, (.q (.mv (.c (.int .i64 0))))⟩] [] [0, 1, 5, 6, 7, 8] [24, 1062, 1076, 1096]) (.block 0 (.loop B16_0))) R16_0)))))
theorem mc16 : ofCode Try.prog [] Try.f16.ntmps [(0, ⟨[0, 1], [], [], 0, [], none⟩),
    (1, ⟨[0, 1, 5], [1062, 1076, 1096], [], 0, [(5, 6, 0)], none⟩),
    (2, ⟨[0, 1, 5, 6], [24, 1062, 1076, 1096], [], 0, [], none⟩),
    (3, ⟨[0, 1, 5, 6, 7], [24, 1062, 1076, 1096], [], 0, [], none⟩),
    (4, ⟨[0, 1, 5, 6, 7, 8], [24, 1062, 1076, 1096], [], 0, [], none⟩),
    (5, ⟨[0, 1, 5, 6, 7, 8, 32], [24, 1062, 1076, 1096], [], 0, [], none⟩),
    (6, ⟨[0, 1, 5, 6, 7, 8], [24, 1062, 1076, 1096], [], 0, [], none⟩),
    (7, ⟨[0, 1, 5, 6, 7, 8, 9], [24, 1062, 1076, 1096], [], 0, [], none⟩),
    (8, ⟨[0, 1, 5, 6, 7, 8, 9, 10], [24, 1062, 1076, 1096], [], 0, [], none⟩),
    (9, ⟨[0, 1, 5, 6, 7, 8, 9, 10, 45], [24, 1062, 1076, 1096], [], 0, [], none⟩),
    (10, ⟨[0, 1, 5, 6, 7, 8, 9, 10], [24, 1062, 1076, 1096], [], 0, [], none⟩),
    (11, ⟨[0, 1, 5, 6, 7, 8, 9, 10, 57], [24, 1062, 1076, 1096], [], 0, [], none⟩),
    (12, ⟨[0, 1, 6, 7, 8, 9, 10, 22, 23], [24, 1062], [], 0, [], none⟩),
    (13, ⟨[0, 1, 6, 7, 8, 9, 10, 22, 66], [24, 1062], [], 0, [], none⟩),
    (14, ⟨[4], [1147], [], 0, [], none⟩),
    (15, ⟨[0, 1, 6, 7, 8, 22], [24, 1062], [], 0, [], none⟩),
    (16, ⟨[0, 1, 5, 6, 7, 8], [24, 1062, 1076, 1096], [], 0, [], none⟩),
    (17, ⟨[0, 1, 5, 6, 7, 8, 9, 10, 57, 71], [24, 1062, 1076, 1096], [], 0, [], none⟩),
    (18, ⟨[0, 1, 6, 7, 8, 9, 11, 12], [24, 1076], [], 0, [], none⟩),
    (19, ⟨[0, 1, 6, 7, 8, 9, 11, 12, 14], [24, 1076], [], 0, [], none⟩),
    (20, ⟨[0, 1, 6, 7, 8, 9, 11, 87], [24, 1076], [], 0, [], none⟩),
    (21, ⟨[4], [1147], [], 0, [], none⟩),
    (22, ⟨[0, 1, 6, 7, 8, 11], [24, 1076], [], 0, [], none⟩),
    (23, ⟨[0, 1, 5, 6, 7, 8], [24, 1062, 1076, 1096], [], 0, [], none⟩),
    (24, ⟨[0, 1, 5, 6, 7, 8, 9, 10, 91], [24, 1062, 1076, 1096], [], 0, [], none⟩),
    (25, ⟨[0, 1, 6, 8, 10, 15, 16], [24, 1096], [], 0, [], none⟩),
    (26, ⟨[0, 1, 6, 8, 10, 15, 16, 17], [24, 1096], [], 0, [], none⟩),
    (27, ⟨[0, 1, 6, 8, 10, 15, 16, 17, 102], [24, 1096], [], 0, [], none⟩),
    (28, ⟨[0, 1, 6, 8, 10, 15, 16, 17], [24, 1096], [], 0, [], none⟩),
    (29, ⟨[0, 1, 6, 8, 10, 15, 16, 17, 18, 19], [24, 1096], [], 0, [], none⟩),
    (30, ⟨[0, 1, 6, 8, 10, 15, 16, 17, 120], [24, 1096], [], 0, [], none⟩),
    (31, ⟨[4], [1147], [], 0, [], none⟩),
    (32, ⟨[0, 1, 6, 8, 10, 15, 16, 17], [24, 1096], [], 0, [], none⟩),
    (33, ⟨[0, 1, 6, 8, 10, 15, 127], [24, 127, 1096], [], 0, [], none⟩),
    (34, ⟨[0, 1, 6, 8, 10, 15, 127, 129], [24, 127, 1096], [], 0, [], none⟩),
    (35, ⟨[0, 1, 6, 8, 10, 15, 21, 127], [24, 127, 1096], [], 0, [], none⟩),
    (36, ⟨[0, 1, 6, 8, 10, 15, 127, 134], [24, 127, 1096], [], 0, [], none⟩),
    (37, ⟨[4], [1147], [], 0, [], none⟩),
    (38, ⟨[0, 1, 5, 6, 7, 8], [24, 1062, 1076, 1096], [], 0, [], none⟩),
    (39, ⟨[0, 1, 5, 6, 7, 8, 146], [24, 1062, 1076, 1096, 1144], [], 0, [], none⟩),
    (40, ⟨[4], [1147], [], 0, [], none⟩),
    (41, ⟨[4], [1147], [], 0, [], none⟩)] (Try.f16.body.getD .skip) = some M16 := by kernel_rfl
theorem Run16 {args : List PV} {v : AV} {rs : List (Nat × List PV)} (ids : List Bool) (h : args.length ≤ 148) (hv : run Try.prog (retK [RV.tmp 4] ids v rs) M16 [] ⟨entry 0 args, []⟩) : Fn Try.prog 16 args v rs :=
  Fn_run ids (by kernel_rfl) Try.func16 (by decide) rfl mc16 (by kernel_rfl) (by rw [Try.ntmps16]; exact h) (by rw [Try.ntmps16]; decide) hv

end Go.Vc

namespace Go.Vc
open Go.Proofs
set_option linter.unusedSimpArgs false

theorem u8s_of {p : PV} (h : ArgOk (false, [.lst false [.int .u8]]) p) : ∃ l : List Int, p = .lst (l.map p8) ∧ l.length ≤ 9223372036854775807 ∧ ∀ x ∈ l, 0 ≤ x ∧ x ≤ 255 := by
  obtain ⟨l, rfl, hl, hx⟩ := ints_of (OkShs_one h)
  exact ⟨l, rfl, hl, fun x h' => Go.bounds_u8 (hx x h')⟩
end Go.Vc
