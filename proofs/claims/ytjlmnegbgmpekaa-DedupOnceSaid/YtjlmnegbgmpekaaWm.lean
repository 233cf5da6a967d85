/- A part of the proofs of the seat Ytjlmnegbgmpekaa: the contracts of functions, each proved out of its code. -/
import Derived.Test.YtjlmnegbgmpekaaWl
import Derived.Test.YtjlmnegbgmpekaaVh
import Derived.Test.YtjlmnegbgmpekaaProg
namespace Go.Vc
open Go.Proofs
set_option linter.unusedSimpArgs false
set_option linter.unusedVariables false

/-- the document's list behind a number that was taken -/
def takeR (l : List La) (x : La) : List La × Int :=
  if (askL l x.p x.n).2 ≠ 0 then ([], (askL l x.p x.n).2)
  else if x.o < 0 then ([], 1)
  else if (lastL l x.p).2 = false ∧ 50 ≤ l.length then ([], 6)
  else (l.filter (fun y => blL y.p x.p) ++ [x] ++ l.filter (fun y => !(blL y.p x.p || decide (y.p = x.p))), 0)
theorem fn39 (l : List La) (x : La) (hl : l.length < 100000) (hn : 0 ≤ x.n) (hm : x.n ≤ 18446744073709551615) (hs : ∀ x ∈ l, x.p.size ≤ 1000) (hk : ∀ x ∈ l, 0 ≤ x.n) (hp : x.p.size ≤ 1000) : Fn Try.prog 39 [ls l, x.pv] (.pv (.tup [ls (takeR l x).1, pI (takeR l x).2])) [] := by
  refine Run39 [false, false] (by simp) ?_
  simp only [go_sem, Nat.reduceEqDiff, Nat.reduceBEq, Nat.reduceAdd, Nat.reduceMul, Nat.reduceSub, Nat.reduceLeDiff, Nat.reduceLT, reduceIte, reduceCtorEq, Int.reduceToNat, Int.reduceLE, Int.reduceLT, Int.reduceNeg, Bool.not_not, and_self, Bool.and_eq_false_iff, Int.cast_ofNat_Int, Int.reduceAdd, Int.reduceSub, Int.reduceMul, Int.reduceEq, Int.reduceNe, M39]
  refine runR_callf (by simp only [go_sem, Nat.reduceEqDiff, Nat.reduceBEq, Nat.reduceAdd, Nat.reduceMul, Nat.reduceSub, Nat.reduceLeDiff, Nat.reduceLT, reduceIte, reduceCtorEq, Int.reduceToNat, Int.reduceLE, Int.reduceLT, Int.reduceNeg, Bool.not_not, and_self, Bool.and_eq_false_iff, Int.cast_ofNat_Int, Int.reduceAdd, Int.reduceSub, Int.reduceMul, Int.reduceEq, Int.reduceNe]) (by simp only [go_sem, Nat.reduceEqDiff, Nat.reduceBEq, Nat.reduceAdd, Nat.reduceMul, Nat.reduceSub, Nat.reduceLeDiff, Nat.reduceLT, reduceIte, reduceCtorEq, Int.reduceToNat, Int.reduceLE, Int.reduceLT, Int.reduceNeg, Bool.not_not, and_self, Bool.and_eq_false_iff, Int.cast_ofNat_Int, Int.reduceAdd, Int.reduceSub, Int.reduceMul, Int.reduceEq, Int.reduceNe]) (fn37 l x.p x.n hl hn hm hs hk hp) ⟨rfl, trivial⟩ trivial ?_
  simp only [go_sem, Nat.reduceEqDiff, Nat.reduceBEq, Nat.reduceAdd, Nat.reduceMul, Nat.reduceSub, Nat.reduceLeDiff, Nat.reduceLT, reduceIte, reduceCtorEq, Int.reduceToNat, Int.reduceLE, Int.reduceLT, Int.reduceNeg, Bool.not_not, and_self, Bool.and_eq_false_iff, Int.cast_ofNat_Int, Int.reduceAdd, Int.reduceSub, Int.reduceMul, Int.reduceEq, Int.reduceNe]
  unfold takeR
  refine ⟨fun h => by rw [if_pos h]; rfl, fun h => ?_⟩
  rw [if_neg (by omega)]
  refine runR_callf (by simp only [go_sem, Nat.reduceEqDiff, Nat.reduceBEq, Nat.reduceAdd, Nat.reduceMul, Nat.reduceSub, Nat.reduceLeDiff, Nat.reduceLT, reduceIte, reduceCtorEq, Int.reduceToNat, Int.reduceLE, Int.reduceLT, Int.reduceNeg, Bool.not_not, and_self, Bool.and_eq_false_iff, Int.cast_ofNat_Int, Int.reduceAdd, Int.reduceSub, Int.reduceMul, Int.reduceEq, Int.reduceNe]) (by simp only [go_sem, Nat.reduceEqDiff, Nat.reduceBEq, Nat.reduceAdd, Nat.reduceMul, Nat.reduceSub, Nat.reduceLeDiff, Nat.reduceLT, reduceIte, reduceCtorEq, Int.reduceToNat, Int.reduceLE, Int.reduceLT, Int.reduceNeg, Bool.not_not, and_self, Bool.and_eq_false_iff, Int.cast_ofNat_Int, Int.reduceAdd, Int.reduceSub, Int.reduceMul, Int.reduceEq, Int.reduceNe]) (fn41 l x.p hl) ⟨rfl, trivial⟩ trivial ?_
  simp only [go_sem, Nat.reduceEqDiff, Nat.reduceBEq, Nat.reduceAdd, Nat.reduceMul, Nat.reduceSub, Nat.reduceLeDiff, Nat.reduceLT, reduceIte, reduceCtorEq, Int.reduceToNat, Int.reduceLE, Int.reduceLT, Int.reduceNeg, Bool.not_not, and_self, Bool.and_eq_false_iff, Int.cast_ofNat_Int, Int.reduceAdd, Int.reduceSub, Int.reduceMul, Int.reduceEq, Int.reduceNe]
  refine ⟨fun ho => by rw [if_pos ho]; rfl, fun ho => ?_⟩
  rw [if_neg ho]
  refine ⟨fun h5 => by rw [if_pos ⟨h5.1, by omega⟩]; rfl, fun h5 => ?_⟩
  rw [if_neg (by rintro ⟨h6, h7⟩; rcases h5 with h5 | h5; · rw [h6] at h5; cases h5
                 · omega)]
  refine run_loop (T := Nat) (fun i => ⟨[(0, .pv (ls l)), (3, .ptr 3 0), (10, .row 2010 0 ((l.take i).filter (fun y : La => blL y.p x.p)).length), (11, .pv (pI i))], [(3, .box [.pv (pS x.p), .pv (pU x.n), .pv (pI x.o)]), (2010, .sl 3 (((l.take i).filter (fun y : La => blL y.p x.p)).map La.pv))]⟩) (fun i => i ≤ l.length) (fun i => l.length - i) 0 rfl (Nat.zero_le _) ?_
  intro i hi
  have hle := filt_le (q := (fun y : La => blL y.p x.p)) (l := l) (i := i)
  by_cases hlt : i < l.length
  · have hsn := filt_snoc (q := (fun y : La => blL y.p x.p)) hlt
    have tk := take_len_map La.pv ((l.take i).filter (fun y : La => blL y.p x.p))
    simp only [go_sem, Nat.reduceEqDiff, Nat.reduceBEq, Nat.reduceAdd, Nat.reduceMul, Nat.reduceSub, Nat.reduceLeDiff, Nat.reduceLT, reduceIte, reduceCtorEq, Int.reduceToNat, Int.reduceLE, Int.reduceLT, Int.reduceNeg, Bool.not_not, and_self, Bool.and_eq_false_iff, Int.cast_ofNat_Int, Int.reduceAdd, Int.reduceSub, Int.reduceMul, Int.reduceEq, Int.reduceNe, B39_0, wf_ls, getD_map hlt, show (i : Int) < (l.length : Int) by omega]
    refine ⟨fun h5 => ⟨⟨wf_ls [l[i]], by omega, by omega⟩, ⟨by omega, by omega⟩, i + 1, ?_, by omega, by omega⟩, fun h5 => ⟨⟨by omega, by omega⟩, i + 1, ?_, by omega, by omega⟩⟩
    · rw [hsn, tk, if_pos (show blL (l[i]).p x.p = true from h5), List.map_append, List.length_append]; rfl
    · rw [hsn, if_neg (by show ¬ Op.bytesLess _ _ = true; rw [h5]; simp), List.append_nil]; rfl
  · simp only [go_sem, Nat.reduceEqDiff, Nat.reduceBEq, Nat.reduceAdd, Nat.reduceMul, Nat.reduceSub, Nat.reduceLeDiff, Nat.reduceLT, reduceIte, reduceCtorEq, Int.reduceToNat, Int.reduceLE, Int.reduceLT, Int.reduceNeg, Bool.not_not, and_self, Bool.and_eq_false_iff, Int.cast_ofNat_Int, Int.reduceAdd, Int.reduceSub, Int.reduceMul, Int.reduceEq, Int.reduceNe, B39_0, R39_0, show ¬ ((i : Int) < (l.length : Int)) by omega]
    have : i = l.length := by omega
    subst this
    have tk := take_len_map La.pv ((l.take l.length).filter (fun y : La => blL y.p x.p))
    refine ⟨⟨wf_ls [x], by omega, by omega⟩, ?_⟩
    rw [tk, List.take_length]
    rw [List.take_length] at hle
    obtain ⟨A, hA⟩ : ∃ A, l.filter (fun y : La => blL y.p x.p) ++ [x] = A := ⟨_, rfl⟩
    have hA2 : A.length = (l.filter (fun y : La => blL y.p x.p)).length + 1 := by rw [← hA, List.length_append]; rfl
    rw [hA]
    refine run_loop (T := Nat) (fun i => ⟨[(0, .pv (ls l)), (3, .ptr 3 0), (10, .row 2010 0 (A ++ (l.take i).filter (fun y : La => !(blL y.p x.p || decide (y.p = x.p)))).length), (12, .pv (pI i))], [(3, .box [.pv (pS x.p), .pv (pU x.n), .pv (pI x.o)]), (2010, .sl 3 ((A ++ (l.take i).filter (fun y : La => !(blL y.p x.p || decide (y.p = x.p)))).map La.pv))]⟩) (fun i => i ≤ l.length) (fun i => l.length - i) 0 ?_ (Nat.zero_le _) ?_
    · rw [← hA2, List.take_zero, List.filter_nil, List.append_nil, ← hA, List.map_append]; rfl
    intro i hi
    have hle2 := filt_le (q := (fun y : La => !(blL y.p x.p || decide (y.p = x.p)))) (l := l) (i := i)
    by_cases hlt : i < l.length
    · have hsn := filt_snoc (q := (fun y : La => !(blL y.p x.p || decide (y.p = x.p)))) hlt
      have tk := take_len_map La.pv (A ++ (l.take i).filter (fun y : La => !(blL y.p x.p || decide (y.p = x.p))))
      have hlen : (A ++ (l.take i).filter (fun y : La => !(blL y.p x.p || decide (y.p = x.p)))).length ≤ 2 * l.length + 1 := by rw [List.length_append]; omega
      simp only [go_sem, Nat.reduceEqDiff, Nat.reduceBEq, Nat.reduceAdd, Nat.reduceMul, Nat.reduceSub, Nat.reduceLeDiff, Nat.reduceLT, reduceIte, reduceCtorEq, Int.reduceToNat, Int.reduceLE, Int.reduceLT, Int.reduceNeg, Bool.not_not, and_self, Bool.and_eq_false_iff, Int.cast_ofNat_Int, Int.reduceAdd, Int.reduceSub, Int.reduceMul, Int.reduceEq, Int.reduceNe, B39_1, wf_ls, getD_map hlt, show (i : Int) < (l.length : Int) by omega]
      refine ⟨fun h5 => ⟨⟨wf_ls [l[i]], by omega, by omega⟩, ⟨by omega, by omega⟩, i + 1, ?_, by omega, by omega⟩, fun h5 => ⟨⟨by omega, by omega⟩, i + 1, ?_, by omega, by omega⟩⟩
      · rw [hsn, tk, if_pos (by unfold blL; simp [h5.1, h5.2]), ← List.append_assoc, List.map_append (l₂ := [l[i]]), List.length_append (bs := [l[i]])]; rfl
      · rw [hsn, if_neg (by unfold blL; simp; exact fun h6 => h5.resolve_left (by rw [h6]; simp)), List.append_nil]; rfl
    · simp only [go_sem, Nat.reduceEqDiff, Nat.reduceBEq, Nat.reduceAdd, Nat.reduceMul, Nat.reduceSub, Nat.reduceLeDiff, Nat.reduceLT, reduceIte, reduceCtorEq, Int.reduceToNat, Int.reduceLE, Int.reduceLT, Int.reduceNeg, Bool.not_not, and_self, Bool.and_eq_false_iff, Int.cast_ofNat_Int, Int.reduceAdd, Int.reduceSub, Int.reduceMul, Int.reduceEq, Int.reduceNe, B39_1, R39_1, show ¬ ((i : Int) < (l.length : Int)) by omega]
      have : i = l.length := by omega
      subst this
      rw [List.take_length, take_len_map]
def fewL (l : List La) : List La := (l.take 51).map (fun x => { x with p := few60 x.p })
theorem fn34 (l : List La) (hl : l.length ≤ 9223372036854775807) : Fn Try.prog 34 [ls l] (.pv (ls (fewL l))) [] := by
  refine Run34 [false] (by simp) ?_
  simp only [go_sem, Nat.reduceEqDiff, Nat.reduceBEq, Nat.reduceAdd, Nat.reduceMul, Nat.reduceSub, Nat.reduceLeDiff, Nat.reduceLT, reduceIte, reduceCtorEq, Int.reduceToNat, Int.reduceLE, Int.reduceLT, Int.reduceNeg, Bool.not_not, and_self, Bool.and_eq_false_iff, Int.cast_ofNat_Int, Int.reduceAdd, Int.reduceSub, Int.reduceMul, Int.reduceEq, Int.reduceNe, M34]
  refine run_loop (T := Nat) (fun i => ⟨[(0, .pv (ls l)), (3, .row 2003 0 i), (4, .pv (pI i))], [(2003, .sl 3 (((l.take i).map (fun x => { x with p := few60 x.p })).map La.pv))]⟩) (fun i => i ≤ l.length ∧ i ≤ 51) (fun i => l.length - i) 0 rfl ⟨Nat.zero_le _, Nat.zero_le _⟩ ?_
  intro i ⟨hi, h41⟩
  have fin : (i = l.length ∨ i = 51) → fewL l = (l.take i).map (fun x => { x with p := few60 x.p }) := fun h => by
    unfold fewL
    rcases h with h | h
    · rw [h, List.take_length, List.take_of_length_le (by omega)]
    · rw [h]
  have tk : List.take i (List.map La.pv (List.map (fun x => { x with p := few60 x.p }) (List.take i l))) = List.map La.pv (List.map (fun x => { x with p := few60 x.p }) (List.take i l)) := List.take_of_length_le (by simp; omega)
  by_cases hlt : i < l.length
  · by_cases h4 : i < 51
    · simp only [go_sem, Nat.reduceEqDiff, Nat.reduceBEq, Nat.reduceAdd, Nat.reduceMul, Nat.reduceSub, Nat.reduceLeDiff, Nat.reduceLT, reduceIte, reduceCtorEq, Int.reduceToNat, Int.reduceLE, Int.reduceLT, Int.reduceNeg, Bool.not_not, and_self, Bool.and_eq_false_iff, Int.cast_ofNat_Int, Int.reduceAdd, Int.reduceSub, Int.reduceMul, Int.reduceEq, Int.reduceNe, B34_0, wf_ls, getD_map hlt, show (i : Int) < (l.length : Int) by omega, show (i : Int) < 51 by omega]
      refine runR_callf (by simp only [go_sem, Nat.reduceEqDiff, Nat.reduceBEq, Nat.reduceAdd, Nat.reduceMul, Nat.reduceSub, Nat.reduceLeDiff, Nat.reduceLT, reduceIte, reduceCtorEq, Int.reduceToNat, Int.reduceLE, Int.reduceLT, Int.reduceNeg, Bool.not_not, and_self, Bool.and_eq_false_iff, Int.cast_ofNat_Int, Int.reduceAdd, Int.reduceSub, Int.reduceMul, Int.reduceEq, Int.reduceNe]) (by simp only [go_sem, Nat.reduceEqDiff, Nat.reduceBEq, Nat.reduceAdd, Nat.reduceMul, Nat.reduceSub, Nat.reduceLeDiff, Nat.reduceLT, reduceIte, reduceCtorEq, Int.reduceToNat, Int.reduceLE, Int.reduceLT, Int.reduceNeg, Bool.not_not, and_self, Bool.and_eq_false_iff, Int.cast_ofNat_Int, Int.reduceAdd, Int.reduceSub, Int.reduceMul, Int.reduceEq, Int.reduceNe]) (fn35 (l[i]).p) ⟨rfl, trivial⟩ trivial ?_
      simp only [go_sem, Nat.reduceEqDiff, Nat.reduceBEq, Nat.reduceAdd, Nat.reduceMul, Nat.reduceSub, Nat.reduceLeDiff, Nat.reduceLT, reduceIte, reduceCtorEq, Int.reduceToNat, Int.reduceLE, Int.reduceLT, Int.reduceNeg, Bool.not_not, and_self, Bool.and_eq_false_iff, Int.cast_ofNat_Int, Int.reduceAdd, Int.reduceSub, Int.reduceMul, Int.reduceEq, Int.reduceNe]
      refine ⟨⟨wf_ls [{ l[i] with p := few60 (l[i]).p }], by omega, by omega⟩, ⟨by omega, by omega⟩, i + 1, ?_, ⟨by omega, by omega⟩, by omega⟩
      rw [tk, take_snoc hlt, List.map_append, List.map_append]
      rfl
    · simp only [go_sem, Nat.reduceEqDiff, Nat.reduceBEq, Nat.reduceAdd, Nat.reduceMul, Nat.reduceSub, Nat.reduceLeDiff, Nat.reduceLT, reduceIte, reduceCtorEq, Int.reduceToNat, Int.reduceLE, Int.reduceLT, Int.reduceNeg, Bool.not_not, and_self, Bool.and_eq_false_iff, Int.cast_ofNat_Int, Int.reduceAdd, Int.reduceSub, Int.reduceMul, Int.reduceEq, Int.reduceNe, B34_0, R34_0, show (i : Int) < (l.length : Int) by omega, show ¬ (i : Int) < 51 by omega]
      rw [tk, fin (by omega)]
  · simp only [go_sem, Nat.reduceEqDiff, Nat.reduceBEq, Nat.reduceAdd, Nat.reduceMul, Nat.reduceSub, Nat.reduceLeDiff, Nat.reduceLT, reduceIte, reduceCtorEq, Int.reduceToNat, Int.reduceLE, Int.reduceLT, Int.reduceNeg, Bool.not_not, and_self, Bool.and_eq_false_iff, Int.cast_ofNat_Int, Int.reduceAdd, Int.reduceSub, Int.reduceMul, Int.reduceEq, Int.reduceNe, B34_0, R34_0, show ¬ (i : Int) < (l.length : Int) by omega]
    rw [tk, fin (by omega)]
end Go.Vc

namespace Go.Vc
set_option linter.unusedSimpArgs false
set_option linter.unusedVariables false

/-! ## Lists that may be, without the program -/
theorem bl_ne {a b : ByteArray} (h : blL a b = true) : a ≠ b := fun e => by subst e; unfold blL at h; rw [bl_irrefl] at h; cases h
theorem bl_no {a b : ByteArray} (h : blL a b = true) : blL b a = false := bl_asymm h
theorem bl_tot {a b : ByteArray} (h : blL a b = false) (hne : a ≠ b) : blL b a = true := by
  refine bl_total h fun e => hne ?_
  have : a.data.toList = b.data.toList := by simpa [ByteArray.toList_eq] using e
  cases a; cases b; simp_all
theorem bl_tr {a b c : ByteArray} (h : blL a b = true) (h' : blL b c = true) : blL a c = true := bl_trans h h'
/-- rising producers -/
def Ris (l : List La) : Prop := l.Pairwise (fun a b => blL a.p b.p = true)
theorem checkL_split {l : List La} : checkL l = true ↔ l.length ≤ 50 ∧ (∀ x ∈ l, mayL x = true) ∧ Ris l := by
  rw [checkL_iff]
  refine and_congr Iff.rfl ⟨fun h => ⟨fun x hx => ?_, ?_⟩, fun h i hi => ?_⟩
  · obtain ⟨i, hi, rfl⟩ := List.getElem_of_mem hx
    have := h i hi
    unfold okL at this
    rw [getD_get hi] at this
    simp only [Bool.and_eq_true] at this
    exact this.1
  · have step : ∀ i (h1 : i + 1 < l.length), blL (l[i]'(by omega)).p (l[i + 1]).p = true := fun i h1 => by
      have := h (i + 1) h1
      unfold okL at this
      rw [getD_get h1, show i + 1 - 1 = i from rfl, getD_get (show i < l.length by omega)] at this
      simp only [Bool.and_eq_true, Bool.or_eq_true, decide_eq_true_eq] at this
      exact this.2.resolve_left (by omega)
    unfold Ris
    rw [List.pairwise_iff_getElem]
    intro i j hi hj hij
    obtain ⟨d, rfl⟩ : ∃ d, j = i + 1 + d := ⟨j - i - 1, by omega⟩
    induction d with
    | zero => exact step i hj
    | succ d ih => exact bl_tr (ih (by omega) (by omega)) (step (i + 1 + d) (by omega))
  · unfold okL
    rw [getD_get hi]
    simp only [Bool.and_eq_true, Bool.or_eq_true, decide_eq_true_eq]
    refine ⟨h.1 _ (List.getElem_mem hi), ?_⟩
    by_cases h0 : i = 0
    · exact .inl h0
    · right
      rw [getD_get (show i - 1 < l.length by omega)]
      exact List.pairwise_iff_getElem.1 h.2 _ _ _ _ (by omega)
/-- one is laid where it belongs -/
def insL : List La → La → List La
  | [], x => [x]
  | a :: l, x => if blL a.p x.p then a :: insL l x else if a.p = x.p then x :: l else x :: a :: l
theorem insL_filter {x : La} : ∀ {l : List La}, Ris l → l.filter (fun y => blL y.p x.p) ++ [x] ++ l.filter (fun y => !(blL y.p x.p || decide (y.p = x.p))) = insL l x
  | [], _ => rfl
  | a :: l, h => by
    have h' := List.pairwise_cons.1 h
    have ih := insL_filter (x := x) h'.2
    unfold insL
    by_cases h1 : blL a.p x.p = true
    · simp only [List.filter_cons, h1, if_true, Bool.true_or, Bool.not_true, Bool.false_eq_true, if_false, List.cons_append, ih]
    · simp only [Bool.not_eq_true] at h1
      have none : l.filter (fun y => blL y.p x.p) = [] := by
        rw [List.filter_eq_nil_iff]
        intro y hy hyx
        have := bl_tr (h'.1 y hy) hyx
        rw [h1] at this; cases this
      by_cases h2 : a.p = x.p
      · have all : l.filter (fun y => !(blL y.p x.p || decide (y.p = x.p))) = l := by
          rw [List.filter_eq_self]
          intro y hy
          have h3 := h'.1 y hy
          rw [h2] at h3
          simp [bl_no h3, Ne.symm (bl_ne h3)]
        simp only [List.filter_cons, h1, h2, none, all, Bool.false_or, decide_true, Bool.not_true, Bool.false_eq_true, if_false, if_true, List.nil_append, List.cons_append]
        rw [show blL x.p x.p = false from bl_irrefl _]
        simp
      · have h3 := bl_tot h1 h2
        have all : l.filter (fun y => !(blL y.p x.p || decide (y.p = x.p))) = l := by
          rw [List.filter_eq_self]
          intro y hy
          have h4 := bl_tr h3 (h'.1 y hy)
          simp [bl_no h4, Ne.symm (bl_ne h4)]
        simp only [List.filter_cons, h1, h2, none, all, Bool.false_or, decide_false, Bool.not_false, Bool.false_eq_true, if_false, if_true, List.nil_append, List.cons_append]
theorem findL_cons (a : La) (l : List La) (p : ByteArray) : findL (a :: l) p = if a.p = p then 0 else if findL l p < 0 then -1 else findL l p + 1 := by
  unfold findL idxA
  by_cases h : a.p = p
  · simp [List.any_cons, h, List.findIdx_cons]
  · simp only [List.any_cons, h, decide_false, Bool.false_or, if_neg (show ¬ a.p = p from h), List.findIdx_cons, cond_false]
    by_cases h2 : l.any (fun x => decide (x.p = p)) = true
    · simp only [if_pos h2, if_false]
      rw [if_neg (by omega)]; rfl
    · simp only [if_neg h2, if_false]
      rfl
theorem insL_take {x : La} : ∀ {l : List La}, Ris l → (if 0 ≤ findL l x.p then l.set (findL l x.p).toNat x else putL l (l.takeWhile (fun y => blL y.p x.p)).length x) = insL l x
  | [], _ => by simp [findL, idxA, insL, putL]
  | a :: l, h => by
    have h' := List.pairwise_cons.1 h
    have ih := insL_take (x := x) h'.2
    rw [findL_cons]
    unfold insL
    by_cases h1 : blL a.p x.p = true
    · rw [if_neg (bl_ne h1), if_pos h1, ← ih]
      by_cases h2 : findL l x.p < 0
      · rw [if_pos h2, if_neg (by omega), if_neg (by omega)]
        simp [List.takeWhile_cons, h1, putL]
      · rw [if_neg h2, if_pos (by omega), if_pos (by omega), show (findL l x.p + 1).toNat = (findL l x.p).toNat + 1 by omega, List.set_cons_succ]
    · rw [if_neg h1]
      by_cases h2 : a.p = x.p
      · rw [if_pos h2, if_pos h2, if_pos (by omega)]; rfl
      · simp only [Bool.not_eq_true] at h1
        have h3 := bl_tot h1 h2
        have hno : findL l x.p = -1 := by
          unfold findL
          refine idxA_no fun j hj => decide_eq_false fun e => ?_
          have h4 := bl_tr h3 (h'.1 _ (List.getElem_mem hj))
          exact bl_ne h4 e.symm
        rw [if_neg h2, if_neg h2, hno]
        simp [List.takeWhile_cons, h1, putL]
theorem insL_mem {x y : La} : ∀ {l : List La}, y ∈ insL l x → y = x ∨ y ∈ l
  | [], h => by simp [insL] at h; exact .inl h
  | a :: l, h => by
    unfold insL at h
    split at h
    · rcases List.mem_cons.1 h with h | h
      · subst h; exact .inr (by simp)
      · exact (insL_mem h).imp id fun h => List.mem_cons_of_mem _ h
    · split at h
      · rcases List.mem_cons.1 h with h | h
        · exact .inl h
        · exact .inr (List.mem_cons_of_mem _ h)
      · rcases List.mem_cons.1 h with h | h
        · exact .inl h
        · exact .inr h
theorem insL_ris {x : La} : ∀ {l : List La}, Ris l → Ris (insL l x)
  | [], _ => by simp [insL, Ris]
  | a :: l, h => by
    have h' := List.pairwise_cons.1 h
    unfold insL
    split
    · rename_i h1
      refine List.pairwise_cons.2 ⟨fun y hy => ?_, insL_ris h'.2⟩
      rcases insL_mem hy with rfl | hy
      · exact h1
      · exact h'.1 y hy
    · rename_i h1
      split
      · rename_i h2
        exact List.pairwise_cons.2 ⟨fun y hy => by rw [← h2]; exact h'.1 y hy, h'.2⟩
      · rename_i h2
        have h3 := bl_tot (by simpa using h1) h2
        refine List.pairwise_cons.2 ⟨fun y hy => ?_, h⟩
        rcases List.mem_cons.1 hy with rfl | hy
        · exact h3
        · exact bl_tr h3 (h'.1 y hy)
/-- the last of a producer, by the list's own shape -/
theorem lastL_cons (a : La) (l : List La) (p : ByteArray) : lastL (a :: l) p = if a.p = p then (a, true) else lastL l p := by
  unfold lastL
  rw [findL_cons]
  by_cases h : a.p = p
  · rw [if_pos h, if_neg (by omega), if_pos h]; rfl
  · rw [if_neg h, if_neg h]
    by_cases h2 : findL l p < 0
    · rw [if_pos h2, if_pos (by omega), if_pos h2]
    · rw [if_neg h2, if_neg (by omega), if_neg h2, show (findL l p + 1).toNat = (findL l p).toNat + 1 by omega, List.getD_cons_succ]
theorem lastL_nil (p : ByteArray) : lastL [] p = (default, false) := rfl
theorem lastL_ins {x : La} {p : ByteArray} : ∀ {l : List La}, Ris l → lastL (insL l x) p = if x.p = p then (x, true) else lastL l p
  | [], _ => by simp [insL, lastL_cons, lastL_nil]
  | a :: l, h => by
    have h' := List.pairwise_cons.1 h
    unfold insL
    split
    · rename_i h1
      rw [lastL_cons, lastL_ins h'.2, lastL_cons]
      by_cases h2 : a.p = p
      · rw [if_pos h2, if_pos h2, if_neg fun h3 => bl_ne h1 (h2.trans h3.symm)]
      · rw [if_neg h2, if_neg h2]
    · split
      · rename_i h2
        rw [lastL_cons, lastL_cons, h2]
        split <;> rfl
      · rw [lastL_cons]
theorem lastL_none {l : List La} {p : ByteArray} (h : ∀ y ∈ l, y.p ≠ p) : lastL l p = (default, false) := by
  induction l with
  | nil => rfl
  | cons a l ih => rw [lastL_cons, if_neg (h a (by simp)), ih fun y hy => h y (List.mem_cons_of_mem _ hy)]
theorem ris_ext : ∀ {l m : List La}, Ris l → Ris m → (∀ p, lastL l p = lastL m p) → l = m
  | [], [], _, _, _ => rfl
  | [], b :: m, _, _, h => by
    have := h b.p
    rw [lastL_cons, if_pos rfl, lastL_nil] at this
    injection this with _ h2; cases h2
  | a :: l, [], _, _, h => by
    have := h a.p
    rw [lastL_cons, if_pos rfl, lastL_nil] at this
    injection this with _ h2; cases h2
  | a :: l, b :: m, hl, hm, h => by
    have hl' := List.pairwise_cons.1 hl
    have hm' := List.pairwise_cons.1 hm
    have hab : a.p = b.p := by
      by_cases hne : a.p = b.p
      · exact hne
      · exfalso
        cases hb : blL a.p b.p with
        | true =>
          have := h a.p
          rw [lastL_cons, if_pos rfl, lastL_none] at this
          · injection this with _ h2; cases h2
          · intro y hy
            rcases List.mem_cons.1 hy with rfl | hy
            · exact Ne.symm hne
            · exact Ne.symm (bl_ne (bl_tr hb (hm'.1 y hy)))
        | false =>
          have hb' := bl_tot hb hne
          have := h b.p
          rw [lastL_cons (a := b), if_pos rfl, lastL_none] at this
          · injection this with _ h2; cases h2
          · intro y hy
            rcases List.mem_cons.1 hy with rfl | hy
            · exact hne
            · exact Ne.symm (bl_ne (bl_tr hb' (hl'.1 y hy)))
    have h0 := h a.p
    rw [lastL_cons, if_pos rfl, lastL_cons, if_pos hab.symm] at h0
    injection h0 with h0 _
    subst h0
    rw [ris_ext hl'.2 hm'.2 fun p => ?_]
    have h1 := h p
    rw [lastL_cons, lastL_cons] at h1
    by_cases hp : a.p = p
    · subst hp
      rw [lastL_none fun y hy => Ne.symm (bl_ne (hl'.1 y hy)), lastL_none fun y hy => Ne.symm (bl_ne (hm'.1 y hy))]
    · rwa [if_neg hp, if_neg hp] at h1
theorem insL_comm {x y : La} (hne : x.p ≠ y.p) {l : List La} (h : Ris l) : insL (insL l x) y = insL (insL l y) x := by
  refine ris_ext (insL_ris (insL_ris h)) (insL_ris (insL_ris h)) fun p => ?_
  rw [lastL_ins (insL_ris h), lastL_ins h, lastL_ins (insL_ris h), lastL_ins h]
  by_cases h1 : y.p = p
  · rw [if_pos h1, if_pos h1, if_neg fun h2 => hne (h2.trans h1.symm)]
  · rw [if_neg h1, if_neg h1]
theorem askL_ok {l : List La} {p : ByteArray} {n : Int} (h : (askL l p n).2 = 0) : checkL l = true ∧ fieldB p = true ∧ 1 ≤ n := by
  unfold askL at h
  split at h
  · cases h
  · rename_i h1
    simp only [not_or, Bool.not_eq_false, Int.not_lt] at h1
    exact h1
theorem takeL_eq (l : List La) (x : La) : takeL l x = if (askL l x.p x.n).2 ≠ 0 then ([], (askL l x.p x.n).2) else if x.o < 0 then ([], 1) else if (lastL l x.p).2 = false ∧ 50 ≤ l.length then ([], 6) else (insL l x, 0) := by
  unfold takeL
  by_cases h : (askL l x.p x.n).2 ≠ 0
  · rw [if_pos h, if_pos h]
  · rw [if_neg h, if_neg h]
    by_cases h2 : x.o < 0
    · rw [if_pos h2, if_pos h2]
    · rw [if_neg h2, if_neg h2]
      have hr := (checkL_split.1 (askL_ok (by simpa using h)).1).2.2
      have ht := insL_take (x := x) hr
      have e : (lastL l x.p).2 = false ↔ ¬ 0 ≤ findL l x.p := by
        unfold lastL
        split <;> simp <;> omega
      by_cases h3 : 0 ≤ findL l x.p
      · rw [if_pos h3, if_neg (by rw [e]; exact fun h4 => h4.1 h3)]
        rw [if_pos h3] at ht
        rw [ht]
      · rw [if_neg h3]
        rw [if_neg h3] at ht
        rw [ht]
        by_cases h4 : 50 ≤ l.length
        · rw [if_pos h4, if_pos ⟨e.2 h3, h4⟩]
        · rw [if_neg h4, if_neg fun h5 => h4 h5.2]
end Go.Vc

namespace Go.Vc
open Go.Proofs
set_option maxRecDepth 100000

/-- 'trystlaw13.DedupTakes' -/
def M7 : MC := (.seq (.reg [⟨(some 3), none, (.box (.t 1))⟩, ⟨(some 4), none, (.q (.mv (.c (.bool false))))⟩] [] [0, 3] [3, 1019, 1022]) (.seq (.reg [⟨(some 18), none, (.q (.mv (.t 0)))⟩, ⟨(some 19),
  none, (.call (.f 34) [(.t 18)])⟩, ⟨(some 0), none, (.q (.mv (.t 19)))⟩] [] [0, 3] [3, 1019, 1022]) (.seq (.reg [⟨(some 20), none, (.q (.fa (.t 3) 0))⟩, ⟨(some 21), none, (.q (.ld (.t 20) 1 false))⟩,
  ⟨(some 22), none, (.call (.f 35) [(.t 21)])⟩, ⟨(some 23), none, (.q (.fa (.t 3) 0))⟩, ⟨none, none, (.st (.t 23) (.t 22) 1)⟩] [] [0, 3] [3, 1019, 1022]) (.seq (.reg [⟨(some 24), none,
  (.q (.mv (.t 0)))⟩, ⟨(some 25), none, (.call (.f 34) [(.t 24)])⟩, ⟨(some 5), none, (.q (.mv (.t 25)))⟩] [] [0, 3, 5] [3, 1019, 1022, 1025]) (.seq (.reg [⟨(some 27), none, (.q (.mv (.t 0)))⟩,
  ⟨(some 28), none, (.q (.fa (.t 3) 0))⟩, ⟨(some 29), none, (.q (.ld (.t 28) 1 false))⟩, ⟨(some 30), none, (.q (.fa (.t 3) 1))⟩, ⟨(some 31), none, (.q (.ld (.t 30) 1 false))⟩, ⟨(some 32), none,
  (.call (.f 36) [(.t 27), (.t 29), (.t 31)])⟩, ⟨(some 26), none, (.q (.mv (.t 32)))⟩, ⟨(some 33), none, (.q (.ext (.t 26) 0))⟩, ⟨(some 34), none, (.q (.ext (.t 26) 1))⟩, ⟨(some 6), none,
  (.q (.mv (.t 33)))⟩, ⟨(some 7), none, (.q (.mv (.t 34)))⟩] [] [0, 3, 5, 6, 7] [3, 1019, 1022, 1025, 1032]) (.seq (.reg [⟨(some 36), none, (.q (.mv (.t 0)))⟩, ⟨(some 37), none, (.q (.fa (.t 3) 0))⟩,
  ⟨(some 38), none, (.q (.ld (.t 37) 1 false))⟩, ⟨(some 39), none, (.q (.fa (.t 3) 1))⟩, ⟨(some 40), none, (.q (.ld (.t 39) 1 false))⟩, ⟨(some 41), none, (.call (.f 37) [(.t 36), (.t 38), (.t 40)])⟩,
  ⟨(some 35), none, (.q (.mv (.t 41)))⟩, ⟨(some 42), none, (.q (.ext (.t 35) 0))⟩, ⟨(some 43), none, (.q (.ext (.t 35) 1))⟩, ⟨(some 8), none, (.q (.mv (.t 42)))⟩, ⟨(some 9), none,
  (.q (.mv (.t 43)))⟩] [] [0, 3, 5, 6, 7, 8, 9] [3, 1019, 1022, 1025, 1032, 1041]) (.seq (.reg [⟨(some 45), none, (.q (.mv (.t 0)))⟩, ⟨(some 46), none, (.q (.ld (.t 3) 3 true))⟩, ⟨(some 47), none,
  (.call (.f 38) [(.t 45), (.t 46)])⟩, ⟨(some 44), none, (.q (.mv (.t 47)))⟩, ⟨(some 48), none, (.q (.ext (.t 44) 0))⟩, ⟨(some 49), none, (.q (.ext (.t 44) 1))⟩, ⟨(some 10), none, (.q (.mv (.t 48)))⟩,
  ⟨(some 11), none, (.q (.mv (.t 49)))⟩] [] [0, 3, 5, 6, 7, 8, 9, 10, 11] [3, 1019, 1022, 1025, 1032, 1041, 1047]) (.seq (.reg [⟨(some 51), none, (.q (.mv (.t 0)))⟩, ⟨(some 52), none, (.q (.ld (.t 3)
  3 true))⟩, ⟨(some 53), none, (.call (.f 39) [(.t 51), (.t 52)])⟩, ⟨(some 50), none, (.q (.mv (.t 53)))⟩, ⟨(some 54), none, (.q (.ext (.t 50) 0))⟩, ⟨(some 55), none, (.q (.ext (.t 50) 1))⟩,
  ⟨(some 12), none, (.q (.mv (.t 54)))⟩, ⟨(some 13), none, (.q (.mv (.t 55)))⟩] [] [0, 3, 5, 6, 7, 8, 9, 10, 11, 12, 13] [3, 1019, 1022, 1025, 1032, 1041, 1047, 1053]) (.seq (.reg [⟨(some 57), none,
  (.q (.mv (.t 0)))⟩, ⟨(some 58), none, (.q (.fa (.t 3) 0))⟩, ⟨(some 59), none, (.q (.ld (.t 58) 1 false))⟩, ⟨(some 60), none, (.call (.f 40) [(.t 57), (.t 59)])⟩, ⟨(some 56), none,
  (.q (.mv (.t 60)))⟩, ⟨(some 61), none, (.q (.ext (.t 56) 0))⟩, ⟨(some 62), none, (.q (.ext (.t 56) 1))⟩, ⟨(some 14), none, (.alloc [(.pv (.sc (.string ⟨#[]⟩))), (.pv (.sc (.int .u64 0))),
  (.pv (.sc (.int .i64 0)))])⟩, ⟨none, none, (.st (.t 14) (.t 61) 3)⟩, ⟨(some 15), none, (.q (.mv (.t 62)))⟩] [] [0, 3, 5, 6, 7, 8, 9, 10, 11, 12, 13, 14, 15] [3, 14, 1019, 1022, 1025, 1032, 1041,
  1047, 1053, 1060]) (.seq (.reg [⟨(some 64), none, (.q (.mv (.t 0)))⟩, ⟨(some 65), none, (.q (.fa (.t 3) 0))⟩, ⟨(some 66), none, (.q (.ld (.t 65) 1 false))⟩, ⟨(some 67), none, (.call (.f 41)
  [(.t 64), (.t 66)])⟩, ⟨(some 63), none, (.q (.mv (.t 67)))⟩, ⟨(some 68), none, (.q (.ext (.t 63) 0))⟩, ⟨(some 69), none, (.q (.ext (.t 63) 1))⟩, ⟨(some 16), none,
  (.alloc [(.pv (.sc (.string ⟨#[]⟩))), (.pv (.sc (.int .u64 0))), (.pv (.sc (.int .i64 0)))])⟩, ⟨none, none, (.st (.t 16) (.t 68) 3)⟩, ⟨(some 17), none, (.q (.mv (.t 69)))⟩] [] [0, 5, 6, 7, 8, 9, 10,
  11, 12, 13, 14, 15, 16, 17] [14, 16, 1019, 1025, 1032, 1041, 1047, 1053, 1060, 1067]) (.seq (.reg [⟨(some 70), none, (.q (.mv (.t 6)))⟩, ⟨(some 71), none, (.q (.mv (.t 8)))⟩, ⟨(some 72), none,
  (.q (.bin .eql (.t 70) (.t 71)))⟩, ⟨(some 73), none, (.q (.mv (.t 72)))⟩, ⟨(some 74), (some (73, true)), (.q (.mv (.t 7)))⟩, ⟨(some 75), (some (73, true)), (.q (.mv (.t 9)))⟩, ⟨(some 76), (some (73,
  true)), (.q (.bin .eql (.t 74) (.t 75)))⟩, ⟨(some 77), none, (.q (.pick (.t 73) (.t 76) (.c (.bool false))))⟩, ⟨(some 78), none, (.q (.mv (.t 77)))⟩, ⟨(some 79), (some (78, true)),
  (.q (.mv (.t 10)))⟩, ⟨(some 80), (some (78, true)), (.q (.mv (.t 12)))⟩, ⟨(some 81), (some (78, true)), (.call (.f 42) [(.t 79), (.t 80)])⟩, ⟨(some 82), none, (.q (.pick (.t 78) (.t 81)
  (.c (.bool false))))⟩, ⟨(some 83), none, (.q (.mv (.t 82)))⟩, ⟨(some 84), (some (83, true)), (.q (.mv (.t 11)))⟩, ⟨(some 85), (some (83, true)), (.q (.mv (.t 13)))⟩, ⟨(some 86), (some (83, true)),
  (.q (.bin .eql (.t 84) (.t 85)))⟩, ⟨(some 87), none, (.q (.pick (.t 83) (.t 86) (.c (.bool false))))⟩, ⟨(some 88), none, (.q (.mv (.t 87)))⟩, ⟨(some 89), (some (88, true)), (.q (.ld (.t 14)
  3 true))⟩, ⟨(some 90), (some (88, true)), (.q (.ld (.t 16) 3 true))⟩, ⟨(some 91), (some (88, true)), (.q (.seq false [1, 0, 0] (.t 89) (.t 90)))⟩, ⟨(some 92), none, (.q (.pick (.t 88) (.t 91)
  (.c (.bool false))))⟩, ⟨(some 93), none, (.q (.mv (.t 92)))⟩, ⟨(some 94), (some (93, true)), (.q (.mv (.t 15)))⟩, ⟨(some 95), (some (93, true)), (.q (.mv (.t 17)))⟩, ⟨(some 96), (some (93, true)),
  (.q (.beq false (.t 94) (.t 95)))⟩, ⟨(some 97), none, (.q (.pick (.t 93) (.t 96) (.c (.bool false))))⟩, ⟨(some 98), none, (.q (.mv (.t 97)))⟩, ⟨(some 99), (some (98, true)), (.q (.mv (.t 0)))⟩,
  ⟨(some 100), (some (98, true)), (.call (.f 43) [(.t 99)])⟩, ⟨(some 101), (some (98, true)), (.q (.bin .eql (.t 100) (.c (.int .i64 0))))⟩, ⟨(some 102), (some (98, true)), (.q (.mv (.t 0)))⟩,
  ⟨(some 103), (some (98, true)), (.call (.f 44) [(.t 102)])⟩, ⟨(some 104), (some (98, true)), (.q (.beq false (.t 101) (.t 103)))⟩, ⟨(some 105), none, (.q (.pick (.t 98) (.t 104)
  (.c (.bool false))))⟩, ⟨(some 106), none, (.q (.mv (.t 105)))⟩, ⟨(some 107), (some (106, true)), (.q (.mv (.t 0)))⟩, ⟨(some 108), (some (106, true)), (.q (.mv (.t 5)))⟩, ⟨(some 109), (some (106,
  true)), (.call (.f 42) [(.t 107), (.t 108)])⟩, ⟨(some 110), none, (.q (.pick (.t 106) (.t 109) (.c (.bool false))))⟩, ⟨(some 111), none, (.q (.mv (.t 110)))⟩, ⟨(some 112), (some (111, true)),
  (.call (.f 45) [])⟩, ⟨(some 113), none, (.q (.pick (.t 111) (.t 112) (.c (.bool false))))⟩, ⟨(some 4), none, (.q (.mv (.t 113)))⟩] [] [4] [1032, 1041, 1047, 1053, 1060, 1067, 1081, 1100, 1103, 1109,
  1112]) .ret)))))))))))
theorem mc7 : ofCode Try.prog [] Try.f7.ntmps [(0, ⟨[0, 3], [3, 1019, 1022], [], 0, [], none⟩),
    (1, ⟨[0, 3], [3, 1019, 1022], [], 0, [], none⟩),
    (2, ⟨[0, 3], [3, 1019, 1022], [], 0, [], none⟩),
    (3, ⟨[0, 3, 5], [3, 1019, 1022, 1025], [], 0, [], none⟩),
    (4, ⟨[0, 3, 5, 6, 7], [3, 1019, 1022, 1025, 1032], [], 0, [], none⟩),
    (5, ⟨[0, 3, 5, 6, 7, 8, 9], [3, 1019, 1022, 1025, 1032, 1041], [], 0, [], none⟩),
    (6, ⟨[0, 3, 5, 6, 7, 8, 9, 10, 11], [3, 1019, 1022, 1025, 1032, 1041, 1047], [], 0, [], none⟩),
    (7, ⟨[0, 3, 5, 6, 7, 8, 9, 10, 11, 12, 13], [3, 1019, 1022, 1025, 1032, 1041, 1047, 1053], [], 0, [], none⟩),
    (8, ⟨[0, 3, 5, 6, 7, 8, 9, 10, 11, 12, 13, 14, 15], [3, 14, 1019, 1022, 1025, 1032, 1041, 1047, 1053, 1060], [], 0, [], none⟩),
    (9, ⟨[0, 5, 6, 7, 8, 9, 10, 11, 12, 13, 14, 15, 16, 17], [14, 16, 1019, 1025, 1032, 1041, 1047, 1053, 1060, 1067], [], 0, [], none⟩),
    (10, ⟨[4], [1032, 1041, 1047, 1053, 1060, 1067, 1081, 1100, 1103, 1109, 1112], [], 0, [], none⟩)] (Try.f7.body.getD .skip) = some M7 := by kernel_rfl
theorem Run7 {args : List PV} {v : AV} {rs : List (Nat × List PV)} (ids : List Bool) (h : args.length ≤ 114) (hv : run Try.prog (retK [RV.tmp 4] ids v rs) M7 [] ⟨entry 0 args, []⟩) : Fn Try.prog 7 args v rs :=
  Fn_run ids (by kernel_rfl) Try.func7 (by decide) rfl mc7 (by kernel_rfl) (by rw [Try.ntmps7]; exact h) (by rw [Try.ntmps7]; decide) hv

/-- 'trystlaw13.DedupApart' -/
def M9 : MC := (.seq (.reg [⟨(some 4), none, (.box (.t 1))⟩, ⟨(some 5), none, (.box (.t 2))⟩, ⟨(some 6), none, (.q (.mv (.c (.bool false))))⟩] [] [0, 4, 5] [4, 5, 1014, 1017, 1020])
  (.seq (.reg [⟨(some 13), none, (.q (.mv (.t 0)))⟩, ⟨(some 14), none, (.call (.f 34) [(.t 13)])⟩, ⟨(some 0), none, (.q (.mv (.t 14)))⟩] [] [0, 4, 5] [4, 5, 1014, 1017, 1020]) (.seq (.reg [⟨(some 15),
  none, (.q (.fa (.t 4) 0))⟩, ⟨(some 16), none, (.q (.ld (.t 15) 1 false))⟩, ⟨(some 18), none, (.q (.fa (.t 5) 0))⟩, ⟨(some 19), none, (.q (.ld (.t 18) 1 false))⟩, ⟨(some 17), none, (.call (.f 35)
  [(.t 16)])⟩, ⟨(some 21), none, (.q (.fa (.t 4) 0))⟩, ⟨(some 20), none, (.call (.f 35) [(.t 19)])⟩, ⟨none, none, (.st (.t 21) (.t 17) 1)⟩, ⟨(some 22), none, (.q (.fa (.t 5) 0))⟩, ⟨none, none,
  (.st (.t 22) (.t 20) 1)⟩] [] [0, 4, 5] [4, 5, 1014, 1017, 1020]) (.seq (.seq (.reg [⟨(some 23), none, (.q (.fa (.t 4) 0))⟩, ⟨(some 24), none, (.q (.ld (.t 23) 1 false))⟩, ⟨(some 25), none,
  (.q (.fa (.t 5) 0))⟩, ⟨(some 26), none, (.q (.ld (.t 25) 1 false))⟩, ⟨(some 27), none, (.q (.bin .eql (.t 24) (.t 26)))⟩] [] [0, 4, 5, 27] [4, 5, 1014, 1017, 1020]) (.cond (.t 27)
  (.seq (.reg [⟨(some 28), none, (.call (.f 45) [])⟩, ⟨(some 6), none, (.q (.mv (.t 28)))⟩] [] [6] [1028, 1067, 1070, 1073, 1077]) .ret) .skip)) (.seq (.reg [⟨(some 30), none, (.q (.mv (.t 0)))⟩,
  ⟨(some 31), none, (.q (.ld (.t 4) 3 true))⟩, ⟨(some 32), none, (.call (.f 38) [(.t 30), (.t 31)])⟩, ⟨(some 29), none, (.q (.mv (.t 32)))⟩, ⟨(some 33), none, (.q (.ext (.t 29) 0))⟩, ⟨(some 34), none,
  (.q (.ext (.t 29) 1))⟩, ⟨(some 7), none, (.q (.mv (.t 33)))⟩, ⟨(some 8), none, (.q (.mv (.t 34)))⟩] [] [0, 4, 5, 7, 8] [4, 5, 1014, 1017, 1020, 1032, 1038]) (.seq (.reg [⟨(some 36), none,
  (.q (.mv (.t 7)))⟩, ⟨(some 37), none, (.q (.ld (.t 5) 3 true))⟩, ⟨(some 38), none, (.call (.f 38) [(.t 36), (.t 37)])⟩, ⟨(some 35), none, (.q (.mv (.t 38)))⟩, ⟨(some 39), none, (.q (.ext (.t 35)
  0))⟩, ⟨(some 40), none, (.q (.ext (.t 35) 1))⟩, ⟨(some 7), none, (.q (.mv (.t 39)))⟩, ⟨(some 9), none, (.q (.mv (.t 40)))⟩] [] [0, 4, 5, 7, 8, 9] [4, 5, 1014, 1017, 1020, 1032, 1038])
  (.seq (.reg [⟨(some 42), none, (.q (.mv (.t 0)))⟩, ⟨(some 43), none, (.q (.ld (.t 5) 3 true))⟩, ⟨(some 44), none, (.call (.f 38) [(.t 42), (.t 43)])⟩, ⟨(some 41), none, (.q (.mv (.t 44)))⟩,
  ⟨(some 45), none, (.q (.ext (.t 41) 0))⟩, ⟨(some 46), none, (.q (.ext (.t 41) 1))⟩, ⟨(some 10), none, (.q (.mv (.t 45)))⟩, ⟨(some 11), none, (.q (.mv (.t 46)))⟩] [] [4, 7, 8, 9, 10, 11] [4, 1017,
  1032, 1038, 1044, 1050]) (.seq (.reg [⟨(some 48), none, (.q (.mv (.t 10)))⟩, ⟨(some 49), none, (.q (.ld (.t 4) 3 true))⟩, ⟨(some 50), none, (.call (.f 38) [(.t 48), (.t 49)])⟩, ⟨(some 47), none,
  (.q (.mv (.t 50)))⟩, ⟨(some 51), none, (.q (.ext (.t 47) 0))⟩, ⟨(some 52), none, (.q (.ext (.t 47) 1))⟩, ⟨(some 10), none, (.q (.mv (.t 51)))⟩, ⟨(some 12), none, (.q (.mv (.t 52)))⟩] [] [7, 8, 9,
  10, 11, 12] [1032, 1038, 1044, 1050]) (.seq (.seq (.reg [⟨(some 53), none, (.q (.mv (.t 8)))⟩, ⟨(some 54), none, (.q (.bin .neq (.t 53) (.c (.int .i64 0))))⟩, ⟨(some 55), none, (.q (.mv (.t 54)))⟩,
  ⟨(some 56), (some (55, false)), (.q (.mv (.t 9)))⟩, ⟨(some 57), (some (55, false)), (.q (.bin .neq (.t 56) (.c (.int .i64 0))))⟩, ⟨(some 58), none, (.q (.pick (.t 55) (.c (.bool true)) (.t 57)))⟩,
  ⟨(some 59), none, (.q (.mv (.t 58)))⟩, ⟨(some 60), (some (59, false)), (.q (.mv (.t 11)))⟩, ⟨(some 61), (some (59, false)), (.q (.bin .neq (.t 60) (.c (.int .i64 0))))⟩, ⟨(some 62), none,
  (.q (.pick (.t 59) (.c (.bool true)) (.t 61)))⟩, ⟨(some 63), none, (.q (.mv (.t 62)))⟩, ⟨(some 64), (some (63, false)), (.q (.mv (.t 12)))⟩, ⟨(some 65), (some (63, false)), (.q (.bin .neq (.t 64)
  (.c (.int .i64 0))))⟩, ⟨(some 66), none, (.q (.pick (.t 63) (.c (.bool true)) (.t 65)))⟩] [] [7, 10, 66] [1032, 1038, 1044, 1050]) (.cond (.t 66) (.seq (.reg [⟨(some 67), none, (.call (.f 45) [])⟩,
  ⟨(some 6), none, (.q (.mv (.t 67)))⟩] [] [6] [1028, 1067, 1070, 1073, 1077]) .ret) .skip)) (.seq (.reg [⟨(some 68), none, (.q (.mv (.t 7)))⟩, ⟨(some 69), none, (.q (.mv (.t 10)))⟩, ⟨(some 70), none,
  (.call (.f 42) [(.t 68), (.t 69)])⟩, ⟨(some 71), none, (.q (.mv (.t 70)))⟩, ⟨(some 72), (some (71, true)), (.q (.mv (.t 7)))⟩, ⟨(some 73), (some (71, true)), (.call (.f 43) [(.t 72)])⟩, ⟨(some 74),
  (some (71, true)), (.q (.bin .eql (.t 73) (.c (.int .i64 0))))⟩, ⟨(some 75), none, (.q (.pick (.t 71) (.t 74) (.c (.bool false))))⟩, ⟨(some 76), none, (.q (.mv (.t 75)))⟩, ⟨(some 77), (some (76,
  true)), (.call (.f 45) [])⟩, ⟨(some 78), none, (.q (.pick (.t 76) (.t 77) (.c (.bool false))))⟩, ⟨(some 6), none, (.q (.mv (.t 78)))⟩] [] [6] [1028, 1067, 1070, 1073, 1077]) .ret))))))))))
theorem mc9 : ofCode Try.prog [] Try.f9.ntmps [(0, ⟨[0, 4, 5], [4, 5, 1014, 1017, 1020], [], 0, [], none⟩),
    (1, ⟨[0, 4, 5], [4, 5, 1014, 1017, 1020], [], 0, [], none⟩),
    (2, ⟨[0, 4, 5], [4, 5, 1014, 1017, 1020], [(0, 999), (1, 998), (3, 952), (4, 944), (2, 0), (6, 960), (5, 0), (7, 0), (8, 768), (9, 0)], 383, [], none⟩),
    (3, ⟨[0, 4, 5, 27], [4, 5, 1014, 1017, 1020], [], 0, [], none⟩),
    (4, ⟨[6], [1028, 1067, 1070, 1073, 1077], [], 0, [], none⟩),
    (5, ⟨[0, 4, 5, 7, 8], [4, 5, 1014, 1017, 1020, 1032, 1038], [], 0, [], none⟩),
    (6, ⟨[0, 4, 5, 7, 8, 9], [4, 5, 1014, 1017, 1020, 1032, 1038], [], 0, [], none⟩),
    (7, ⟨[4, 7, 8, 9, 10, 11], [4, 1017, 1032, 1038, 1044, 1050], [], 0, [], none⟩),
    (8, ⟨[7, 8, 9, 10, 11, 12], [1032, 1038, 1044, 1050], [], 0, [], none⟩),
    (9, ⟨[7, 10, 66], [1032, 1038, 1044, 1050], [], 0, [], none⟩),
    (10, ⟨[6], [1028, 1067, 1070, 1073, 1077], [], 0, [], none⟩),
    (11, ⟨[6], [1028, 1067, 1070, 1073, 1077], [], 0, [], none⟩)] (Try.f9.body.getD .skip) = some M9 := by kernel_rfl
theorem Run9 {args : List PV} {v : AV} {rs : List (Nat × List PV)} (ids : List Bool) (h : args.length ≤ 79) (hv : run Try.prog (retK [RV.tmp 6] ids v rs) M9 [] ⟨entry 0 args, []⟩) : Fn Try.prog 9 args v rs :=
  Fn_run ids (by kernel_rfl) Try.func9 (by decide) rfl mc9 (by kernel_rfl) (by rw [Try.ntmps9]; exact h) (by rw [Try.ntmps9]; decide) hv

/-- 'trystlaw13.DedupNexts' -/
def M10 : MC := (.seq (.reg [⟨(some 6), none, (.q (.mv (.c (.bool false))))⟩] [] [0, 1, 2] [1012, 1014]) (.seq (.reg [⟨(some 11), none, (.q (.mv (.t 0)))⟩, ⟨(some 12), none, (.call (.f 34)
  [(.t 11)])⟩, ⟨(some 13), none, (.q (.mv (.t 1)))⟩, ⟨(some 14), none, (.call (.f 35) [(.t 13)])⟩, ⟨(some 0), none, (.q (.mv (.t 12)))⟩, ⟨(some 1), none, (.q (.mv (.t 14)))⟩] [] [0, 1, 2] [1012,
  1014]) (.seq (.seq (.reg [⟨(some 15), none, (.q (.mv (.t 0)))⟩, ⟨(some 16), none, (.call (.f 43) [(.t 15)])⟩, ⟨(some 17), none, (.q (.bin .neq (.t 16) (.c (.int .i64 0))))⟩] [] [0, 1, 2, 17] [1012,
  1014, 1016]) (.cond (.t 17) (.seq (.reg [⟨(some 18), none, (.call (.f 45) [])⟩, ⟨(some 6), none, (.q (.mv (.t 18)))⟩] [] [6] [1018, 1022, 1029, 1045, 1064, 1081, 1102, 1115, 1120]) .ret) .skip))
  (.seq (.reg [⟨(some 20), none, (.q (.mv (.t 0)))⟩, ⟨(some 21), none, (.q (.mv (.t 1)))⟩, ⟨(some 22), none, (.call (.f 40) [(.t 20), (.t 21)])⟩, ⟨(some 19), none, (.q (.mv (.t 22)))⟩, ⟨(some 23),
  none, (.q (.ext (.t 19) 0))⟩, ⟨(some 24), none, (.q (.ext (.t 19) 1))⟩, ⟨(some 7), none, (.alloc [(.pv (.sc (.string ⟨#[]⟩))), (.pv (.sc (.int .u64 0))), (.pv (.sc (.int .i64 0)))])⟩, ⟨none, none,
  (.st (.t 7) (.t 23) 3)⟩, ⟨(some 8), none, (.q (.mv (.t 24)))⟩] [] [0, 1, 2, 7, 8] [7, 1012, 1014, 1022]) (.seq (.reg [⟨(some 26), none, (.q (.mv (.t 0)))⟩, ⟨(some 27), none, (.q (.mv (.t 1)))⟩,
  ⟨(some 28), none, (.q (.mv (.t 2)))⟩, ⟨(some 29), none, (.call (.f 36) [(.t 26), (.t 27), (.t 28)])⟩, ⟨(some 25), none, (.q (.mv (.t 29)))⟩, ⟨(some 30), none, (.q (.ext (.t 25) 0))⟩, ⟨(some 31),
  none, (.q (.ext (.t 25) 1))⟩, ⟨(some 9), none, (.q (.mv (.t 30)))⟩, ⟨(some 10), none, (.q (.mv (.t 31)))⟩] [] [1, 2, 7, 8, 9, 10] [7, 1014, 1022, 1029]) (.seq (.block 0 (.seq (.reg [⟨(some 33),
  none, (.q (.mv (.t 10)))⟩, ⟨(some 34), none, (.q (.bin .eql (.t 33) (.c (.int .i64 0))))⟩, ⟨(some 32), none, (.q (.mv (.t 34)))⟩] [] [1, 2, 7, 8, 9, 10, 32] [7, 1014, 1022, 1029]) (.cond (.t 32)
  (.seq (.reg [⟨(some 35), none, (.q (.mv (.t 9)))⟩, ⟨(some 36), none, (.q (.bin .eql (.t 35) (.c (.int .i64 0))))⟩, ⟨(some 37), none, (.q (.mv (.t 36)))⟩, ⟨(some 38), (some (37, true)),
  (.q (.mv (.t 2)))⟩, ⟨(some 39), (some (37, true)), (.q (.bin .sub (.t 38) (.c (.int .u64 1))))⟩, ⟨(some 40), (some (37, true)), (.q (.fa (.t 7) 1))⟩, ⟨(some 41), (some (37, true)), (.q (.ld (.t 40)
  1 false))⟩, ⟨(some 42), (some (37, true)), (.q (.bin .eql (.t 39) (.t 41)))⟩, ⟨(some 43), none, (.q (.pick (.t 37) (.t 42) (.c (.bool false))))⟩, ⟨(some 44), none, (.q (.mv (.t 43)))⟩, ⟨(some 45),
  (some (44, true)), (.call (.f 45) [])⟩, ⟨(some 46), none, (.q (.pick (.t 44) (.t 45) (.c (.bool false))))⟩, ⟨(some 6), none, (.q (.mv (.t 46)))⟩] [] [6] [1018, 1022, 1029, 1045, 1064, 1081, 1102,
  1115, 1120]) .ret) (.seq (.reg [⟨(some 48), none, (.q (.mv (.t 10)))⟩, ⟨(some 49), none, (.q (.bin .eql (.t 48) (.c (.int .i64 5))))⟩, ⟨(some 47), none, (.q (.mv (.t 49)))⟩] [] [1, 2, 7, 8, 9, 10,
  47] [7, 1014, 1022, 1029]) (.cond (.t 47) (.seq (.reg [⟨(some 50), none, (.q (.mv (.t 8)))⟩, ⟨(some 51), none, (.q (.mv (.t 50)))⟩, ⟨(some 52), (some (51, true)), (.q (.mv (.t 2)))⟩, ⟨(some 53),
  (some (51, true)), (.q (.fa (.t 7) 1))⟩, ⟨(some 54), (some (51, true)), (.q (.ld (.t 53) 1 false))⟩, ⟨(some 55), (some (51, true)), (.q (.bin .eql (.t 52) (.t 54)))⟩, ⟨(some 56), none,
  (.q (.pick (.t 51) (.t 55) (.c (.bool false))))⟩, ⟨(some 57), none, (.q (.mv (.t 56)))⟩, ⟨(some 58), (some (57, true)), (.q (.mv (.t 9)))⟩, ⟨(some 59), (some (57, true)), (.q (.fa (.t 7) 2))⟩,
  ⟨(some 60), (some (57, true)), (.q (.ld (.t 59) 1 false))⟩, ⟨(some 61), (some (57, true)), (.q (.bin .eql (.t 58) (.t 60)))⟩, ⟨(some 62), none, (.q (.pick (.t 57) (.t 61) (.c (.bool false))))⟩,
  ⟨(some 63), none, (.q (.mv (.t 62)))⟩, ⟨(some 64), (some (63, true)), (.call (.f 45) [])⟩, ⟨(some 65), none, (.q (.pick (.t 63) (.t 64) (.c (.bool false))))⟩, ⟨(some 6), none,
  (.q (.mv (.t 65)))⟩] [] [6] [1018, 1022, 1029, 1045, 1064, 1081, 1102, 1115, 1120]) .ret) (.seq (.reg [⟨(some 67), none, (.q (.mv (.t 10)))⟩, ⟨(some 68), none, (.q (.bin .eql (.t 67)
  (.c (.int .i64 8))))⟩, ⟨(some 66), none, (.q (.mv (.t 68)))⟩] [] [1, 2, 7, 8, 9, 10, 66] [7, 1014, 1022, 1029]) (.cond (.t 66) (.seq (.reg [⟨(some 69), none, (.q (.mv (.t 8)))⟩, ⟨(some 70), none,
  (.q (.mv (.t 69)))⟩, ⟨(some 71), (some (70, true)), (.q (.mv (.t 2)))⟩, ⟨(some 72), (some (70, true)), (.q (.fa (.t 7) 1))⟩, ⟨(some 73), (some (70, true)), (.q (.ld (.t 72) 1 false))⟩, ⟨(some 74),
  (some (70, true)), (.q (.bin .lss (.t 71) (.t 73)))⟩, ⟨(some 75), none, (.q (.pick (.t 70) (.t 74) (.c (.bool false))))⟩, ⟨(some 76), none, (.q (.mv (.t 75)))⟩, ⟨(some 77), (some (76, true)),
  (.q (.mv (.t 9)))⟩, ⟨(some 78), (some (76, true)), (.q (.bin .eql (.t 77) (.c (.int .i64 0))))⟩, ⟨(some 79), none, (.q (.pick (.t 76) (.t 78) (.c (.bool false))))⟩, ⟨(some 80), none,
  (.q (.mv (.t 79)))⟩, ⟨(some 81), (some (80, true)), (.call (.f 45) [])⟩, ⟨(some 82), none, (.q (.pick (.t 80) (.t 81) (.c (.bool false))))⟩, ⟨(some 6), none, (.q (.mv (.t 82)))⟩] [] [6] [1018, 1022,
  1029, 1045, 1064, 1081, 1102, 1115, 1120]) .ret) (.seq (.reg [⟨(some 84), none, (.q (.mv (.t 10)))⟩, ⟨(some 85), none, (.q (.bin .eql (.t 84) (.c (.int .i64 9))))⟩, ⟨(some 83), none,
  (.q (.mv (.t 85)))⟩] [] [1, 2, 7, 9, 10, 83] [7, 1014, 1022, 1029]) (.cond (.t 83) (.seq (.reg [⟨(some 86), none, (.q (.mv (.t 2)))⟩, ⟨(some 87), none, (.q (.fa (.t 7) 1))⟩, ⟨(some 88), none,
  (.q (.ld (.t 87) 1 false))⟩, ⟨(some 89), none, (.q (.bin .gtr (.t 86) (.t 88)))⟩, ⟨(some 90), none, (.q (.mv (.t 89)))⟩, ⟨(some 91), (some (90, true)), (.q (.mv (.t 2)))⟩, ⟨(some 92), (some (90,
  true)), (.q (.fa (.t 7) 1))⟩, ⟨(some 93), (some (90, true)), (.q (.ld (.t 92) 1 false))⟩, ⟨(some 94), (some (90, true)), (.q (.bin .sub (.t 91) (.t 93)))⟩, ⟨(some 95), (some (90, true)),
  (.q (.bin .gtr (.t 94) (.c (.int .u64 1))))⟩, ⟨(some 96), none, (.q (.pick (.t 90) (.t 95) (.c (.bool false))))⟩, ⟨(some 97), none, (.q (.mv (.t 96)))⟩, ⟨(some 98), (some (97, true)),
  (.q (.mv (.t 9)))⟩, ⟨(some 99), (some (97, true)), (.q (.bin .eql (.t 98) (.c (.int .i64 0))))⟩, ⟨(some 100), none, (.q (.pick (.t 97) (.t 99) (.c (.bool false))))⟩, ⟨(some 101), none,
  (.q (.mv (.t 100)))⟩, ⟨(some 102), (some (101, true)), (.call (.f 45) [])⟩, ⟨(some 103), none, (.q (.pick (.t 101) (.t 102) (.c (.bool false))))⟩, ⟨(some 6), none,
  (.q (.mv (.t 103)))⟩] [] [6] [1018, 1022, 1029, 1045, 1064, 1081, 1102, 1115, 1120]) .ret) .skip))))))))) (.seq (.reg [⟨(some 104), none, (.q (.mv (.t 10)))⟩, ⟨(some 105), none,
  (.q (.bin .eql (.t 104) (.c (.int .i64 1))))⟩, ⟨(some 106), none, (.q (.mv (.t 105)))⟩, ⟨(some 107), (some (106, true)), (.q (.mv (.t 9)))⟩, ⟨(some 108), (some (106, true)), (.q (.bin .eql (.t 107)
  (.c (.int .i64 0))))⟩, ⟨(some 109), none, (.q (.pick (.t 106) (.t 108) (.c (.bool false))))⟩, ⟨(some 110), none, (.q (.mv (.t 109)))⟩, ⟨(some 111), (some (110, true)), (.q (.mv (.t 2)))⟩,
  ⟨(some 112), (some (110, true)), (.q (.bin .eql (.t 111) (.c (.int .u64 0))))⟩, ⟨(some 113), (some (110, true)), (.q (.mv (.t 112)))⟩, ⟨(some 114), (some (113, false)), (.q (.mv (.t 1)))⟩,
  ⟨(some 115), (some (113, false)), (.call (.f 46) [(.t 114)])⟩, ⟨(some 116), (some (113, false)), (.q (.not (.t 115)))⟩, ⟨(some 117), (some (110, true)), (.q (.pick (.t 113) (.c (.bool true))
  (.t 116)))⟩, ⟨(some 118), none, (.q (.pick (.t 110) (.t 117) (.c (.bool false))))⟩, ⟨(some 119), none, (.q (.mv (.t 118)))⟩, ⟨(some 120), (some (119, true)), (.call (.f 45) [])⟩, ⟨(some 121), none,
  (.q (.pick (.t 119) (.t 120) (.c (.bool false))))⟩, ⟨(some 6), none, (.q (.mv (.t 121)))⟩] [] [6] [1018, 1022, 1029, 1045, 1064, 1081, 1102, 1115, 1120]) .ret)))))))
theorem mc10 : ofCode Try.prog [] Try.f10.ntmps [(0, ⟨[0, 1, 2], [1012, 1014], [], 0, [], none⟩),
    (1, ⟨[0, 1, 2], [1012, 1014], [], 0, [], none⟩),
    (2, ⟨[0, 1, 2, 17], [1012, 1014, 1016], [], 0, [], none⟩),
    (3, ⟨[6], [1018, 1022, 1029, 1045, 1064, 1081, 1102, 1115, 1120], [], 0, [], none⟩),
    (4, ⟨[0, 1, 2, 7, 8], [7, 1012, 1014, 1022], [], 0, [], none⟩),
    (5, ⟨[1, 2, 7, 8, 9, 10], [7, 1014, 1022, 1029], [], 0, [], none⟩),
    (6, ⟨[1, 2, 7, 8, 9, 10, 32], [7, 1014, 1022, 1029], [], 0, [], none⟩),
    (7, ⟨[6], [1018, 1022, 1029, 1045, 1064, 1081, 1102, 1115, 1120], [], 0, [], none⟩),
    (8, ⟨[1, 2, 7, 8, 9, 10, 47], [7, 1014, 1022, 1029], [], 0, [], none⟩),
    (9, ⟨[6], [1018, 1022, 1029, 1045, 1064, 1081, 1102, 1115, 1120], [], 0, [], none⟩),
    (10, ⟨[1, 2, 7, 8, 9, 10, 66], [7, 1014, 1022, 1029], [], 0, [], none⟩),
    (11, ⟨[6], [1018, 1022, 1029, 1045, 1064, 1081, 1102, 1115, 1120], [], 0, [], none⟩),
    (12, ⟨[1, 2, 7, 9, 10, 83], [7, 1014, 1022, 1029], [], 0, [], none⟩),
    (13, ⟨[6], [1018, 1022, 1029, 1045, 1064, 1081, 1102, 1115, 1120], [], 0, [], none⟩),
    (14, ⟨[6], [1018, 1022, 1029, 1045, 1064, 1081, 1102, 1115, 1120], [], 0, [], none⟩)] (Try.f10.body.getD .skip) = some M10 := by kernel_rfl
theorem Run10 {args : List PV} {v : AV} {rs : List (Nat × List PV)} (ids : List Bool) (h : args.length ≤ 122) (hv : run Try.prog (retK [RV.tmp 6] ids v rs) M10 [] ⟨entry 0 args, []⟩) : Fn Try.prog 10 args v rs :=
  Fn_run ids (by kernel_rfl) Try.func10 (by decide) rfl mc10 (by kernel_rfl) (by rw [Try.ntmps10]; exact h) (by rw [Try.ntmps10]; decide) hv

/-- 'trystlaw13.DedupStays' -/
def B11_0 : MC := (.seq (.seq (.reg [⟨(some 36), none, (.q (.mv (.t 7)))⟩, ⟨(some 37), none, (.q (.mv (.t 0)))⟩, ⟨(some 38), none, (.q (.len (.t 37) false))⟩, ⟨(some 39), none, (.q (.bin .lss (.t 36)
  (.t 38)))⟩] [] [0, 3, 5, 7, 39] [3, 1017, 1020, 1025]) (.cond (.t 39) .skip (.exit 0))) (.seq (.block 1 (.seq (.reg [⟨(some 43), none, (.q (.mv (.t 5)))⟩, ⟨(some 44), none, (.q (.mv (.t 0)))⟩,
  ⟨(some 45), none, (.q (.mv (.t 7)))⟩, ⟨(some 46), none, (.q (.ia (.t 44) (.t 45) 3))⟩, ⟨(some 47), none, (.q (.fa (.t 46) 0))⟩, ⟨(some 48), none, (.q (.ld (.t 47) 1 false))⟩, ⟨(some 49), none,
  (.call (.f 40) [(.t 43), (.t 48)])⟩, ⟨(some 42), none, (.q (.mv (.t 49)))⟩, ⟨(some 50), none, (.q (.ext (.t 42) 0))⟩, ⟨(some 51), none, (.q (.ext (.t 42) 1))⟩, ⟨(some 8), none,
  (.alloc [(.pv (.sc (.string ⟨#[]⟩))), (.pv (.sc (.int .u64 0))), (.pv (.sc (.int .i64 0)))])⟩, ⟨none, none, (.st (.t 8) (.t 50) 3)⟩, ⟨(some 9), none, (.q (.mv (.t 51)))⟩] [] [0, 3, 5, 7, 8, 9] [3,
  8, 1017, 1020, 1025, 1049]) (.seq (.reg [⟨(some 52), none, (.q (.mv (.t 0)))⟩, ⟨(some 53), none, (.q (.mv (.t 7)))⟩, ⟨(some 54), none, (.q (.ia (.t 52) (.t 53) 3))⟩, ⟨(some 55), none,
  (.q (.fa (.t 54) 0))⟩, ⟨(some 56), none, (.q (.ld (.t 55) 1 false))⟩, ⟨(some 57), none, (.q (.fa (.t 3) 0))⟩, ⟨(some 58), none, (.q (.ld (.t 57) 1 false))⟩, ⟨(some 59), none, (.q (.bin .neq (.t 56)
  (.t 58)))⟩, ⟨(some 60), none, (.q (.mv (.t 59)))⟩, ⟨(some 61), (some (60, true)), (.q (.ld (.t 8) 3 true))⟩, ⟨(some 62), (some (60, true)), (.q (.mv (.t 0)))⟩, ⟨(some 63), (some (60, true)),
  (.q (.mv (.t 7)))⟩, ⟨(some 64), (some (60, true)), (.q (.ia (.t 62) (.t 63) 3))⟩, ⟨(some 65), (some (60, true)), (.q (.ld (.t 64) 3 true))⟩, ⟨(some 66), (some (60, true)), (.q (.seq true [1, 0,
  0] (.t 61) (.t 65)))⟩, ⟨(some 67), (some (60, true)), (.q (.mv (.t 66)))⟩, ⟨(some 68), (some (67, false)), (.q (.mv (.t 9)))⟩, ⟨(some 69), (some (67, false)), (.q (.not (.t 68)))⟩, ⟨(some 70),
  (some (60, true)), (.q (.pick (.t 67) (.c (.bool true)) (.t 69)))⟩, ⟨(some 71), none, (.q (.pick (.t 60) (.t 70) (.c (.bool false))))⟩] [] [0, 3, 5, 7, 71] [3, 1017, 1020, 1025, 1049])
  (.cond (.t 71) (.seq (.reg [⟨(some 4), none, (.q (.mv (.c (.bool false))))⟩] [] [4] [1020, 1034, 1078, 1084, 1091, 1095, 1125]) .ret) .skip)))) (.reg [⟨(some 40), none, (.q (.mv (.t 7)))⟩,
  ⟨(some 41), none, (.q (.bin .add (.t 40) (.c (.int .i64 1))))⟩, ⟨(some 7), none, (.q (.mv (.t 41)))⟩] [] [0, 3, 5, 7] [3, 1017, 1020, 1025])))
def R11_0 : MC := (.seq (.reg [⟨(some 73), none, (.q (.mv (.t 5)))⟩, ⟨(some 74), none, (.q (.fa (.t 3) 0))⟩, ⟨(some 75), none, (.q (.ld (.t 74) 1 false))⟩, ⟨(some 76), none, (.q (.fa (.t 3) 1))⟩,
  ⟨(some 77), none, (.q (.ld (.t 76) 1 false))⟩, ⟨(some 78), none, (.call (.f 36) [(.t 73), (.t 75), (.t 77)])⟩, ⟨(some 72), none, (.q (.mv (.t 78)))⟩, ⟨(some 79), none, (.q (.ext (.t 72) 0))⟩,
  ⟨(some 80), none, (.q (.ext (.t 72) 1))⟩, ⟨(some 10), none, (.q (.mv (.t 79)))⟩, ⟨(some 11), none, (.q (.mv (.t 80)))⟩] [] [3, 5, 10, 11] [3, 1020, 1025, 1078]) (.seq (.reg [⟨(some 82), none,
  (.q (.mv (.t 5)))⟩, ⟨(some 83), none, (.q (.ld (.t 3) 3 true))⟩, ⟨(some 84), none, (.call (.f 38) [(.t 82), (.t 83)])⟩, ⟨(some 81), none, (.q (.mv (.t 84)))⟩, ⟨(some 85), none, (.q (.ext (.t 81)
  0))⟩, ⟨(some 86), none, (.q (.ext (.t 81) 1))⟩, ⟨(some 12), none, (.q (.mv (.t 85)))⟩, ⟨(some 13), none, (.q (.mv (.t 86)))⟩] [] [3, 5, 10, 11, 12, 13] [3, 1020, 1025, 1078, 1084])
  (.seq (.reg [⟨(some 88), none, (.q (.mv (.t 5)))⟩, ⟨(some 89), none, (.q (.fa (.t 3) 0))⟩, ⟨(some 90), none, (.q (.ld (.t 89) 1 false))⟩, ⟨(some 91), none, (.call (.f 40) [(.t 88), (.t 90)])⟩,
  ⟨(some 87), none, (.q (.mv (.t 91)))⟩, ⟨(some 92), none, (.q (.ext (.t 87) 0))⟩, ⟨(some 93), none, (.q (.ext (.t 87) 1))⟩, ⟨(some 14), none, (.alloc [(.pv (.sc (.string ⟨#[]⟩))),
  (.pv (.sc (.int .u64 0))), (.pv (.sc (.int .i64 0)))])⟩, ⟨none, none, (.st (.t 14) (.t 92) 3)⟩, ⟨(some 15), none, (.q (.mv (.t 93)))⟩] [] [3, 5, 10, 11, 12, 13, 14, 15] [3, 14, 1020, 1025, 1078,
  1084, 1091]) (.seq (.reg [⟨(some 94), none, (.q (.mv (.t 5)))⟩, ⟨(some 95), none, (.call (.f 43) [(.t 94)])⟩, ⟨(some 96), none, (.q (.bin .eql (.t 95) (.c (.int .i64 0))))⟩, ⟨(some 97), none,
  (.q (.mv (.t 96)))⟩, ⟨(some 98), (some (97, true)), (.q (.mv (.t 10)))⟩, ⟨(some 99), (some (97, true)), (.q (.fa (.t 3) 2))⟩, ⟨(some 100), (some (97, true)), (.q (.ld (.t 99) 1 false))⟩,
  ⟨(some 101), (some (97, true)), (.q (.bin .eql (.t 98) (.t 100)))⟩, ⟨(some 102), none, (.q (.pick (.t 97) (.t 101) (.c (.bool false))))⟩, ⟨(some 103), none, (.q (.mv (.t 102)))⟩, ⟨(some 104),
  (some (103, true)), (.q (.mv (.t 11)))⟩, ⟨(some 105), (some (103, true)), (.q (.bin .eql (.t 104) (.c (.int .i64 5))))⟩, ⟨(some 106), none, (.q (.pick (.t 103) (.t 105) (.c (.bool false))))⟩,
  ⟨(some 107), none, (.q (.mv (.t 106)))⟩, ⟨(some 108), (some (107, true)), (.q (.mv (.t 13)))⟩, ⟨(some 109), (some (107, true)), (.q (.bin .eql (.t 108) (.c (.int .i64 5))))⟩, ⟨(some 110), none,
  (.q (.pick (.t 107) (.t 109) (.c (.bool false))))⟩, ⟨(some 111), none, (.q (.mv (.t 110)))⟩, ⟨(some 112), (some (111, true)), (.q (.mv (.t 12)))⟩, ⟨(some 113), (some (111, true)), (.q (.len (.t 112)
  false))⟩, ⟨(some 114), (some (111, true)), (.q (.bin .eql (.t 113) (.c (.int .i64 0))))⟩, ⟨(some 115), none, (.q (.pick (.t 111) (.t 114) (.c (.bool false))))⟩, ⟨(some 116), none,
  (.q (.mv (.t 115)))⟩, ⟨(some 117), (some (116, true)), (.q (.ld (.t 14) 3 true))⟩, ⟨(some 118), (some (116, true)), (.q (.ld (.t 3) 3 true))⟩, ⟨(some 119), (some (116, true)), (.q (.seq false [1, 0,
  0] (.t 117) (.t 118)))⟩, ⟨(some 120), none, (.q (.pick (.t 116) (.t 119) (.c (.bool false))))⟩, ⟨(some 121), none, (.q (.mv (.t 120)))⟩, ⟨(some 122), (some (121, true)), (.q (.mv (.t 15)))⟩,
  ⟨(some 123), none, (.q (.pick (.t 121) (.t 122) (.c (.bool false))))⟩, ⟨(some 124), none, (.q (.mv (.t 123)))⟩, ⟨(some 125), (some (124, true)), (.call (.f 45) [])⟩, ⟨(some 126), none,
  (.q (.pick (.t 124) (.t 125) (.c (.bool false))))⟩, ⟨(some 4), none, (.q (.mv (.t 126)))⟩] [] [4] [1020, 1034, 1078, 1084, 1091, 1095, 1125]) .ret))))
def M11 : MC := (.seq (.reg [⟨(some 3), none, (.box (.t 1))⟩, ⟨(some 4), none, (.q (.mv (.c (.bool false))))⟩] [] [0, 3] [3, 1017, 1020]) (.seq (.reg [⟨(some 16), none, (.q (.mv (.t 0)))⟩, ⟨(some 17),
  none, (.call (.f 34) [(.t 16)])⟩, ⟨(some 0), none, (.q (.mv (.t 17)))⟩] [] [0, 3] [3, 1017, 1020]) (.seq (.reg [⟨(some 18), none, (.q (.fa (.t 3) 0))⟩, ⟨(some 19), none, (.q (.ld (.t 18) 1 false))⟩,
  ⟨(some 20), none, (.call (.f 35) [(.t 19)])⟩, ⟨(some 21), none, (.q (.fa (.t 3) 0))⟩, ⟨none, none, (.st (.t 21) (.t 20) 1)⟩] [] [0, 3] [3, 1017, 1020]) (.seq (.reg [⟨(some 23), none,
  (.q (.mv (.t 0)))⟩, ⟨(some 24), none, (.q (.ld (.t 3) 3 true))⟩, ⟨(some 25), none, (.call (.f 38) [(.t 23), (.t 24)])⟩, ⟨(some 22), none, (.q (.mv (.t 25)))⟩, ⟨(some 26), none, (.q (.ext (.t 22)
  0))⟩, ⟨(some 27), none, (.q (.ext (.t 22) 1))⟩, ⟨(some 5), none, (.q (.mv (.t 26)))⟩, ⟨(some 6), none, (.q (.mv (.t 27)))⟩] [] [0, 3, 5, 6] [3, 1017, 1020, 1025]) (.seq (.seq (.reg [⟨(some 28),
  none, (.q (.mv (.t 6)))⟩, ⟨(some 29), none, (.q (.bin .neq (.t 28) (.c (.int .i64 0))))⟩] [] [0, 3, 5, 29] [3, 1017, 1020, 1025]) (.cond (.t 29) (.seq (.reg [⟨(some 30), none, (.q (.mv (.t 5)))⟩,
  ⟨(some 31), none, (.q (.len (.t 30) false))⟩, ⟨(some 32), none, (.q (.bin .eql (.t 31) (.c (.int .i64 0))))⟩, ⟨(some 33), none, (.q (.mv (.t 32)))⟩, ⟨(some 34), (some (33, true)), (.call (.f 45)
  [])⟩, ⟨(some 35), none, (.q (.pick (.t 33) (.t 34) (.c (.bool false))))⟩, ⟨(some 4), none, (.q (.mv (.t 35)))⟩] [] [4] [1020, 1034, 1078, 1084, 1091, 1095, 1125]) .ret) .skip))
  (.seq (.seq (.reg [⟨(some 7), none, (.q (.mv (.c (.int .i64 0))))⟩] [] [0, 3, 5, 7] [3, 1017, 1020, 1025]) (.block 0 (.loop B11_0))) R11_0))))))
theorem mc11 : ofCode Try.prog [] Try.f11.ntmps [(0, ⟨[0, 3], [3, 1017, 1020], [], 0, [], none⟩),
    (1, ⟨[0, 3], [3, 1017, 1020], [], 0, [], none⟩),
    (2, ⟨[0, 3], [3, 1017, 1020], [], 0, [], none⟩),
    (3, ⟨[0, 3, 5, 6], [3, 1017, 1020, 1025], [], 0, [], none⟩),
    (4, ⟨[0, 3, 5, 29], [3, 1017, 1020, 1025], [], 0, [], none⟩),
    (5, ⟨[4], [1020, 1034, 1078, 1084, 1091, 1095, 1125], [], 0, [], none⟩),
    (6, ⟨[0, 3, 5, 7], [3, 1017, 1020, 1025], [], 0, [], none⟩),
    (7, ⟨[0, 3, 5, 7, 39], [3, 1017, 1020, 1025], [], 0, [], none⟩),
    (8, ⟨[0, 3, 5, 7], [3, 1017, 1020, 1025], [], 0, [], none⟩),
    (9, ⟨[0, 3, 5, 7, 8, 9], [3, 8, 1017, 1020, 1025, 1049], [], 0, [], none⟩),
    (10, ⟨[0, 3, 5, 7, 71], [3, 1017, 1020, 1025, 1049], [(0, 1048477), (1, 1048478), (2, 1048476), (3, 1048472), (4, 1048464), (5, 1048544), (6, 1048512), (7, 1048448), (8, 1048320), (9, 1032704), (10, 1045504), (11, 1046528), (12, 1044480), (13, 1040384), (14, 1032192), (15, 1015808), (16, 983040), (17, 917504), (18, 786432), (19, 524288)], 1048575, [], none⟩),
    (11, ⟨[4], [1020, 1034, 1078, 1084, 1091, 1095, 1125], [], 0, [], none⟩),
    (12, ⟨[3, 5, 10, 11], [3, 1020, 1025, 1078], [], 0, [], none⟩),
    (13, ⟨[3, 5, 10, 11, 12, 13], [3, 1020, 1025, 1078, 1084], [], 0, [], none⟩),
    (14, ⟨[3, 5, 10, 11, 12, 13, 14, 15], [3, 14, 1020, 1025, 1078, 1084, 1091], [], 0, [], none⟩),
    (15, ⟨[4], [1020, 1034, 1078, 1084, 1091, 1095, 1125], [], 0, [], none⟩)] (Try.f11.body.getD .skip) = some M11 := by kernel_rfl
theorem Run11 {args : List PV} {v : AV} {rs : List (Nat × List PV)} (ids : List Bool) (h : args.length ≤ 127) (hv : run Try.prog (retK [RV.tmp 4] ids v rs) M11 [] ⟨entry 0 args, []⟩) : Fn Try.prog 11 args v rs :=
  Fn_run ids (by kernel_rfl) Try.func11 (by decide) rfl mc11 (by kernel_rfl) (by rw [Try.ntmps11]; exact h) (by rw [Try.ntmps11]; decide) hv

end Go.Vc

namespace Go.Vc
open Go.Proofs
set_option linter.unusedSimpArgs false
set_option linter.unusedVariables false

theorem takeR_eq (l : List La) (x : La) : takeR l x = takeL l x := by
  rw [takeL_eq]
  unfold takeR
  by_cases h : (askL l x.p x.n).2 ≠ 0
  · rw [if_pos h, if_pos h]
  · rw [if_neg h, if_neg h, insL_filter (checkL_split.1 (askL_ok (by simpa using h)).1).2.2]
abbrev bP : ByteArray := ⟨#[112]⟩
theorem fn45 : Fn Try.prog 45 [] (.pv (pB true)) [] := by
  have a1 : askL [] bP 1 = (0, 0) := by decide +kernel
  have a2 : takeL [] ⟨bP, 1, 7⟩ = ([⟨bP, 1, 7⟩], 0) := by decide +kernel
  have a3 : askL [⟨bP, 1, 7⟩] bP 1 = (7, 5) := by decide +kernel
  have a4 : askL [⟨bP, 1, 7⟩] bP 3 = (0, 9) := by decide +kernel
  refine Run45 [] (by simp) ?_
  simp only [go_sem, Nat.reduceEqDiff, Nat.reduceBEq, Nat.reduceAdd, Nat.reduceMul, Nat.reduceSub, Nat.reduceLeDiff, Nat.reduceLT, reduceIte, reduceCtorEq, Int.reduceToNat, Int.reduceLE, Int.reduceLT, Int.reduceNeg, Bool.not_not, and_self, Bool.and_eq_false_iff, Int.cast_ofNat_Int, Int.reduceAdd, Int.reduceSub, Int.reduceMul, Int.reduceEq, Int.reduceNe, M45]
  refine runR_callf (by simp only [go_sem, Nat.reduceEqDiff, Nat.reduceBEq, Nat.reduceAdd, Nat.reduceMul, Nat.reduceSub, Nat.reduceLeDiff, Nat.reduceLT, reduceIte, reduceCtorEq, Int.reduceToNat, Int.reduceLE, Int.reduceLT, Int.reduceNeg, Bool.not_not, and_self, Bool.and_eq_false_iff, Int.cast_ofNat_Int, Int.reduceAdd, Int.reduceSub, Int.reduceMul, Int.reduceEq, Int.reduceNe]) (by simp only [go_sem, Nat.reduceEqDiff, Nat.reduceBEq, Nat.reduceAdd, Nat.reduceMul, Nat.reduceSub, Nat.reduceLeDiff, Nat.reduceLT, reduceIte, reduceCtorEq, Int.reduceToNat, Int.reduceLE, Int.reduceLT, Int.reduceNeg, Bool.not_not, and_self, Bool.and_eq_false_iff, Int.cast_ofNat_Int, Int.reduceAdd, Int.reduceSub, Int.reduceMul, Int.reduceEq, Int.reduceNe] <;> rfl) (fn36 [] bP 1 (by simp) (by omega) (by omega)) ⟨rfl, trivial⟩ trivial ?_
  rw [a1]
  simp only [go_sem, Nat.reduceEqDiff, Nat.reduceBEq, Nat.reduceAdd, Nat.reduceMul, Nat.reduceSub, Nat.reduceLeDiff, Nat.reduceLT, reduceIte, reduceCtorEq, Int.reduceToNat, Int.reduceLE, Int.reduceLT, Int.reduceNeg, Bool.not_not, and_self, Bool.and_eq_false_iff, Int.cast_ofNat_Int, Int.reduceAdd, Int.reduceSub, Int.reduceMul, Int.reduceEq, Int.reduceNe]
  refine runR_call (by simp only [go_sem, Nat.reduceEqDiff, Nat.reduceBEq, Nat.reduceAdd, Nat.reduceMul, Nat.reduceSub, Nat.reduceLeDiff, Nat.reduceLT, reduceIte, reduceCtorEq, Int.reduceToNat, Int.reduceLE, Int.reduceLT, Int.reduceNeg, Bool.not_not, and_self, Bool.and_eq_false_iff, Int.cast_ofNat_Int, Int.reduceAdd, Int.reduceSub, Int.reduceMul, Int.reduceEq, Int.reduceNe]) rfl (fn38 [] ⟨bP, 1, 7⟩ (by simp) (by decide) (by decide)) (.inl rfl) trivial ?_
  rw [a2]
  simp only [go_sem, Nat.reduceEqDiff, Nat.reduceBEq, Nat.reduceAdd, Nat.reduceMul, Nat.reduceSub, Nat.reduceLeDiff, Nat.reduceLT, reduceIte, reduceCtorEq, Int.reduceToNat, Int.reduceLE, Int.reduceLT, Int.reduceNeg, Bool.not_not, and_self, Bool.and_eq_false_iff, Int.cast_ofNat_Int, Int.reduceAdd, Int.reduceSub, Int.reduceMul, Int.reduceEq, Int.reduceNe]
  refine runR_callf (by simp only [go_sem, Nat.reduceEqDiff, Nat.reduceBEq, Nat.reduceAdd, Nat.reduceMul, Nat.reduceSub, Nat.reduceLeDiff, Nat.reduceLT, reduceIte, reduceCtorEq, Int.reduceToNat, Int.reduceLE, Int.reduceLT, Int.reduceNeg, Bool.not_not, and_self, Bool.and_eq_false_iff, Int.cast_ofNat_Int, Int.reduceAdd, Int.reduceSub, Int.reduceMul, Int.reduceEq, Int.reduceNe]) (by simp only [go_sem, Nat.reduceEqDiff, Nat.reduceBEq, Nat.reduceAdd, Nat.reduceMul, Nat.reduceSub, Nat.reduceLeDiff, Nat.reduceLT, reduceIte, reduceCtorEq, Int.reduceToNat, Int.reduceLE, Int.reduceLT, Int.reduceNeg, Bool.not_not, and_self, Bool.and_eq_false_iff, Int.cast_ofNat_Int, Int.reduceAdd, Int.reduceSub, Int.reduceMul, Int.reduceEq, Int.reduceNe] <;> rfl) (fn36 [⟨bP, 1, 7⟩] bP 1 (by simp) (by omega) (by omega)) ⟨rfl, trivial⟩ trivial ?_
  rw [a3]
  simp only [go_sem, Nat.reduceEqDiff, Nat.reduceBEq, Nat.reduceAdd, Nat.reduceMul, Nat.reduceSub, Nat.reduceLeDiff, Nat.reduceLT, reduceIte, reduceCtorEq, Int.reduceToNat, Int.reduceLE, Int.reduceLT, Int.reduceNeg, Bool.not_not, and_self, Bool.and_eq_false_iff, Int.cast_ofNat_Int, Int.reduceAdd, Int.reduceSub, Int.reduceMul, Int.reduceEq, Int.reduceNe]
  refine runR_callf (by simp only [go_sem, Nat.reduceEqDiff, Nat.reduceBEq, Nat.reduceAdd, Nat.reduceMul, Nat.reduceSub, Nat.reduceLeDiff, Nat.reduceLT, reduceIte, reduceCtorEq, Int.reduceToNat, Int.reduceLE, Int.reduceLT, Int.reduceNeg, Bool.not_not, and_self, Bool.and_eq_false_iff, Int.cast_ofNat_Int, Int.reduceAdd, Int.reduceSub, Int.reduceMul, Int.reduceEq, Int.reduceNe]) (by simp only [go_sem, Nat.reduceEqDiff, Nat.reduceBEq, Nat.reduceAdd, Nat.reduceMul, Nat.reduceSub, Nat.reduceLeDiff, Nat.reduceLT, reduceIte, reduceCtorEq, Int.reduceToNat, Int.reduceLE, Int.reduceLT, Int.reduceNeg, Bool.not_not, and_self, Bool.and_eq_false_iff, Int.cast_ofNat_Int, Int.reduceAdd, Int.reduceSub, Int.reduceMul, Int.reduceEq, Int.reduceNe] <;> rfl) (fn36 [⟨bP, 1, 7⟩] bP 3 (by simp) (by omega) (by omega)) ⟨rfl, trivial⟩ trivial ?_
  rw [a4]
  simp only [go_sem, Nat.reduceEqDiff, Nat.reduceBEq, Nat.reduceAdd, Nat.reduceMul, Nat.reduceSub, Nat.reduceLeDiff, Nat.reduceLT, reduceIte, reduceCtorEq, Int.reduceToNat, Int.reduceLE, Int.reduceLT, Int.reduceNeg, Bool.not_not, and_self, Bool.and_eq_false_iff, Int.cast_ofNat_Int, Int.reduceAdd, Int.reduceSub, Int.reduceMul, Int.reduceEq, Int.reduceNe]
/-- producers, numbers within their types -/
def OkNs (l : List La) : Prop := ∀ x ∈ l, 0 ≤ x.n ∧ x.n ≤ 18446744073709551615
theorem fewL_len (l : List La) : (fewL l).length ≤ 51 := by simp [fewL]; omega
theorem fewL_p (l : List La) : ∀ x ∈ fewL l, x.p.size ≤ 60 := fun x hx => by
  obtain ⟨y, _, rfl⟩ := List.mem_map.1 hx
  exact few60_size _
theorem fewL_n {l : List La} (h : OkNs l) : OkNs (fewL l) := fun x hx => by
  obtain ⟨y, hy, rfl⟩ := List.mem_map.1 hx
  exact h y (List.mem_of_mem_take hy)
theorem few60_twice (s : ByteArray) : few60 (few60 s) = few60 s := by
  have h := few60_size s
  generalize few60 s = t at h ⊢
  unfold few60
  rw [if_neg (by omega)]
theorem few60_same {s : ByteArray} (h : s.size ≤ 60) : few60 s = s := by unfold few60; rw [if_neg (by omega)]
theorem fewL_same {l : List La} (h : l.length ≤ 51) (hp : ∀ x ∈ l, x.p.size ≤ 60) : fewL l = l := by
  unfold fewL
  rw [List.take_of_length_le h]
  conv => rhs; rw [← List.map_id l]
  exact List.map_congr_left fun x hx => by rw [few60_same (hp x hx)]; rfl
theorem takeL_len (l : List La) (x : La) (h : l.length < 1000) : (takeL l x).1.length < 1001 := by
  unfold takeL
  split
  · simp
  · split
    · simp
    · split
      · simp; omega
      · split
        · simp
        · rw [putL_length (List.takeWhile_prefix _ |>.length_le)]; omega
theorem law7 (l : List La) (x : La) (hl : l.length ≤ 9223372036854775807) (hk : OkNs l) (hn : 0 ≤ x.n ∧ x.n ≤ 18446744073709551615) : Fn Try.prog 7 [ls l, x.pv] (.pv (pB true)) [] := by
  refine Run7 [] (by simp) ?_
  simp only [go_sem, Nat.reduceEqDiff, Nat.reduceBEq, Nat.reduceAdd, Nat.reduceMul, Nat.reduceSub, Nat.reduceLeDiff, Nat.reduceLT, reduceIte, reduceCtorEq, Int.reduceToNat, Int.reduceLE, Int.reduceLT, Int.reduceNeg, Bool.not_not, and_self, Bool.and_eq_false_iff, Int.cast_ofNat_Int, Int.reduceAdd, Int.reduceSub, Int.reduceMul, Int.reduceEq, Int.reduceNe, M7]
  refine runR_call (by simp only [go_sem, Nat.reduceEqDiff, Nat.reduceBEq, Nat.reduceAdd, Nat.reduceMul, Nat.reduceSub, Nat.reduceLeDiff, Nat.reduceLT, reduceIte, reduceCtorEq, Int.reduceToNat, Int.reduceLE, Int.reduceLT, Int.reduceNeg, Bool.not_not, and_self, Bool.and_eq_false_iff, Int.cast_ofNat_Int, Int.reduceAdd, Int.reduceSub, Int.reduceMul, Int.reduceEq, Int.reduceNe]) rfl (fn34 l hl) (.inl rfl) trivial ?_
  simp only [go_sem, Nat.reduceEqDiff, Nat.reduceBEq, Nat.reduceAdd, Nat.reduceMul, Nat.reduceSub, Nat.reduceLeDiff, Nat.reduceLT, reduceIte, reduceCtorEq, Int.reduceToNat, Int.reduceLE, Int.reduceLT, Int.reduceNeg, Bool.not_not, and_self, Bool.and_eq_false_iff, Int.cast_ofNat_Int, Int.reduceAdd, Int.reduceSub, Int.reduceMul, Int.reduceEq, Int.reduceNe]
  refine runR_callf (by simp only [go_sem, Nat.reduceEqDiff, Nat.reduceBEq, Nat.reduceAdd, Nat.reduceMul, Nat.reduceSub, Nat.reduceLeDiff, Nat.reduceLT, reduceIte, reduceCtorEq, Int.reduceToNat, Int.reduceLE, Int.reduceLT, Int.reduceNeg, Bool.not_not, and_self, Bool.and_eq_false_iff, Int.cast_ofNat_Int, Int.reduceAdd, Int.reduceSub, Int.reduceMul, Int.reduceEq, Int.reduceNe]) (by simp only [go_sem, Nat.reduceEqDiff, Nat.reduceBEq, Nat.reduceAdd, Nat.reduceMul, Nat.reduceSub, Nat.reduceLeDiff, Nat.reduceLT, reduceIte, reduceCtorEq, Int.reduceToNat, Int.reduceLE, Int.reduceLT, Int.reduceNeg, Bool.not_not, and_self, Bool.and_eq_false_iff, Int.cast_ofNat_Int, Int.reduceAdd, Int.reduceSub, Int.reduceMul, Int.reduceEq, Int.reduceNe] <;> rfl) (fn35 x.p) ⟨rfl, trivial⟩ trivial ?_
  simp only [go_sem, Nat.reduceEqDiff, Nat.reduceBEq, Nat.reduceAdd, Nat.reduceMul, Nat.reduceSub, Nat.reduceLeDiff, Nat.reduceLT, reduceIte, reduceCtorEq, Int.reduceToNat, Int.reduceLE, Int.reduceLT, Int.reduceNeg, Bool.not_not, and_self, Bool.and_eq_false_iff, Int.cast_ofNat_Int, Int.reduceAdd, Int.reduceSub, Int.reduceMul, Int.reduceEq, Int.reduceNe]
  have hl1 : (fewL l).length ≤ 51 := fewL_len l
  have hp1 := fewL_p l
  have hn1 := fewL_n hk
  obtain ⟨m, hm⟩ : ∃ m, fewL l = m := ⟨_, rfl⟩
  rw [hm] at hl1 hp1 hn1 ⊢
  have hx := few60_size x.p
  obtain ⟨y, hy⟩ : ∃ y : La, y = { x with p := few60 x.p } := ⟨_, rfl⟩
  have e1 : few60 x.p = y.p := by rw [hy]
  have e2 : x.n = y.n := by rw [hy]
  have e3 : x.o = y.o := by rw [hy]
  rw [e1] at hx ⊢
  rw [e2] at hn ⊢
  rw [e3]
  refine runR_call (by simp only [go_sem, Nat.reduceEqDiff, Nat.reduceBEq, Nat.reduceAdd, Nat.reduceMul, Nat.reduceSub, Nat.reduceLeDiff, Nat.reduceLT, reduceIte, reduceCtorEq, Int.reduceToNat, Int.reduceLE, Int.reduceLT, Int.reduceNeg, Bool.not_not, and_self, Bool.and_eq_false_iff, Int.cast_ofNat_Int, Int.reduceAdd, Int.reduceSub, Int.reduceMul, Int.reduceEq, Int.reduceNe]) rfl (fn34 m (by omega)) (.inl rfl) trivial ?_
  rw [fewL_same hl1 hp1]
  simp only [go_sem, Nat.reduceEqDiff, Nat.reduceBEq, Nat.reduceAdd, Nat.reduceMul, Nat.reduceSub, Nat.reduceLeDiff, Nat.reduceLT, reduceIte, reduceCtorEq, Int.reduceToNat, Int.reduceLE, Int.reduceLT, Int.reduceNeg, Bool.not_not, and_self, Bool.and_eq_false_iff, Int.cast_ofNat_Int, Int.reduceAdd, Int.reduceSub, Int.reduceMul, Int.reduceEq, Int.reduceNe]
  refine runR_callf (by simp only [go_sem, Nat.reduceEqDiff, Nat.reduceBEq, Nat.reduceAdd, Nat.reduceMul, Nat.reduceSub, Nat.reduceLeDiff, Nat.reduceLT, reduceIte, reduceCtorEq, Int.reduceToNat, Int.reduceLE, Int.reduceLT, Int.reduceNeg, Bool.not_not, and_self, Bool.and_eq_false_iff, Int.cast_ofNat_Int, Int.reduceAdd, Int.reduceSub, Int.reduceMul, Int.reduceEq, Int.reduceNe]) (by simp only [go_sem, Nat.reduceEqDiff, Nat.reduceBEq, Nat.reduceAdd, Nat.reduceMul, Nat.reduceSub, Nat.reduceLeDiff, Nat.reduceLT, reduceIte, reduceCtorEq, Int.reduceToNat, Int.reduceLE, Int.reduceLT, Int.reduceNeg, Bool.not_not, and_self, Bool.and_eq_false_iff, Int.cast_ofNat_Int, Int.reduceAdd, Int.reduceSub, Int.reduceMul, Int.reduceEq, Int.reduceNe] <;> rfl) (fn36 m y.p y.n (by omega) hn.1 hn.2) ⟨rfl, trivial⟩ trivial ?_
  simp only [go_sem, Nat.reduceEqDiff, Nat.reduceBEq, Nat.reduceAdd, Nat.reduceMul, Nat.reduceSub, Nat.reduceLeDiff, Nat.reduceLT, reduceIte, reduceCtorEq, Int.reduceToNat, Int.reduceLE, Int.reduceLT, Int.reduceNeg, Bool.not_not, and_self, Bool.and_eq_false_iff, Int.cast_ofNat_Int, Int.reduceAdd, Int.reduceSub, Int.reduceMul, Int.reduceEq, Int.reduceNe]
  refine runR_callf (by simp only [go_sem, Nat.reduceEqDiff, Nat.reduceBEq, Nat.reduceAdd, Nat.reduceMul, Nat.reduceSub, Nat.reduceLeDiff, Nat.reduceLT, reduceIte, reduceCtorEq, Int.reduceToNat, Int.reduceLE, Int.reduceLT, Int.reduceNeg, Bool.not_not, and_self, Bool.and_eq_false_iff, Int.cast_ofNat_Int, Int.reduceAdd, Int.reduceSub, Int.reduceMul, Int.reduceEq, Int.reduceNe]) (by simp only [go_sem, Nat.reduceEqDiff, Nat.reduceBEq, Nat.reduceAdd, Nat.reduceMul, Nat.reduceSub, Nat.reduceLeDiff, Nat.reduceLT, reduceIte, reduceCtorEq, Int.reduceToNat, Int.reduceLE, Int.reduceLT, Int.reduceNeg, Bool.not_not, and_self, Bool.and_eq_false_iff, Int.cast_ofNat_Int, Int.reduceAdd, Int.reduceSub, Int.reduceMul, Int.reduceEq, Int.reduceNe] <;> rfl) (fn37 m y.p y.n (by omega) hn.1 hn.2 (fun z hz => by have := hp1 z hz; omega) (fun z hz => (hn1 z hz).1) (by omega)) ⟨rfl, trivial⟩ trivial ?_
  simp only [go_sem, Nat.reduceEqDiff, Nat.reduceBEq, Nat.reduceAdd, Nat.reduceMul, Nat.reduceSub, Nat.reduceLeDiff, Nat.reduceLT, reduceIte, reduceCtorEq, Int.reduceToNat, Int.reduceLE, Int.reduceLT, Int.reduceNeg, Bool.not_not, and_self, Bool.and_eq_false_iff, Int.cast_ofNat_Int, Int.reduceAdd, Int.reduceSub, Int.reduceMul, Int.reduceEq, Int.reduceNe]
  refine runR_call (by simp only [go_sem, Nat.reduceEqDiff, Nat.reduceBEq, Nat.reduceAdd, Nat.reduceMul, Nat.reduceSub, Nat.reduceLeDiff, Nat.reduceLT, reduceIte, reduceCtorEq, Int.reduceToNat, Int.reduceLE, Int.reduceLT, Int.reduceNeg, Bool.not_not, and_self, Bool.and_eq_false_iff, Int.cast_ofNat_Int, Int.reduceAdd, Int.reduceSub, Int.reduceMul, Int.reduceEq, Int.reduceNe]) rfl (fn38 m y (by omega) hn.1 hn.2) (.inl rfl) trivial ?_
  simp only [go_sem, Nat.reduceEqDiff, Nat.reduceBEq, Nat.reduceAdd, Nat.reduceMul, Nat.reduceSub, Nat.reduceLeDiff, Nat.reduceLT, reduceIte, reduceCtorEq, Int.reduceToNat, Int.reduceLE, Int.reduceLT, Int.reduceNeg, Bool.not_not, and_self, Bool.and_eq_false_iff, Int.cast_ofNat_Int, Int.reduceAdd, Int.reduceSub, Int.reduceMul, Int.reduceEq, Int.reduceNe]
  refine runR_call (by simp only [go_sem, Nat.reduceEqDiff, Nat.reduceBEq, Nat.reduceAdd, Nat.reduceMul, Nat.reduceSub, Nat.reduceLeDiff, Nat.reduceLT, reduceIte, reduceCtorEq, Int.reduceToNat, Int.reduceLE, Int.reduceLT, Int.reduceNeg, Bool.not_not, and_self, Bool.and_eq_false_iff, Int.cast_ofNat_Int, Int.reduceAdd, Int.reduceSub, Int.reduceMul, Int.reduceEq, Int.reduceNe]) rfl (fn39 m y (by omega) hn.1 hn.2 (fun z hz => by have := hp1 z hz; omega) (fun z hz => (hn1 z hz).1) (by omega)) (.inl rfl) trivial ?_
  rw [takeR_eq]
  simp only [go_sem, Nat.reduceEqDiff, Nat.reduceBEq, Nat.reduceAdd, Nat.reduceMul, Nat.reduceSub, Nat.reduceLeDiff, Nat.reduceLT, reduceIte, reduceCtorEq, Int.reduceToNat, Int.reduceLE, Int.reduceLT, Int.reduceNeg, Bool.not_not, and_self, Bool.and_eq_false_iff, Int.cast_ofNat_Int, Int.reduceAdd, Int.reduceSub, Int.reduceMul, Int.reduceEq, Int.reduceNe]
  refine runR_callf (by simp only [go_sem, Nat.reduceEqDiff, Nat.reduceBEq, Nat.reduceAdd, Nat.reduceMul, Nat.reduceSub, Nat.reduceLeDiff, Nat.reduceLT, reduceIte, reduceCtorEq, Int.reduceToNat, Int.reduceLE, Int.reduceLT, Int.reduceNeg, Bool.not_not, and_self, Bool.and_eq_false_iff, Int.cast_ofNat_Int, Int.reduceAdd, Int.reduceSub, Int.reduceMul, Int.reduceEq, Int.reduceNe]) (by simp only [go_sem, Nat.reduceEqDiff, Nat.reduceBEq, Nat.reduceAdd, Nat.reduceMul, Nat.reduceSub, Nat.reduceLeDiff, Nat.reduceLT, reduceIte, reduceCtorEq, Int.reduceToNat, Int.reduceLE, Int.reduceLT, Int.reduceNeg, Bool.not_not, and_self, Bool.and_eq_false_iff, Int.cast_ofNat_Int, Int.reduceAdd, Int.reduceSub, Int.reduceMul, Int.reduceEq, Int.reduceNe] <;> rfl) (fn40 m y.p (by omega)) ⟨rfl, trivial⟩ trivial ?_
  simp only [go_sem, Nat.reduceEqDiff, Nat.reduceBEq, Nat.reduceAdd, Nat.reduceMul, Nat.reduceSub, Nat.reduceLeDiff, Nat.reduceLT, reduceIte, reduceCtorEq, Int.reduceToNat, Int.reduceLE, Int.reduceLT, Int.reduceNeg, Bool.not_not, and_self, Bool.and_eq_false_iff, Int.cast_ofNat_Int, Int.reduceAdd, Int.reduceSub, Int.reduceMul, Int.reduceEq, Int.reduceNe]
  refine runR_callf (by simp only [go_sem, Nat.reduceEqDiff, Nat.reduceBEq, Nat.reduceAdd, Nat.reduceMul, Nat.reduceSub, Nat.reduceLeDiff, Nat.reduceLT, reduceIte, reduceCtorEq, Int.reduceToNat, Int.reduceLE, Int.reduceLT, Int.reduceNeg, Bool.not_not, and_self, Bool.and_eq_false_iff, Int.cast_ofNat_Int, Int.reduceAdd, Int.reduceSub, Int.reduceMul, Int.reduceEq, Int.reduceNe]) (by simp only [go_sem, Nat.reduceEqDiff, Nat.reduceBEq, Nat.reduceAdd, Nat.reduceMul, Nat.reduceSub, Nat.reduceLeDiff, Nat.reduceLT, reduceIte, reduceCtorEq, Int.reduceToNat, Int.reduceLE, Int.reduceLT, Int.reduceNeg, Bool.not_not, and_self, Bool.and_eq_false_iff, Int.cast_ofNat_Int, Int.reduceAdd, Int.reduceSub, Int.reduceMul, Int.reduceEq, Int.reduceNe] <;> rfl) (fn41 m y.p (by omega)) ⟨rfl, trivial⟩ trivial ?_
  simp only [go_sem, Nat.reduceEqDiff, Nat.reduceBEq, Nat.reduceAdd, Nat.reduceMul, Nat.reduceSub, Nat.reduceLeDiff, Nat.reduceLT, reduceIte, reduceCtorEq, Int.reduceToNat, Int.reduceLE, Int.reduceLT, Int.reduceNeg, Bool.not_not, and_self, Bool.and_eq_false_iff, Int.cast_ofNat_Int, Int.reduceAdd, Int.reduceSub, Int.reduceMul, Int.reduceEq, Int.reduceNe]
  have ht := takeL_len m y (by omega)
  refine runR_callgf (by simp only [go_sem, Nat.reduceEqDiff, Nat.reduceBEq, Nat.reduceAdd, Nat.reduceMul, Nat.reduceSub, Nat.reduceLeDiff, Nat.reduceLT, reduceIte, reduceCtorEq, Int.reduceToNat, Int.reduceLE, Int.reduceLT, Int.reduceNeg, Bool.not_not, and_self, Bool.and_eq_false_iff, Int.cast_ofNat_Int, Int.reduceAdd, Int.reduceSub, Int.reduceMul, Int.reduceEq, Int.reduceNe]) (by simp only [go_sem, Nat.reduceEqDiff, Nat.reduceBEq, Nat.reduceAdd, Nat.reduceMul, Nat.reduceSub, Nat.reduceLeDiff, Nat.reduceLT, reduceIte, reduceCtorEq, Int.reduceToNat, Int.reduceLE, Int.reduceLT, Int.reduceNeg, Bool.not_not, and_self, Bool.and_eq_false_iff, Int.cast_ofNat_Int, Int.reduceAdd, Int.reduceSub, Int.reduceMul, Int.reduceEq, Int.reduceNe]) (by simp only [go_sem, Nat.reduceEqDiff, Nat.reduceBEq, Nat.reduceAdd, Nat.reduceMul, Nat.reduceSub, Nat.reduceLeDiff, Nat.reduceLT, reduceIte, reduceCtorEq, Int.reduceToNat, Int.reduceLE, Int.reduceLT, Int.reduceNeg, Bool.not_not, and_self, Bool.and_eq_false_iff, Int.cast_ofNat_Int, Int.reduceAdd, Int.reduceSub, Int.reduceMul, Int.reduceEq, Int.reduceNe] <;> rfl) (fun _ => fn42 (takeL m y).1 (takeL m y).1 (by omega) (by omega)) rfl ?_
  simp only [go_sem, Nat.reduceEqDiff, Nat.reduceBEq, Nat.reduceAdd, Nat.reduceMul, Nat.reduceSub, Nat.reduceLeDiff, Nat.reduceLT, reduceIte, reduceCtorEq, Int.reduceToNat, Int.reduceLE, Int.reduceLT, Int.reduceNeg, Bool.not_not, and_self, Bool.and_eq_false_iff, Int.cast_ofNat_Int, Int.reduceAdd, Int.reduceSub, Int.reduceMul, Int.reduceEq, Int.reduceNe]
  refine runR_callgf (by simp only [go_sem, Nat.reduceEqDiff, Nat.reduceBEq, Nat.reduceAdd, Nat.reduceMul, Nat.reduceSub, Nat.reduceLeDiff, Nat.reduceLT, reduceIte, reduceCtorEq, Int.reduceToNat, Int.reduceLE, Int.reduceLT, Int.reduceNeg, Bool.not_not, and_self, Bool.and_eq_false_iff, Int.cast_ofNat_Int, Int.reduceAdd, Int.reduceSub, Int.reduceMul, Int.reduceEq, Int.reduceNe]) (by simp only [go_sem, Nat.reduceEqDiff, Nat.reduceBEq, Nat.reduceAdd, Nat.reduceMul, Nat.reduceSub, Nat.reduceLeDiff, Nat.reduceLT, reduceIte, reduceCtorEq, Int.reduceToNat, Int.reduceLE, Int.reduceLT, Int.reduceNeg, Bool.not_not, and_self, Bool.and_eq_false_iff, Int.cast_ofNat_Int, Int.reduceAdd, Int.reduceSub, Int.reduceMul, Int.reduceEq, Int.reduceNe]) (by simp only [go_sem, Nat.reduceEqDiff, Nat.reduceBEq, Nat.reduceAdd, Nat.reduceMul, Nat.reduceSub, Nat.reduceLeDiff, Nat.reduceLT, reduceIte, reduceCtorEq, Int.reduceToNat, Int.reduceLE, Int.reduceLT, Int.reduceNeg, Bool.not_not, and_self, Bool.and_eq_false_iff, Int.cast_ofNat_Int, Int.reduceAdd, Int.reduceSub, Int.reduceMul, Int.reduceEq, Int.reduceNe] <;> rfl) (fun _ => fn43 m (by omega)) rfl ?_
  simp only [go_sem, Nat.reduceEqDiff, Nat.reduceBEq, Nat.reduceAdd, Nat.reduceMul, Nat.reduceSub, Nat.reduceLeDiff, Nat.reduceLT, reduceIte, reduceCtorEq, Int.reduceToNat, Int.reduceLE, Int.reduceLT, Int.reduceNeg, Bool.not_not, and_self, Bool.and_eq_false_iff, Int.cast_ofNat_Int, Int.reduceAdd, Int.reduceSub, Int.reduceMul, Int.reduceEq, Int.reduceNe, errN_dec, errN_iff]
  refine runR_callgf (by simp only [go_sem, Nat.reduceEqDiff, Nat.reduceBEq, Nat.reduceAdd, Nat.reduceMul, Nat.reduceSub, Nat.reduceLeDiff, Nat.reduceLT, reduceIte, reduceCtorEq, Int.reduceToNat, Int.reduceLE, Int.reduceLT, Int.reduceNeg, Bool.not_not, and_self, Bool.and_eq_false_iff, Int.cast_ofNat_Int, Int.reduceAdd, Int.reduceSub, Int.reduceMul, Int.reduceEq, Int.reduceNe]) (by simp only [go_sem, Nat.reduceEqDiff, Nat.reduceBEq, Nat.reduceAdd, Nat.reduceMul, Nat.reduceSub, Nat.reduceLeDiff, Nat.reduceLT, reduceIte, reduceCtorEq, Int.reduceToNat, Int.reduceLE, Int.reduceLT, Int.reduceNeg, Bool.not_not, and_self, Bool.and_eq_false_iff, Int.cast_ofNat_Int, Int.reduceAdd, Int.reduceSub, Int.reduceMul, Int.reduceEq, Int.reduceNe]) (by simp only [go_sem, Nat.reduceEqDiff, Nat.reduceBEq, Nat.reduceAdd, Nat.reduceMul, Nat.reduceSub, Nat.reduceLeDiff, Nat.reduceLT, reduceIte, reduceCtorEq, Int.reduceToNat, Int.reduceLE, Int.reduceLT, Int.reduceNeg, Bool.not_not, and_self, Bool.and_eq_false_iff, Int.cast_ofNat_Int, Int.reduceAdd, Int.reduceSub, Int.reduceMul, Int.reduceEq, Int.reduceNe] <;> rfl) (fun _ => fn44 m (by omega) (fun z hz => by have := hp1 z hz; omega) (fun z hz => (hn1 z hz).1)) rfl ?_
  simp only [go_sem, Nat.reduceEqDiff, Nat.reduceBEq, Nat.reduceAdd, Nat.reduceMul, Nat.reduceSub, Nat.reduceLeDiff, Nat.reduceLT, reduceIte, reduceCtorEq, Int.reduceToNat, Int.reduceLE, Int.reduceLT, Int.reduceNeg, Bool.not_not, and_self, Bool.and_eq_false_iff, Int.cast_ofNat_Int, Int.reduceAdd, Int.reduceSub, Int.reduceMul, Int.reduceEq, Int.reduceNe]
  refine runR_callgf (by simp only [go_sem, Nat.reduceEqDiff, Nat.reduceBEq, Nat.reduceAdd, Nat.reduceMul, Nat.reduceSub, Nat.reduceLeDiff, Nat.reduceLT, reduceIte, reduceCtorEq, Int.reduceToNat, Int.reduceLE, Int.reduceLT, Int.reduceNeg, Bool.not_not, and_self, Bool.and_eq_false_iff, Int.cast_ofNat_Int, Int.reduceAdd, Int.reduceSub, Int.reduceMul, Int.reduceEq, Int.reduceNe]) (by simp only [go_sem, Nat.reduceEqDiff, Nat.reduceBEq, Nat.reduceAdd, Nat.reduceMul, Nat.reduceSub, Nat.reduceLeDiff, Nat.reduceLT, reduceIte, reduceCtorEq, Int.reduceToNat, Int.reduceLE, Int.reduceLT, Int.reduceNeg, Bool.not_not, and_self, Bool.and_eq_false_iff, Int.cast_ofNat_Int, Int.reduceAdd, Int.reduceSub, Int.reduceMul, Int.reduceEq, Int.reduceNe]) (by simp only [go_sem, Nat.reduceEqDiff, Nat.reduceBEq, Nat.reduceAdd, Nat.reduceMul, Nat.reduceSub, Nat.reduceLeDiff, Nat.reduceLT, reduceIte, reduceCtorEq, Int.reduceToNat, Int.reduceLE, Int.reduceLT, Int.reduceNeg, Bool.not_not, and_self, Bool.and_eq_false_iff, Int.cast_ofNat_Int, Int.reduceAdd, Int.reduceSub, Int.reduceMul, Int.reduceEq, Int.reduceNe] <;> rfl) (fun _ => fn42 m m (by omega) (by omega)) rfl ?_
  simp only [go_sem, Nat.reduceEqDiff, Nat.reduceBEq, Nat.reduceAdd, Nat.reduceMul, Nat.reduceSub, Nat.reduceLeDiff, Nat.reduceLT, reduceIte, reduceCtorEq, Int.reduceToNat, Int.reduceLE, Int.reduceLT, Int.reduceNeg, Bool.not_not, and_self, Bool.and_eq_false_iff, Int.cast_ofNat_Int, Int.reduceAdd, Int.reduceSub, Int.reduceMul, Int.reduceEq, Int.reduceNe]
  refine runR_callgf (by simp only [go_sem, Nat.reduceEqDiff, Nat.reduceBEq, Nat.reduceAdd, Nat.reduceMul, Nat.reduceSub, Nat.reduceLeDiff, Nat.reduceLT, reduceIte, reduceCtorEq, Int.reduceToNat, Int.reduceLE, Int.reduceLT, Int.reduceNeg, Bool.not_not, and_self, Bool.and_eq_false_iff, Int.cast_ofNat_Int, Int.reduceAdd, Int.reduceSub, Int.reduceMul, Int.reduceEq, Int.reduceNe]) (by simp only [go_sem, Nat.reduceEqDiff, Nat.reduceBEq, Nat.reduceAdd, Nat.reduceMul, Nat.reduceSub, Nat.reduceLeDiff, Nat.reduceLT, reduceIte, reduceCtorEq, Int.reduceToNat, Int.reduceLE, Int.reduceLT, Int.reduceNeg, Bool.not_not, and_self, Bool.and_eq_false_iff, Int.cast_ofNat_Int, Int.reduceAdd, Int.reduceSub, Int.reduceMul, Int.reduceEq, Int.reduceNe]) (by simp only [go_sem, Nat.reduceEqDiff, Nat.reduceBEq, Nat.reduceAdd, Nat.reduceMul, Nat.reduceSub, Nat.reduceLeDiff, Nat.reduceLT, reduceIte, reduceCtorEq, Int.reduceToNat, Int.reduceLE, Int.reduceLT, Int.reduceNeg, Bool.not_not, and_self, Bool.and_eq_false_iff, Int.cast_ofNat_Int, Int.reduceAdd, Int.reduceSub, Int.reduceMul, Int.reduceEq, Int.reduceNe] <;> rfl) (fun _ => fn45) rfl ?_
  simp only [go_sem, Nat.reduceEqDiff, Nat.reduceBEq, Nat.reduceAdd, Nat.reduceMul, Nat.reduceSub, Nat.reduceLeDiff, Nat.reduceLT, reduceIte, reduceCtorEq, Int.reduceToNat, Int.reduceLE, Int.reduceLT, Int.reduceNeg, Bool.not_not, and_self, Bool.and_eq_false_iff, Int.cast_ofNat_Int, Int.reduceAdd, Int.reduceSub, Int.reduceMul, Int.reduceEq, Int.reduceNe]
theorem insL_len {x : La} : ∀ {l : List La}, Ris l → (insL l x).length = if (lastL l x.p).2 = true then l.length else l.length + 1
  | [], _ => by simp [insL, lastL_nil]
  | a :: l, h => by
    have h' := List.pairwise_cons.1 h
    unfold insL
    rw [lastL_cons]
    by_cases h1 : blL a.p x.p = true
    · rw [if_pos h1, if_neg (bl_ne h1), List.length_cons, insL_len h'.2]
      split <;> simp
    · rw [if_neg h1]
      by_cases h2 : a.p = x.p
      · rw [if_pos h2, if_pos h2]; simp
      · simp only [Bool.not_eq_true] at h1
        have h3 := bl_tot h1 h2
        rw [if_neg h2, if_neg h2, lastL_none fun y hy => Ne.symm (bl_ne (bl_tr h3 (h'.1 y hy)))]
        simp
theorem take_ok {l : List La} {x : La} (h : (takeL l x).2 = 0) : (takeL l x).1 = insL l x ∧ checkL l = true ∧ checkL (insL l x) = true ∧ (askL l x.p x.n).2 = 0 ∧ 0 ≤ x.o := by
  rw [takeL_eq] at h ⊢
  by_cases h1 : (askL l x.p x.n).2 ≠ 0
  · rw [if_pos h1] at h; exact absurd h h1
  · rw [if_neg h1] at h ⊢
    by_cases h2 : x.o < 0
    · rw [if_pos h2] at h; cases h
    · rw [if_neg h2] at h ⊢
      by_cases h3 : (lastL l x.p).2 = false ∧ 50 ≤ l.length
      · rw [if_pos h3] at h; cases h
      · rw [if_neg h3]
        obtain ⟨k1, k2, k3⟩ := askL_ok (by simpa using h1)
        obtain ⟨c1, c2, c3⟩ := checkL_split.1 k1
        refine ⟨rfl, k1, checkL_split.2 ⟨?_, fun y hy => ?_, insL_ris c3⟩, by simpa using h1, by omega⟩
        · rw [insL_len c3]
          split
          · exact c1
          · rename_i h4
            have : ¬ 50 ≤ l.length := fun h5 => h3 ⟨by simpa using h4, h5⟩
            omega
        · rcases insL_mem hy with rfl | hy
          · simp [mayL, k2]; omega
          · exact c2 y hy
theorem law9 (l : List La) (x y : La) (hl : l.length ≤ 9223372036854775807) (hx : 0 ≤ x.n ∧ x.n ≤ 18446744073709551615) (hy : 0 ≤ y.n ∧ y.n ≤ 18446744073709551615) : Fn Try.prog 9 [ls l, x.pv, y.pv] (.pv (pB true)) [] := by
  refine Run9 [] (by simp) ?_
  simp only [go_sem, Nat.reduceEqDiff, Nat.reduceBEq, Nat.reduceAdd, Nat.reduceMul, Nat.reduceSub, Nat.reduceLeDiff, Nat.reduceLT, reduceIte, reduceCtorEq, Int.reduceToNat, Int.reduceLE, Int.reduceLT, Int.reduceNeg, Bool.not_not, and_self, Bool.and_eq_false_iff, Int.cast_ofNat_Int, Int.reduceAdd, Int.reduceSub, Int.reduceMul, Int.reduceEq, Int.reduceNe, M9]
  refine runR_call (by simp only [go_sem, Nat.reduceEqDiff, Nat.reduceBEq, Nat.reduceAdd, Nat.reduceMul, Nat.reduceSub, Nat.reduceLeDiff, Nat.reduceLT, reduceIte, reduceCtorEq, Int.reduceToNat, Int.reduceLE, Int.reduceLT, Int.reduceNeg, Bool.not_not, and_self, Bool.and_eq_false_iff, Int.cast_ofNat_Int, Int.reduceAdd, Int.reduceSub, Int.reduceMul, Int.reduceEq, Int.reduceNe]) rfl (fn34 l hl) (.inl rfl) trivial ?_
  simp only [go_sem, Nat.reduceEqDiff, Nat.reduceBEq, Nat.reduceAdd, Nat.reduceMul, Nat.reduceSub, Nat.reduceLeDiff, Nat.reduceLT, reduceIte, reduceCtorEq, Int.reduceToNat, Int.reduceLE, Int.reduceLT, Int.reduceNeg, Bool.not_not, and_self, Bool.and_eq_false_iff, Int.cast_ofNat_Int, Int.reduceAdd, Int.reduceSub, Int.reduceMul, Int.reduceEq, Int.reduceNe]
  refine runR_callf (by simp only [go_sem, Nat.reduceEqDiff, Nat.reduceBEq, Nat.reduceAdd, Nat.reduceMul, Nat.reduceSub, Nat.reduceLeDiff, Nat.reduceLT, reduceIte, reduceCtorEq, Int.reduceToNat, Int.reduceLE, Int.reduceLT, Int.reduceNeg, Bool.not_not, and_self, Bool.and_eq_false_iff, Int.cast_ofNat_Int, Int.reduceAdd, Int.reduceSub, Int.reduceMul, Int.reduceEq, Int.reduceNe]) (by simp only [go_sem, Nat.reduceEqDiff, Nat.reduceBEq, Nat.reduceAdd, Nat.reduceMul, Nat.reduceSub, Nat.reduceLeDiff, Nat.reduceLT, reduceIte, reduceCtorEq, Int.reduceToNat, Int.reduceLE, Int.reduceLT, Int.reduceNeg, Bool.not_not, and_self, Bool.and_eq_false_iff, Int.cast_ofNat_Int, Int.reduceAdd, Int.reduceSub, Int.reduceMul, Int.reduceEq, Int.reduceNe] <;> rfl) (fn35 x.p) ⟨rfl, trivial⟩ trivial ?_
  simp only [go_sem, Nat.reduceEqDiff, Nat.reduceBEq, Nat.reduceAdd, Nat.reduceMul, Nat.reduceSub, Nat.reduceLeDiff, Nat.reduceLT, reduceIte, reduceCtorEq, Int.reduceToNat, Int.reduceLE, Int.reduceLT, Int.reduceNeg, Bool.not_not, and_self, Bool.and_eq_false_iff, Int.cast_ofNat_Int, Int.reduceAdd, Int.reduceSub, Int.reduceMul, Int.reduceEq, Int.reduceNe]
  refine runR_callf (by simp only [go_sem, Nat.reduceEqDiff, Nat.reduceBEq, Nat.reduceAdd, Nat.reduceMul, Nat.reduceSub, Nat.reduceLeDiff, Nat.reduceLT, reduceIte, reduceCtorEq, Int.reduceToNat, Int.reduceLE, Int.reduceLT, Int.reduceNeg, Bool.not_not, and_self, Bool.and_eq_false_iff, Int.cast_ofNat_Int, Int.reduceAdd, Int.reduceSub, Int.reduceMul, Int.reduceEq, Int.reduceNe]) (by simp only [go_sem, Nat.reduceEqDiff, Nat.reduceBEq, Nat.reduceAdd, Nat.reduceMul, Nat.reduceSub, Nat.reduceLeDiff, Nat.reduceLT, reduceIte, reduceCtorEq, Int.reduceToNat, Int.reduceLE, Int.reduceLT, Int.reduceNeg, Bool.not_not, and_self, Bool.and_eq_false_iff, Int.cast_ofNat_Int, Int.reduceAdd, Int.reduceSub, Int.reduceMul, Int.reduceEq, Int.reduceNe] <;> rfl) (fn35 y.p) ⟨rfl, trivial⟩ trivial ?_
  simp only [go_sem, Nat.reduceEqDiff, Nat.reduceBEq, Nat.reduceAdd, Nat.reduceMul, Nat.reduceSub, Nat.reduceLeDiff, Nat.reduceLT, reduceIte, reduceCtorEq, Int.reduceToNat, Int.reduceLE, Int.reduceLT, Int.reduceNeg, Bool.not_not, and_self, Bool.and_eq_false_iff, Int.cast_ofNat_Int, Int.reduceAdd, Int.reduceSub, Int.reduceMul, Int.reduceEq, Int.reduceNe]
  have hl1 : (fewL l).length ≤ 51 := fewL_len l
  generalize fewL l = m at hl1 ⊢
  obtain ⟨x', hx'⟩ : ∃ z : La, z = { x with p := few60 x.p } := ⟨_, rfl⟩
  obtain ⟨y', hy'⟩ : ∃ z : La, z = { y with p := few60 y.p } := ⟨_, rfl⟩
  have e1 : few60 x.p = x'.p := by rw [hx']
  have e2 : x.n = x'.n := by rw [hx']
  have e3 : x.o = x'.o := by rw [hx']
  have f1 : few60 y.p = y'.p := by rw [hy']
  have f2 : y.n = y'.n := by rw [hy']
  have f3 : y.o = y'.o := by rw [hy']
  rw [e2] at hx ⊢
  rw [f2] at hy ⊢
  rw [e1, e3, f1, f3]
  refine ⟨fun h => ?_, fun hne => ?_⟩
  · refine runR_callf (by simp only [go_sem, Nat.reduceEqDiff, Nat.reduceBEq, Nat.reduceAdd, Nat.reduceMul, Nat.reduceSub, Nat.reduceLeDiff, Nat.reduceLT, reduceIte, reduceCtorEq, Int.reduceToNat, Int.reduceLE, Int.reduceLT, Int.reduceNeg, Bool.not_not, and_self, Bool.and_eq_false_iff, Int.cast_ofNat_Int, Int.reduceAdd, Int.reduceSub, Int.reduceMul, Int.reduceEq, Int.reduceNe]) (by simp only [go_sem, Nat.reduceEqDiff, Nat.reduceBEq, Nat.reduceAdd, Nat.reduceMul, Nat.reduceSub, Nat.reduceLeDiff, Nat.reduceLT, reduceIte, reduceCtorEq, Int.reduceToNat, Int.reduceLE, Int.reduceLT, Int.reduceNeg, Bool.not_not, and_self, Bool.and_eq_false_iff, Int.cast_ofNat_Int, Int.reduceAdd, Int.reduceSub, Int.reduceMul, Int.reduceEq, Int.reduceNe] <;> rfl) (fn45) ⟨rfl, trivial⟩ trivial ?_
    simp only [go_sem, Nat.reduceEqDiff, Nat.reduceBEq, Nat.reduceAdd, Nat.reduceMul, Nat.reduceSub, Nat.reduceLeDiff, Nat.reduceLT, reduceIte, reduceCtorEq, Int.reduceToNat, Int.reduceLE, Int.reduceLT, Int.reduceNeg, Bool.not_not, and_self, Bool.and_eq_false_iff, Int.cast_ofNat_Int, Int.reduceAdd, Int.reduceSub, Int.reduceMul, Int.reduceEq, Int.reduceNe]
  have t1 := takeL_len m x' (by omega)
  have t2 := takeL_len m y' (by omega)
  refine runR_call (by simp only [go_sem, Nat.reduceEqDiff, Nat.reduceBEq, Nat.reduceAdd, Nat.reduceMul, Nat.reduceSub, Nat.reduceLeDiff, Nat.reduceLT, reduceIte, reduceCtorEq, Int.reduceToNat, Int.reduceLE, Int.reduceLT, Int.reduceNeg, Bool.not_not, and_self, Bool.and_eq_false_iff, Int.cast_ofNat_Int, Int.reduceAdd, Int.reduceSub, Int.reduceMul, Int.reduceEq, Int.reduceNe]) rfl (fn38 m x' (by omega) hx.1 hx.2) (.inl rfl) trivial ?_
  simp only [go_sem, Nat.reduceEqDiff, Nat.reduceBEq, Nat.reduceAdd, Nat.reduceMul, Nat.reduceSub, Nat.reduceLeDiff, Nat.reduceLT, reduceIte, reduceCtorEq, Int.reduceToNat, Int.reduceLE, Int.reduceLT, Int.reduceNeg, Bool.not_not, and_self, Bool.and_eq_false_iff, Int.cast_ofNat_Int, Int.reduceAdd, Int.reduceSub, Int.reduceMul, Int.reduceEq, Int.reduceNe]
  refine runR_call (by simp only [go_sem, Nat.reduceEqDiff, Nat.reduceBEq, Nat.reduceAdd, Nat.reduceMul, Nat.reduceSub, Nat.reduceLeDiff, Nat.reduceLT, reduceIte, reduceCtorEq, Int.reduceToNat, Int.reduceLE, Int.reduceLT, Int.reduceNeg, Bool.not_not, and_self, Bool.and_eq_false_iff, Int.cast_ofNat_Int, Int.reduceAdd, Int.reduceSub, Int.reduceMul, Int.reduceEq, Int.reduceNe]) rfl (fn38 (takeL m x').1 y' (by omega) hy.1 hy.2) (.inl rfl) trivial ?_
  simp only [go_sem, Nat.reduceEqDiff, Nat.reduceBEq, Nat.reduceAdd, Nat.reduceMul, Nat.reduceSub, Nat.reduceLeDiff, Nat.reduceLT, reduceIte, reduceCtorEq, Int.reduceToNat, Int.reduceLE, Int.reduceLT, Int.reduceNeg, Bool.not_not, and_self, Bool.and_eq_false_iff, Int.cast_ofNat_Int, Int.reduceAdd, Int.reduceSub, Int.reduceMul, Int.reduceEq, Int.reduceNe]
  refine runR_call (by simp only [go_sem, Nat.reduceEqDiff, Nat.reduceBEq, Nat.reduceAdd, Nat.reduceMul, Nat.reduceSub, Nat.reduceLeDiff, Nat.reduceLT, reduceIte, reduceCtorEq, Int.reduceToNat, Int.reduceLE, Int.reduceLT, Int.reduceNeg, Bool.not_not, and_self, Bool.and_eq_false_iff, Int.cast_ofNat_Int, Int.reduceAdd, Int.reduceSub, Int.reduceMul, Int.reduceEq, Int.reduceNe]) rfl (fn38 m y' (by omega) hy.1 hy.2) (.inl rfl) trivial ?_
  simp only [go_sem, Nat.reduceEqDiff, Nat.reduceBEq, Nat.reduceAdd, Nat.reduceMul, Nat.reduceSub, Nat.reduceLeDiff, Nat.reduceLT, reduceIte, reduceCtorEq, Int.reduceToNat, Int.reduceLE, Int.reduceLT, Int.reduceNeg, Bool.not_not, and_self, Bool.and_eq_false_iff, Int.cast_ofNat_Int, Int.reduceAdd, Int.reduceSub, Int.reduceMul, Int.reduceEq, Int.reduceNe]
  refine runR_call (by simp only [go_sem, Nat.reduceEqDiff, Nat.reduceBEq, Nat.reduceAdd, Nat.reduceMul, Nat.reduceSub, Nat.reduceLeDiff, Nat.reduceLT, reduceIte, reduceCtorEq, Int.reduceToNat, Int.reduceLE, Int.reduceLT, Int.reduceNeg, Bool.not_not, and_self, Bool.and_eq_false_iff, Int.cast_ofNat_Int, Int.reduceAdd, Int.reduceSub, Int.reduceMul, Int.reduceEq, Int.reduceNe]) rfl (fn38 (takeL m y').1 x' (by omega) hx.1 hx.2) (.inl rfl) trivial ?_
  simp only [go_sem, Nat.reduceEqDiff, Nat.reduceBEq, Nat.reduceAdd, Nat.reduceMul, Nat.reduceSub, Nat.reduceLeDiff, Nat.reduceLT, reduceIte, reduceCtorEq, Int.reduceToNat, Int.reduceLE, Int.reduceLT, Int.reduceNeg, Bool.not_not, and_self, Bool.and_eq_false_iff, Int.cast_ofNat_Int, Int.reduceAdd, Int.reduceSub, Int.reduceMul, Int.reduceEq, Int.reduceNe]
  refine ⟨fun h => ?_, fun h => ?_⟩
  · refine runR_callf (by simp only [go_sem, Nat.reduceEqDiff, Nat.reduceBEq, Nat.reduceAdd, Nat.reduceMul, Nat.reduceSub, Nat.reduceLeDiff, Nat.reduceLT, reduceIte, reduceCtorEq, Int.reduceToNat, Int.reduceLE, Int.reduceLT, Int.reduceNeg, Bool.not_not, and_self, Bool.and_eq_false_iff, Int.cast_ofNat_Int, Int.reduceAdd, Int.reduceSub, Int.reduceMul, Int.reduceEq, Int.reduceNe]) (by simp only [go_sem, Nat.reduceEqDiff, Nat.reduceBEq, Nat.reduceAdd, Nat.reduceMul, Nat.reduceSub, Nat.reduceLeDiff, Nat.reduceLT, reduceIte, reduceCtorEq, Int.reduceToNat, Int.reduceLE, Int.reduceLT, Int.reduceNeg, Bool.not_not, and_self, Bool.and_eq_false_iff, Int.cast_ofNat_Int, Int.reduceAdd, Int.reduceSub, Int.reduceMul, Int.reduceEq, Int.reduceNe] <;> rfl) (fn45) ⟨rfl, trivial⟩ trivial ?_
    simp only [go_sem, Nat.reduceEqDiff, Nat.reduceBEq, Nat.reduceAdd, Nat.reduceMul, Nat.reduceSub, Nat.reduceLeDiff, Nat.reduceLT, reduceIte, reduceCtorEq, Int.reduceToNat, Int.reduceLE, Int.reduceLT, Int.reduceNeg, Bool.not_not, and_self, Bool.and_eq_false_iff, Int.cast_ofNat_Int, Int.reduceAdd, Int.reduceSub, Int.reduceMul, Int.reduceEq, Int.reduceNe]
  · obtain ⟨⟨⟨g1, g2⟩, g3⟩, g4⟩ := h
    obtain ⟨a1, a2, a3, _⟩ := take_ok g1
    obtain ⟨b1, b2, b3, _⟩ := take_ok g3
    rw [a1] at g2 ⊢
    rw [b1] at g4 ⊢
    obtain ⟨c1, c2, c3, _⟩ := take_ok g2
    obtain ⟨d1, d2, d3, _⟩ := take_ok g4
    rw [c1, d1, insL_comm hne (checkL_split.1 a2).2.2]
    have hle := (checkL_split.1 d3).1
    refine runR_callf (by simp only [go_sem, Nat.reduceEqDiff, Nat.reduceBEq, Nat.reduceAdd, Nat.reduceMul, Nat.reduceSub, Nat.reduceLeDiff, Nat.reduceLT, reduceIte, reduceCtorEq, Int.reduceToNat, Int.reduceLE, Int.reduceLT, Int.reduceNeg, Bool.not_not, and_self, Bool.and_eq_false_iff, Int.cast_ofNat_Int, Int.reduceAdd, Int.reduceSub, Int.reduceMul, Int.reduceEq, Int.reduceNe]) (by simp only [go_sem, Nat.reduceEqDiff, Nat.reduceBEq, Nat.reduceAdd, Nat.reduceMul, Nat.reduceSub, Nat.reduceLeDiff, Nat.reduceLT, reduceIte, reduceCtorEq, Int.reduceToNat, Int.reduceLE, Int.reduceLT, Int.reduceNeg, Bool.not_not, and_self, Bool.and_eq_false_iff, Int.cast_ofNat_Int, Int.reduceAdd, Int.reduceSub, Int.reduceMul, Int.reduceEq, Int.reduceNe] <;> rfl) (fn42 _ _ (by omega) (by omega)) ⟨rfl, trivial⟩ trivial ?_
    simp only [go_sem, Nat.reduceEqDiff, Nat.reduceBEq, Nat.reduceAdd, Nat.reduceMul, Nat.reduceSub, Nat.reduceLeDiff, Nat.reduceLT, reduceIte, reduceCtorEq, Int.reduceToNat, Int.reduceLE, Int.reduceLT, Int.reduceNeg, Bool.not_not, and_self, Bool.and_eq_false_iff, Int.cast_ofNat_Int, Int.reduceAdd, Int.reduceSub, Int.reduceMul, Int.reduceEq, Int.reduceNe]
    refine runR_callgf (by simp only [go_sem, Nat.reduceEqDiff, Nat.reduceBEq, Nat.reduceAdd, Nat.reduceMul, Nat.reduceSub, Nat.reduceLeDiff, Nat.reduceLT, reduceIte, reduceCtorEq, Int.reduceToNat, Int.reduceLE, Int.reduceLT, Int.reduceNeg, Bool.not_not, and_self, Bool.and_eq_false_iff, Int.cast_ofNat_Int, Int.reduceAdd, Int.reduceSub, Int.reduceMul, Int.reduceEq, Int.reduceNe]) (by simp only [go_sem, Nat.reduceEqDiff, Nat.reduceBEq, Nat.reduceAdd, Nat.reduceMul, Nat.reduceSub, Nat.reduceLeDiff, Nat.reduceLT, reduceIte, reduceCtorEq, Int.reduceToNat, Int.reduceLE, Int.reduceLT, Int.reduceNeg, Bool.not_not, and_self, Bool.and_eq_false_iff, Int.cast_ofNat_Int, Int.reduceAdd, Int.reduceSub, Int.reduceMul, Int.reduceEq, Int.reduceNe]) (by simp only [go_sem, Nat.reduceEqDiff, Nat.reduceBEq, Nat.reduceAdd, Nat.reduceMul, Nat.reduceSub, Nat.reduceLeDiff, Nat.reduceLT, reduceIte, reduceCtorEq, Int.reduceToNat, Int.reduceLE, Int.reduceLT, Int.reduceNeg, Bool.not_not, and_self, Bool.and_eq_false_iff, Int.cast_ofNat_Int, Int.reduceAdd, Int.reduceSub, Int.reduceMul, Int.reduceEq, Int.reduceNe] <;> rfl) (fun _ => fn43 _ (by omega)) rfl ?_
    rw [d3]
    simp only [go_sem, Nat.reduceEqDiff, Nat.reduceBEq, Nat.reduceAdd, Nat.reduceMul, Nat.reduceSub, Nat.reduceLeDiff, Nat.reduceLT, reduceIte, reduceCtorEq, Int.reduceToNat, Int.reduceLE, Int.reduceLT, Int.reduceNeg, Bool.not_not, and_self, Bool.and_eq_false_iff, Int.cast_ofNat_Int, Int.reduceAdd, Int.reduceSub, Int.reduceMul, Int.reduceEq, Int.reduceNe, errN_dec, errN_iff]
    refine runR_callgf (by simp only [go_sem, Nat.reduceEqDiff, Nat.reduceBEq, Nat.reduceAdd, Nat.reduceMul, Nat.reduceSub, Nat.reduceLeDiff, Nat.reduceLT, reduceIte, reduceCtorEq, Int.reduceToNat, Int.reduceLE, Int.reduceLT, Int.reduceNeg, Bool.not_not, and_self, Bool.and_eq_false_iff, Int.cast_ofNat_Int, Int.reduceAdd, Int.reduceSub, Int.reduceMul, Int.reduceEq, Int.reduceNe]) (by simp only [go_sem, Nat.reduceEqDiff, Nat.reduceBEq, Nat.reduceAdd, Nat.reduceMul, Nat.reduceSub, Nat.reduceLeDiff, Nat.reduceLT, reduceIte, reduceCtorEq, Int.reduceToNat, Int.reduceLE, Int.reduceLT, Int.reduceNeg, Bool.not_not, and_self, Bool.and_eq_false_iff, Int.cast_ofNat_Int, Int.reduceAdd, Int.reduceSub, Int.reduceMul, Int.reduceEq, Int.reduceNe]) (by simp only [go_sem, Nat.reduceEqDiff, Nat.reduceBEq, Nat.reduceAdd, Nat.reduceMul, Nat.reduceSub, Nat.reduceLeDiff, Nat.reduceLT, reduceIte, reduceCtorEq, Int.reduceToNat, Int.reduceLE, Int.reduceLT, Int.reduceNeg, Bool.not_not, and_self, Bool.and_eq_false_iff, Int.cast_ofNat_Int, Int.reduceAdd, Int.reduceSub, Int.reduceMul, Int.reduceEq, Int.reduceNe] <;> rfl) (fun _ => fn45) rfl ?_
    simp only [go_sem, Nat.reduceEqDiff, Nat.reduceBEq, Nat.reduceAdd, Nat.reduceMul, Nat.reduceSub, Nat.reduceLeDiff, Nat.reduceLT, reduceIte, reduceCtorEq, Int.reduceToNat, Int.reduceLE, Int.reduceLT, Int.reduceNeg, Bool.not_not, and_self, Bool.and_eq_false_iff, Int.cast_ofNat_Int, Int.reduceAdd, Int.reduceSub, Int.reduceMul, Int.reduceEq, Int.reduceNe]
theorem law10 (l : List La) (p : ByteArray) (n : Int) (hl : l.length ≤ 9223372036854775807) (hk : OkNs l) (hn : 0 ≤ n ∧ n ≤ 18446744073709551615) : Fn Try.prog 10 [ls l, pS p, pU n] (.pv (pB true)) [] := by
  refine Run10 [] (by simp) ?_
  simp only [go_sem, Nat.reduceEqDiff, Nat.reduceBEq, Nat.reduceAdd, Nat.reduceMul, Nat.reduceSub, Nat.reduceLeDiff, Nat.reduceLT, reduceIte, reduceCtorEq, Int.reduceToNat, Int.reduceLE, Int.reduceLT, Int.reduceNeg, Bool.not_not, and_self, Bool.and_eq_false_iff, Int.cast_ofNat_Int, Int.reduceAdd, Int.reduceSub, Int.reduceMul, Int.reduceEq, Int.reduceNe, M10]
  refine runR_call (by simp only [go_sem, Nat.reduceEqDiff, Nat.reduceBEq, Nat.reduceAdd, Nat.reduceMul, Nat.reduceSub, Nat.reduceLeDiff, Nat.reduceLT, reduceIte, reduceCtorEq, Int.reduceToNat, Int.reduceLE, Int.reduceLT, Int.reduceNeg, Bool.not_not, and_self, Bool.and_eq_false_iff, Int.cast_ofNat_Int, Int.reduceAdd, Int.reduceSub, Int.reduceMul, Int.reduceEq, Int.reduceNe]) rfl (fn34 l hl) (.inl rfl) trivial ?_
  simp only [go_sem, Nat.reduceEqDiff, Nat.reduceBEq, Nat.reduceAdd, Nat.reduceMul, Nat.reduceSub, Nat.reduceLeDiff, Nat.reduceLT, reduceIte, reduceCtorEq, Int.reduceToNat, Int.reduceLE, Int.reduceLT, Int.reduceNeg, Bool.not_not, and_self, Bool.and_eq_false_iff, Int.cast_ofNat_Int, Int.reduceAdd, Int.reduceSub, Int.reduceMul, Int.reduceEq, Int.reduceNe]
  refine runR_callf (by simp only [go_sem, Nat.reduceEqDiff, Nat.reduceBEq, Nat.reduceAdd, Nat.reduceMul, Nat.reduceSub, Nat.reduceLeDiff, Nat.reduceLT, reduceIte, reduceCtorEq, Int.reduceToNat, Int.reduceLE, Int.reduceLT, Int.reduceNeg, Bool.not_not, and_self, Bool.and_eq_false_iff, Int.cast_ofNat_Int, Int.reduceAdd, Int.reduceSub, Int.reduceMul, Int.reduceEq, Int.reduceNe]) (by simp only [go_sem, Nat.reduceEqDiff, Nat.reduceBEq, Nat.reduceAdd, Nat.reduceMul, Nat.reduceSub, Nat.reduceLeDiff, Nat.reduceLT, reduceIte, reduceCtorEq, Int.reduceToNat, Int.reduceLE, Int.reduceLT, Int.reduceNeg, Bool.not_not, and_self, Bool.and_eq_false_iff, Int.cast_ofNat_Int, Int.reduceAdd, Int.reduceSub, Int.reduceMul, Int.reduceEq, Int.reduceNe] <;> rfl) (fn35 p) ⟨rfl, trivial⟩ trivial ?_
  simp only [go_sem, Nat.reduceEqDiff, Nat.reduceBEq, Nat.reduceAdd, Nat.reduceMul, Nat.reduceSub, Nat.reduceLeDiff, Nat.reduceLT, reduceIte, reduceCtorEq, Int.reduceToNat, Int.reduceLE, Int.reduceLT, Int.reduceNeg, Bool.not_not, and_self, Bool.and_eq_false_iff, Int.cast_ofNat_Int, Int.reduceAdd, Int.reduceSub, Int.reduceMul, Int.reduceEq, Int.reduceNe]
  have hl1 : (fewL l).length ≤ 51 := fewL_len l
  have hn1 := fewL_n hk
  generalize fewL l = m at hl1 hn1 ⊢
  have hp := few60_size p
  generalize few60 p = q at hp ⊢
  refine runR_callf (by simp only [go_sem, Nat.reduceEqDiff, Nat.reduceBEq, Nat.reduceAdd, Nat.reduceMul, Nat.reduceSub, Nat.reduceLeDiff, Nat.reduceLT, reduceIte, reduceCtorEq, Int.reduceToNat, Int.reduceLE, Int.reduceLT, Int.reduceNeg, Bool.not_not, and_self, Bool.and_eq_false_iff, Int.cast_ofNat_Int, Int.reduceAdd, Int.reduceSub, Int.reduceMul, Int.reduceEq, Int.reduceNe]) (by simp only [go_sem, Nat.reduceEqDiff, Nat.reduceBEq, Nat.reduceAdd, Nat.reduceMul, Nat.reduceSub, Nat.reduceLeDiff, Nat.reduceLT, reduceIte, reduceCtorEq, Int.reduceToNat, Int.reduceLE, Int.reduceLT, Int.reduceNeg, Bool.not_not, and_self, Bool.and_eq_false_iff, Int.cast_ofNat_Int, Int.reduceAdd, Int.reduceSub, Int.reduceMul, Int.reduceEq, Int.reduceNe] <;> rfl) (fn43 m (by omega)) ⟨rfl, trivial⟩ trivial ?_
  simp only [go_sem, Nat.reduceEqDiff, Nat.reduceBEq, Nat.reduceAdd, Nat.reduceMul, Nat.reduceSub, Nat.reduceLeDiff, Nat.reduceLT, reduceIte, reduceCtorEq, Int.reduceToNat, Int.reduceLE, Int.reduceLT, Int.reduceNeg, Bool.not_not, and_self, Bool.and_eq_false_iff, Int.cast_ofNat_Int, Int.reduceAdd, Int.reduceSub, Int.reduceMul, Int.reduceEq, Int.reduceNe, errN_dec, errN_iff]
  refine ⟨fun h => ?_, fun hc => ?_⟩
  · refine runR_callf (by simp only [go_sem, Nat.reduceEqDiff, Nat.reduceBEq, Nat.reduceAdd, Nat.reduceMul, Nat.reduceSub, Nat.reduceLeDiff, Nat.reduceLT, reduceIte, reduceCtorEq, Int.reduceToNat, Int.reduceLE, Int.reduceLT, Int.reduceNeg, Bool.not_not, and_self, Bool.and_eq_false_iff, Int.cast_ofNat_Int, Int.reduceAdd, Int.reduceSub, Int.reduceMul, Int.reduceEq, Int.reduceNe]) (by simp only [go_sem, Nat.reduceEqDiff, Nat.reduceBEq, Nat.reduceAdd, Nat.reduceMul, Nat.reduceSub, Nat.reduceLeDiff, Nat.reduceLT, reduceIte, reduceCtorEq, Int.reduceToNat, Int.reduceLE, Int.reduceLT, Int.reduceNeg, Bool.not_not, and_self, Bool.and_eq_false_iff, Int.cast_ofNat_Int, Int.reduceAdd, Int.reduceSub, Int.reduceMul, Int.reduceEq, Int.reduceNe] <;> rfl) (fn45) ⟨rfl, trivial⟩ trivial ?_
    simp only [go_sem, Nat.reduceEqDiff, Nat.reduceBEq, Nat.reduceAdd, Nat.reduceMul, Nat.reduceSub, Nat.reduceLeDiff, Nat.reduceLT, reduceIte, reduceCtorEq, Int.reduceToNat, Int.reduceLE, Int.reduceLT, Int.reduceNeg, Bool.not_not, and_self, Bool.and_eq_false_iff, Int.cast_ofNat_Int, Int.reduceAdd, Int.reduceSub, Int.reduceMul, Int.reduceEq, Int.reduceNe]
  refine runR_callf (by simp only [go_sem, Nat.reduceEqDiff, Nat.reduceBEq, Nat.reduceAdd, Nat.reduceMul, Nat.reduceSub, Nat.reduceLeDiff, Nat.reduceLT, reduceIte, reduceCtorEq, Int.reduceToNat, Int.reduceLE, Int.reduceLT, Int.reduceNeg, Bool.not_not, and_self, Bool.and_eq_false_iff, Int.cast_ofNat_Int, Int.reduceAdd, Int.reduceSub, Int.reduceMul, Int.reduceEq, Int.reduceNe]) (by simp only [go_sem, Nat.reduceEqDiff, Nat.reduceBEq, Nat.reduceAdd, Nat.reduceMul, Nat.reduceSub, Nat.reduceLeDiff, Nat.reduceLT, reduceIte, reduceCtorEq, Int.reduceToNat, Int.reduceLE, Int.reduceLT, Int.reduceNeg, Bool.not_not, and_self, Bool.and_eq_false_iff, Int.cast_ofNat_Int, Int.reduceAdd, Int.reduceSub, Int.reduceMul, Int.reduceEq, Int.reduceNe] <;> rfl) (fn40 m q (by omega)) ⟨rfl, trivial⟩ trivial ?_
  simp only [go_sem, Nat.reduceEqDiff, Nat.reduceBEq, Nat.reduceAdd, Nat.reduceMul, Nat.reduceSub, Nat.reduceLeDiff, Nat.reduceLT, reduceIte, reduceCtorEq, Int.reduceToNat, Int.reduceLE, Int.reduceLT, Int.reduceNeg, Bool.not_not, and_self, Bool.and_eq_false_iff, Int.cast_ofNat_Int, Int.reduceAdd, Int.reduceSub, Int.reduceMul, Int.reduceEq, Int.reduceNe]
  refine runR_callf (by simp only [go_sem, Nat.reduceEqDiff, Nat.reduceBEq, Nat.reduceAdd, Nat.reduceMul, Nat.reduceSub, Nat.reduceLeDiff, Nat.reduceLT, reduceIte, reduceCtorEq, Int.reduceToNat, Int.reduceLE, Int.reduceLT, Int.reduceNeg, Bool.not_not, and_self, Bool.and_eq_false_iff, Int.cast_ofNat_Int, Int.reduceAdd, Int.reduceSub, Int.reduceMul, Int.reduceEq, Int.reduceNe]) (by simp only [go_sem, Nat.reduceEqDiff, Nat.reduceBEq, Nat.reduceAdd, Nat.reduceMul, Nat.reduceSub, Nat.reduceLeDiff, Nat.reduceLT, reduceIte, reduceCtorEq, Int.reduceToNat, Int.reduceLE, Int.reduceLT, Int.reduceNeg, Bool.not_not, and_self, Bool.and_eq_false_iff, Int.cast_ofNat_Int, Int.reduceAdd, Int.reduceSub, Int.reduceMul, Int.reduceEq, Int.reduceNe] <;> rfl) (fn36 m q n (by omega) hn.1 hn.2) ⟨rfl, trivial⟩ trivial ?_
  simp only [go_sem, Nat.reduceEqDiff, Nat.reduceBEq, Nat.reduceAdd, Nat.reduceMul, Nat.reduceSub, Nat.reduceLeDiff, Nat.reduceLT, reduceIte, reduceCtorEq, Int.reduceToNat, Int.reduceLE, Int.reduceLT, Int.reduceNeg, Bool.not_not, and_self, Bool.and_eq_false_iff, Int.cast_ofNat_Int, Int.reduceAdd, Int.reduceSub, Int.reduceMul, Int.reduceEq, Int.reduceNe]
  have hno := lastL_no (l := m) (p := q)
  have hmem := lastL_mem (l := m) (p := q)
  have hA : askL m q n = if fieldB q = false ∨ n < 1 then (0, 1) else if (lastL m q).2 = true ∧ n = (lastL m q).1.n then ((lastL m q).1.o, 5)
      else if (lastL m q).2 = true ∧ n < (lastL m q).1.n then (0, 8) else if n - 1 = (lastL m q).1.n then (0, 0) else (0, 9) := by
    unfold askL; simp [hc]
  have hx0 : 0 ≤ (lastL m q).1.n := by
    cases hb : (lastL m q).2
    · rw [hno hb]; exact Int.le_refl 0
    · exact (hn1 _ (hmem hb).1).1
  generalize askL m q n = r at hA ⊢
  generalize lastL m q = y at hno hA hx0 ⊢
  obtain ⟨x, b⟩ := y
  simp only at hno hA hx0
  by_cases h1 : fieldB q = false ∨ n < 1
  · rw [if_pos h1] at hA
    subst hA
    simp only [go_sem, Nat.reduceEqDiff, Nat.reduceBEq, Nat.reduceAdd, Nat.reduceMul, Nat.reduceSub, Nat.reduceLeDiff, Nat.reduceLT, reduceIte, reduceCtorEq, Int.reduceToNat, Int.reduceLE, Int.reduceLT, Int.reduceNeg, Bool.not_not, and_self, Bool.and_eq_false_iff, Int.cast_ofNat_Int, Int.reduceAdd, Int.reduceSub, Int.reduceMul, Int.reduceEq, Int.reduceNe]
    refine runR_callgf (by simp only [go_sem, Nat.reduceEqDiff, Nat.reduceBEq, Nat.reduceAdd, Nat.reduceMul, Nat.reduceSub, Nat.reduceLeDiff, Nat.reduceLT, reduceIte, reduceCtorEq, Int.reduceToNat, Int.reduceLE, Int.reduceLT, Int.reduceNeg, Bool.not_not, and_self, Bool.and_eq_false_iff, Int.cast_ofNat_Int, Int.reduceAdd, Int.reduceSub, Int.reduceMul, Int.reduceEq, Int.reduceNe]) (by simp only [go_sem, Nat.reduceEqDiff, Nat.reduceBEq, Nat.reduceAdd, Nat.reduceMul, Nat.reduceSub, Nat.reduceLeDiff, Nat.reduceLT, reduceIte, reduceCtorEq, Int.reduceToNat, Int.reduceLE, Int.reduceLT, Int.reduceNeg, Bool.not_not, and_self, Bool.and_eq_false_iff, Int.cast_ofNat_Int, Int.reduceAdd, Int.reduceSub, Int.reduceMul, Int.reduceEq, Int.reduceNe]) (by simp only [go_sem, Nat.reduceEqDiff, Nat.reduceBEq, Nat.reduceAdd, Nat.reduceMul, Nat.reduceSub, Nat.reduceLeDiff, Nat.reduceLT, reduceIte, reduceCtorEq, Int.reduceToNat, Int.reduceLE, Int.reduceLT, Int.reduceNeg, Bool.not_not, and_self, Bool.and_eq_false_iff, Int.cast_ofNat_Int, Int.reduceAdd, Int.reduceSub, Int.reduceMul, Int.reduceEq, Int.reduceNe] <;> rfl) (fun _ => fn46 q (by omega)) rfl ?_
    simp only [go_sem, Nat.reduceEqDiff, Nat.reduceBEq, Nat.reduceAdd, Nat.reduceMul, Nat.reduceSub, Nat.reduceLeDiff, Nat.reduceLT, reduceIte, reduceCtorEq, Int.reduceToNat, Int.reduceLE, Int.reduceLT, Int.reduceNeg, Bool.not_not, and_self, Bool.and_eq_false_iff, Int.cast_ofNat_Int, Int.reduceAdd, Int.reduceSub, Int.reduceMul, Int.reduceEq, Int.reduceNe]
    have e : (decide (n = 0) || !fieldB q) = true := by
      rcases h1 with h1 | h1
      · rw [h1]; simp
      · simp; left; omega
    rw [e]
    refine runR_callgf (by simp only [go_sem, Nat.reduceEqDiff, Nat.reduceBEq, Nat.reduceAdd, Nat.reduceMul, Nat.reduceSub, Nat.reduceLeDiff, Nat.reduceLT, reduceIte, reduceCtorEq, Int.reduceToNat, Int.reduceLE, Int.reduceLT, Int.reduceNeg, Bool.not_not, and_self, Bool.and_eq_false_iff, Int.cast_ofNat_Int, Int.reduceAdd, Int.reduceSub, Int.reduceMul, Int.reduceEq, Int.reduceNe]) (by simp only [go_sem, Nat.reduceEqDiff, Nat.reduceBEq, Nat.reduceAdd, Nat.reduceMul, Nat.reduceSub, Nat.reduceLeDiff, Nat.reduceLT, reduceIte, reduceCtorEq, Int.reduceToNat, Int.reduceLE, Int.reduceLT, Int.reduceNeg, Bool.not_not, and_self, Bool.and_eq_false_iff, Int.cast_ofNat_Int, Int.reduceAdd, Int.reduceSub, Int.reduceMul, Int.reduceEq, Int.reduceNe]) (by simp only [go_sem, Nat.reduceEqDiff, Nat.reduceBEq, Nat.reduceAdd, Nat.reduceMul, Nat.reduceSub, Nat.reduceLeDiff, Nat.reduceLT, reduceIte, reduceCtorEq, Int.reduceToNat, Int.reduceLE, Int.reduceLT, Int.reduceNeg, Bool.not_not, and_self, Bool.and_eq_false_iff, Int.cast_ofNat_Int, Int.reduceAdd, Int.reduceSub, Int.reduceMul, Int.reduceEq, Int.reduceNe] <;> rfl) (fun _ => fn45) rfl ?_
    simp only [go_sem, Nat.reduceEqDiff, Nat.reduceBEq, Nat.reduceAdd, Nat.reduceMul, Nat.reduceSub, Nat.reduceLeDiff, Nat.reduceLT, reduceIte, reduceCtorEq, Int.reduceToNat, Int.reduceLE, Int.reduceLT, Int.reduceNeg, Bool.not_not, and_self, Bool.and_eq_false_iff, Int.cast_ofNat_Int, Int.reduceAdd, Int.reduceSub, Int.reduceMul, Int.reduceEq, Int.reduceNe]
  rw [if_neg h1] at hA
  simp only [not_or, Bool.not_eq_false, Int.not_lt] at h1
  by_cases h2 : b = true ∧ n = x.n
  · rw [if_pos h2] at hA
    subst hA
    obtain ⟨rfl, rfl⟩ := h2
    simp only [go_sem, Nat.reduceEqDiff, Nat.reduceBEq, Nat.reduceAdd, Nat.reduceMul, Nat.reduceSub, Nat.reduceLeDiff, Nat.reduceLT, reduceIte, reduceCtorEq, Int.reduceToNat, Int.reduceLE, Int.reduceLT, Int.reduceNeg, Bool.not_not, and_self, Bool.and_eq_false_iff, Int.cast_ofNat_Int, Int.reduceAdd, Int.reduceSub, Int.reduceMul, Int.reduceEq, Int.reduceNe]
    refine runR_callgf (by simp only [go_sem, Nat.reduceEqDiff, Nat.reduceBEq, Nat.reduceAdd, Nat.reduceMul, Nat.reduceSub, Nat.reduceLeDiff, Nat.reduceLT, reduceIte, reduceCtorEq, Int.reduceToNat, Int.reduceLE, Int.reduceLT, Int.reduceNeg, Bool.not_not, and_self, Bool.and_eq_false_iff, Int.cast_ofNat_Int, Int.reduceAdd, Int.reduceSub, Int.reduceMul, Int.reduceEq, Int.reduceNe]) (by simp only [go_sem, Nat.reduceEqDiff, Nat.reduceBEq, Nat.reduceAdd, Nat.reduceMul, Nat.reduceSub, Nat.reduceLeDiff, Nat.reduceLT, reduceIte, reduceCtorEq, Int.reduceToNat, Int.reduceLE, Int.reduceLT, Int.reduceNeg, Bool.not_not, and_self, Bool.and_eq_false_iff, Int.cast_ofNat_Int, Int.reduceAdd, Int.reduceSub, Int.reduceMul, Int.reduceEq, Int.reduceNe]) (by simp only [go_sem, Nat.reduceEqDiff, Nat.reduceBEq, Nat.reduceAdd, Nat.reduceMul, Nat.reduceSub, Nat.reduceLeDiff, Nat.reduceLT, reduceIte, reduceCtorEq, Int.reduceToNat, Int.reduceLE, Int.reduceLT, Int.reduceNeg, Bool.not_not, and_self, Bool.and_eq_false_iff, Int.cast_ofNat_Int, Int.reduceAdd, Int.reduceSub, Int.reduceMul, Int.reduceEq, Int.reduceNe] <;> rfl) (fun _ => fn45) rfl ?_
    simp only [go_sem, Nat.reduceEqDiff, Nat.reduceBEq, Nat.reduceAdd, Nat.reduceMul, Nat.reduceSub, Nat.reduceLeDiff, Nat.reduceLT, reduceIte, reduceCtorEq, Int.reduceToNat, Int.reduceLE, Int.reduceLT, Int.reduceNeg, Bool.not_not, and_self, Bool.and_eq_false_iff, Int.cast_ofNat_Int, Int.reduceAdd, Int.reduceSub, Int.reduceMul, Int.reduceEq, Int.reduceNe]
  rw [if_neg h2] at hA
  by_cases h3 : b = true ∧ n < x.n
  · rw [if_pos h3] at hA
    subst hA
    obtain ⟨rfl, h3⟩ := h3
    simp only [go_sem, Nat.reduceEqDiff, Nat.reduceBEq, Nat.reduceAdd, Nat.reduceMul, Nat.reduceSub, Nat.reduceLeDiff, Nat.reduceLT, reduceIte, reduceCtorEq, Int.reduceToNat, Int.reduceLE, Int.reduceLT, Int.reduceNeg, Bool.not_not, and_self, Bool.and_eq_false_iff, Int.cast_ofNat_Int, Int.reduceAdd, Int.reduceSub, Int.reduceMul, Int.reduceEq, Int.reduceNe, h3]
    refine runR_callgf (by simp only [go_sem, Nat.reduceEqDiff, Nat.reduceBEq, Nat.reduceAdd, Nat.reduceMul, Nat.reduceSub, Nat.reduceLeDiff, Nat.reduceLT, reduceIte, reduceCtorEq, Int.reduceToNat, Int.reduceLE, Int.reduceLT, Int.reduceNeg, Bool.not_not, and_self, Bool.and_eq_false_iff, Int.cast_ofNat_Int, Int.reduceAdd, Int.reduceSub, Int.reduceMul, Int.reduceEq, Int.reduceNe]) (by simp only [go_sem, Nat.reduceEqDiff, Nat.reduceBEq, Nat.reduceAdd, Nat.reduceMul, Nat.reduceSub, Nat.reduceLeDiff, Nat.reduceLT, reduceIte, reduceCtorEq, Int.reduceToNat, Int.reduceLE, Int.reduceLT, Int.reduceNeg, Bool.not_not, and_self, Bool.and_eq_false_iff, Int.cast_ofNat_Int, Int.reduceAdd, Int.reduceSub, Int.reduceMul, Int.reduceEq, Int.reduceNe]) (by simp only [go_sem, Nat.reduceEqDiff, Nat.reduceBEq, Nat.reduceAdd, Nat.reduceMul, Nat.reduceSub, Nat.reduceLeDiff, Nat.reduceLT, reduceIte, reduceCtorEq, Int.reduceToNat, Int.reduceLE, Int.reduceLT, Int.reduceNeg, Bool.not_not, and_self, Bool.and_eq_false_iff, Int.cast_ofNat_Int, Int.reduceAdd, Int.reduceSub, Int.reduceMul, Int.reduceEq, Int.reduceNe] <;> rfl) (fun _ => fn45) rfl ?_
    simp only [go_sem, Nat.reduceEqDiff, Nat.reduceBEq, Nat.reduceAdd, Nat.reduceMul, Nat.reduceSub, Nat.reduceLeDiff, Nat.reduceLT, reduceIte, reduceCtorEq, Int.reduceToNat, Int.reduceLE, Int.reduceLT, Int.reduceNeg, Bool.not_not, and_self, Bool.and_eq_false_iff, Int.cast_ofNat_Int, Int.reduceAdd, Int.reduceSub, Int.reduceMul, Int.reduceEq, Int.reduceNe]
  rw [if_neg h3] at hA
  have hlt : x.n < n := by
    cases b
    · rw [hno rfl]; show 0 < n; omega
    · rcases Int.lt_trichotomy n x.n with h5 | h5 | h5
      · exact absurd ⟨rfl, h5⟩ h3
      · exact absurd ⟨rfl, h5⟩ h2
      · exact h5
  by_cases h4 : n - 1 = x.n
  · rw [if_pos h4] at hA
    subst hA
    simp only [go_sem, Nat.reduceEqDiff, Nat.reduceBEq, Nat.reduceAdd, Nat.reduceMul, Nat.reduceSub, Nat.reduceLeDiff, Nat.reduceLT, reduceIte, reduceCtorEq, Int.reduceToNat, Int.reduceLE, Int.reduceLT, Int.reduceNeg, Bool.not_not, and_self, Bool.and_eq_false_iff, Int.cast_ofNat_Int, Int.reduceAdd, Int.reduceSub, Int.reduceMul, Int.reduceEq, Int.reduceNe, h4]
    refine ⟨⟨by omega, by omega⟩, ?_⟩
    refine runR_callgf (by simp only [go_sem, Nat.reduceEqDiff, Nat.reduceBEq, Nat.reduceAdd, Nat.reduceMul, Nat.reduceSub, Nat.reduceLeDiff, Nat.reduceLT, reduceIte, reduceCtorEq, Int.reduceToNat, Int.reduceLE, Int.reduceLT, Int.reduceNeg, Bool.not_not, and_self, Bool.and_eq_false_iff, Int.cast_ofNat_Int, Int.reduceAdd, Int.reduceSub, Int.reduceMul, Int.reduceEq, Int.reduceNe]) (by simp only [go_sem, Nat.reduceEqDiff, Nat.reduceBEq, Nat.reduceAdd, Nat.reduceMul, Nat.reduceSub, Nat.reduceLeDiff, Nat.reduceLT, reduceIte, reduceCtorEq, Int.reduceToNat, Int.reduceLE, Int.reduceLT, Int.reduceNeg, Bool.not_not, and_self, Bool.and_eq_false_iff, Int.cast_ofNat_Int, Int.reduceAdd, Int.reduceSub, Int.reduceMul, Int.reduceEq, Int.reduceNe]) (by simp only [go_sem, Nat.reduceEqDiff, Nat.reduceBEq, Nat.reduceAdd, Nat.reduceMul, Nat.reduceSub, Nat.reduceLeDiff, Nat.reduceLT, reduceIte, reduceCtorEq, Int.reduceToNat, Int.reduceLE, Int.reduceLT, Int.reduceNeg, Bool.not_not, and_self, Bool.and_eq_false_iff, Int.cast_ofNat_Int, Int.reduceAdd, Int.reduceSub, Int.reduceMul, Int.reduceEq, Int.reduceNe] <;> rfl) (fun _ => fn45) rfl ?_
    simp only [go_sem, Nat.reduceEqDiff, Nat.reduceBEq, Nat.reduceAdd, Nat.reduceMul, Nat.reduceSub, Nat.reduceLeDiff, Nat.reduceLT, reduceIte, reduceCtorEq, Int.reduceToNat, Int.reduceLE, Int.reduceLT, Int.reduceNeg, Bool.not_not, and_self, Bool.and_eq_false_iff, Int.cast_ofNat_Int, Int.reduceAdd, Int.reduceSub, Int.reduceMul, Int.reduceEq, Int.reduceNe]
  rw [if_neg h4] at hA
  subst hA
  simp only [go_sem, Nat.reduceEqDiff, Nat.reduceBEq, Nat.reduceAdd, Nat.reduceMul, Nat.reduceSub, Nat.reduceLeDiff, Nat.reduceLT, reduceIte, reduceCtorEq, Int.reduceToNat, Int.reduceLE, Int.reduceLT, Int.reduceNeg, Bool.not_not, and_self, Bool.and_eq_false_iff, Int.cast_ofNat_Int, Int.reduceAdd, Int.reduceSub, Int.reduceMul, Int.reduceEq, Int.reduceNe, hlt]
  refine ⟨⟨by omega, by omega⟩, ?_⟩
  rw [show decide (1 < n - x.n) = true from decide_eq_true (by omega)]
  refine runR_callgf (by simp only [go_sem, Nat.reduceEqDiff, Nat.reduceBEq, Nat.reduceAdd, Nat.reduceMul, Nat.reduceSub, Nat.reduceLeDiff, Nat.reduceLT, reduceIte, reduceCtorEq, Int.reduceToNat, Int.reduceLE, Int.reduceLT, Int.reduceNeg, Bool.not_not, and_self, Bool.and_eq_false_iff, Int.cast_ofNat_Int, Int.reduceAdd, Int.reduceSub, Int.reduceMul, Int.reduceEq, Int.reduceNe]) (by simp only [go_sem, Nat.reduceEqDiff, Nat.reduceBEq, Nat.reduceAdd, Nat.reduceMul, Nat.reduceSub, Nat.reduceLeDiff, Nat.reduceLT, reduceIte, reduceCtorEq, Int.reduceToNat, Int.reduceLE, Int.reduceLT, Int.reduceNeg, Bool.not_not, and_self, Bool.and_eq_false_iff, Int.cast_ofNat_Int, Int.reduceAdd, Int.reduceSub, Int.reduceMul, Int.reduceEq, Int.reduceNe]) (by simp only [go_sem, Nat.reduceEqDiff, Nat.reduceBEq, Nat.reduceAdd, Nat.reduceMul, Nat.reduceSub, Nat.reduceLeDiff, Nat.reduceLT, reduceIte, reduceCtorEq, Int.reduceToNat, Int.reduceLE, Int.reduceLT, Int.reduceNeg, Bool.not_not, and_self, Bool.and_eq_false_iff, Int.cast_ofNat_Int, Int.reduceAdd, Int.reduceSub, Int.reduceMul, Int.reduceEq, Int.reduceNe] <;> rfl) (fun _ => fn45) rfl ?_
  simp only [go_sem, Nat.reduceEqDiff, Nat.reduceBEq, Nat.reduceAdd, Nat.reduceMul, Nat.reduceSub, Nat.reduceLeDiff, Nat.reduceLT, reduceIte, reduceCtorEq, Int.reduceToNat, Int.reduceLE, Int.reduceLT, Int.reduceNeg, Bool.not_not, and_self, Bool.and_eq_false_iff, Int.cast_ofNat_Int, Int.reduceAdd, Int.reduceSub, Int.reduceMul, Int.reduceEq, Int.reduceNe]
theorem lastL_at : ∀ {l : List La}, Ris l → ∀ {i : Nat} (h : i < l.length), lastL l (l[i]).p = (l[i], true)
  | [], _, i, h => by simp at h
  | a :: l, hr, 0, _ => by rw [lastL_cons]; exact if_pos rfl
  | a :: l, hr, i + 1, h => by
    have h' := List.pairwise_cons.1 hr
    have hi : i < l.length := by simpa using h
    rw [lastL_cons, List.getElem_cons_succ, if_neg (bl_ne (h'.1 _ (List.getElem_mem hi)))]
    exact lastL_at h'.2 hi
theorem law11 (l : List La) (x : La) (hl : l.length ≤ 9223372036854775807) (hn : 0 ≤ x.n ∧ x.n ≤ 18446744073709551615) : Fn Try.prog 11 [ls l, x.pv] (.pv (pB true)) [] := by
  refine Run11 [] (by simp) ?_
  simp only [go_sem, Nat.reduceEqDiff, Nat.reduceBEq, Nat.reduceAdd, Nat.reduceMul, Nat.reduceSub, Nat.reduceLeDiff, Nat.reduceLT, reduceIte, reduceCtorEq, Int.reduceToNat, Int.reduceLE, Int.reduceLT, Int.reduceNeg, Bool.not_not, and_self, Bool.and_eq_false_iff, Int.cast_ofNat_Int, Int.reduceAdd, Int.reduceSub, Int.reduceMul, Int.reduceEq, Int.reduceNe, M11]
  refine runR_call (by simp only [go_sem, Nat.reduceEqDiff, Nat.reduceBEq, Nat.reduceAdd, Nat.reduceMul, Nat.reduceSub, Nat.reduceLeDiff, Nat.reduceLT, reduceIte, reduceCtorEq, Int.reduceToNat, Int.reduceLE, Int.reduceLT, Int.reduceNeg, Bool.not_not, and_self, Bool.and_eq_false_iff, Int.cast_ofNat_Int, Int.reduceAdd, Int.reduceSub, Int.reduceMul, Int.reduceEq, Int.reduceNe]) rfl (fn34 l hl) (.inl rfl) trivial ?_
  simp only [go_sem, Nat.reduceEqDiff, Nat.reduceBEq, Nat.reduceAdd, Nat.reduceMul, Nat.reduceSub, Nat.reduceLeDiff, Nat.reduceLT, reduceIte, reduceCtorEq, Int.reduceToNat, Int.reduceLE, Int.reduceLT, Int.reduceNeg, Bool.not_not, and_self, Bool.and_eq_false_iff, Int.cast_ofNat_Int, Int.reduceAdd, Int.reduceSub, Int.reduceMul, Int.reduceEq, Int.reduceNe]
  refine runR_callf (by simp only [go_sem, Nat.reduceEqDiff, Nat.reduceBEq, Nat.reduceAdd, Nat.reduceMul, Nat.reduceSub, Nat.reduceLeDiff, Nat.reduceLT, reduceIte, reduceCtorEq, Int.reduceToNat, Int.reduceLE, Int.reduceLT, Int.reduceNeg, Bool.not_not, and_self, Bool.and_eq_false_iff, Int.cast_ofNat_Int, Int.reduceAdd, Int.reduceSub, Int.reduceMul, Int.reduceEq, Int.reduceNe]) (by simp only [go_sem, Nat.reduceEqDiff, Nat.reduceBEq, Nat.reduceAdd, Nat.reduceMul, Nat.reduceSub, Nat.reduceLeDiff, Nat.reduceLT, reduceIte, reduceCtorEq, Int.reduceToNat, Int.reduceLE, Int.reduceLT, Int.reduceNeg, Bool.not_not, and_self, Bool.and_eq_false_iff, Int.cast_ofNat_Int, Int.reduceAdd, Int.reduceSub, Int.reduceMul, Int.reduceEq, Int.reduceNe] <;> rfl) (fn35 x.p) ⟨rfl, trivial⟩ trivial ?_
  simp only [go_sem, Nat.reduceEqDiff, Nat.reduceBEq, Nat.reduceAdd, Nat.reduceMul, Nat.reduceSub, Nat.reduceLeDiff, Nat.reduceLT, reduceIte, reduceCtorEq, Int.reduceToNat, Int.reduceLE, Int.reduceLT, Int.reduceNeg, Bool.not_not, and_self, Bool.and_eq_false_iff, Int.cast_ofNat_Int, Int.reduceAdd, Int.reduceSub, Int.reduceMul, Int.reduceEq, Int.reduceNe]
  have hl1 : (fewL l).length ≤ 51 := fewL_len l
  generalize fewL l = m at hl1 ⊢
  obtain ⟨y, hy⟩ : ∃ y : La, y = { x with p := few60 x.p } := ⟨_, rfl⟩
  have e1 : few60 x.p = y.p := by rw [hy]
  have e2 : x.n = y.n := by rw [hy]
  have e3 : x.o = y.o := by rw [hy]
  rw [e2] at hn ⊢
  rw [e1, e3]
  have t1 := takeL_len m y (by omega)
  refine runR_call (by simp only [go_sem, Nat.reduceEqDiff, Nat.reduceBEq, Nat.reduceAdd, Nat.reduceMul, Nat.reduceSub, Nat.reduceLeDiff, Nat.reduceLT, reduceIte, reduceCtorEq, Int.reduceToNat, Int.reduceLE, Int.reduceLT, Int.reduceNeg, Bool.not_not, and_self, Bool.and_eq_false_iff, Int.cast_ofNat_Int, Int.reduceAdd, Int.reduceSub, Int.reduceMul, Int.reduceEq, Int.reduceNe]) rfl (fn38 m y (by omega) hn.1 hn.2) (.inl rfl) trivial ?_
  simp only [go_sem, Nat.reduceEqDiff, Nat.reduceBEq, Nat.reduceAdd, Nat.reduceMul, Nat.reduceSub, Nat.reduceLeDiff, Nat.reduceLT, reduceIte, reduceCtorEq, Int.reduceToNat, Int.reduceLE, Int.reduceLT, Int.reduceNeg, Bool.not_not, and_self, Bool.and_eq_false_iff, Int.cast_ofNat_Int, Int.reduceAdd, Int.reduceSub, Int.reduceMul, Int.reduceEq, Int.reduceNe]
  refine ⟨fun h => ?_, fun h => ?_⟩
  · have e4 : (takeL m y).1 = [] := by
      rw [takeL_eq] at h ⊢
      split
      · rfl
      · rename_i g1; rw [if_neg g1] at h
        split
        · rfl
        · rename_i g2; rw [if_neg g2] at h
          split
          · rfl
          · rename_i g3; rw [if_neg g3] at h; exact absurd rfl h
    rw [e4]
    simp only [go_sem, Nat.reduceEqDiff, Nat.reduceBEq, Nat.reduceAdd, Nat.reduceMul, Nat.reduceSub, Nat.reduceLeDiff, Nat.reduceLT, reduceIte, reduceCtorEq, Int.reduceToNat, Int.reduceLE, Int.reduceLT, Int.reduceNeg, Bool.not_not, and_self, Bool.and_eq_false_iff, Int.cast_ofNat_Int, Int.reduceAdd, Int.reduceSub, Int.reduceMul, Int.reduceEq, Int.reduceNe]
    refine runR_callgf (by simp only [go_sem, Nat.reduceEqDiff, Nat.reduceBEq, Nat.reduceAdd, Nat.reduceMul, Nat.reduceSub, Nat.reduceLeDiff, Nat.reduceLT, reduceIte, reduceCtorEq, Int.reduceToNat, Int.reduceLE, Int.reduceLT, Int.reduceNeg, Bool.not_not, and_self, Bool.and_eq_false_iff, Int.cast_ofNat_Int, Int.reduceAdd, Int.reduceSub, Int.reduceMul, Int.reduceEq, Int.reduceNe]) (by simp only [go_sem, Nat.reduceEqDiff, Nat.reduceBEq, Nat.reduceAdd, Nat.reduceMul, Nat.reduceSub, Nat.reduceLeDiff, Nat.reduceLT, reduceIte, reduceCtorEq, Int.reduceToNat, Int.reduceLE, Int.reduceLT, Int.reduceNeg, Bool.not_not, and_self, Bool.and_eq_false_iff, Int.cast_ofNat_Int, Int.reduceAdd, Int.reduceSub, Int.reduceMul, Int.reduceEq, Int.reduceNe]) (by simp only [go_sem, Nat.reduceEqDiff, Nat.reduceBEq, Nat.reduceAdd, Nat.reduceMul, Nat.reduceSub, Nat.reduceLeDiff, Nat.reduceLT, reduceIte, reduceCtorEq, Int.reduceToNat, Int.reduceLE, Int.reduceLT, Int.reduceNeg, Bool.not_not, and_self, Bool.and_eq_false_iff, Int.cast_ofNat_Int, Int.reduceAdd, Int.reduceSub, Int.reduceMul, Int.reduceEq, Int.reduceNe] <;> rfl) (fun _ => fn45) rfl ?_
    simp only [go_sem, Nat.reduceEqDiff, Nat.reduceBEq, Nat.reduceAdd, Nat.reduceMul, Nat.reduceSub, Nat.reduceLeDiff, Nat.reduceLT, reduceIte, reduceCtorEq, Int.reduceToNat, Int.reduceLE, Int.reduceLT, Int.reduceNeg, Bool.not_not, and_self, Bool.and_eq_false_iff, Int.cast_ofNat_Int, Int.reduceAdd, Int.reduceSub, Int.reduceMul, Int.reduceEq, Int.reduceNe]
  have h : (takeL m y).2 = 0 := by omega
  obtain ⟨a1, a2, a3, a4, a5⟩ := take_ok h
  have hr := (checkL_split.1 a2).2.2
  have hlast := fun p => lastL_ins (x := y) (p := p) hr
  rw [a1] at t1 ⊢
  generalize insL m y = r at a3 hlast t1 ⊢
  refine run_loop (T := Nat) (fun i => ⟨[(0, .pv (ls m)), (3, .ptr 3 0), (5, .pv (ls r)), (7, .pv (pI i))], [(3, .box [.pv (pS y.p), .pv (pU y.n), .pv (pI y.o)])]⟩) (fun i => i ≤ m.length) (fun i => m.length - i) 0 rfl (Nat.zero_le _) ?_
  intro i hi
  by_cases hlt : i < m.length
  · simp only [go_sem, Nat.reduceEqDiff, Nat.reduceBEq, Nat.reduceAdd, Nat.reduceMul, Nat.reduceSub, Nat.reduceLeDiff, Nat.reduceLT, reduceIte, reduceCtorEq, Int.reduceToNat, Int.reduceLE, Int.reduceLT, Int.reduceNeg, Bool.not_not, and_self, Bool.and_eq_false_iff, Int.cast_ofNat_Int, Int.reduceAdd, Int.reduceSub, Int.reduceMul, Int.reduceEq, Int.reduceNe, B11_0, wf_ls, getD_map hlt, show (i : Int) < (m.length : Int) by omega]
    refine runR_callf (by simp only [go_sem, Nat.reduceEqDiff, Nat.reduceBEq, Nat.reduceAdd, Nat.reduceMul, Nat.reduceSub, Nat.reduceLeDiff, Nat.reduceLT, reduceIte, reduceCtorEq, Int.reduceToNat, Int.reduceLE, Int.reduceLT, Int.reduceNeg, Bool.not_not, and_self, Bool.and_eq_false_iff, Int.cast_ofNat_Int, Int.reduceAdd, Int.reduceSub, Int.reduceMul, Int.reduceEq, Int.reduceNe]) (by simp only [go_sem, Nat.reduceEqDiff, Nat.reduceBEq, Nat.reduceAdd, Nat.reduceMul, Nat.reduceSub, Nat.reduceLeDiff, Nat.reduceLT, reduceIte, reduceCtorEq, Int.reduceToNat, Int.reduceLE, Int.reduceLT, Int.reduceNeg, Bool.not_not, and_self, Bool.and_eq_false_iff, Int.cast_ofNat_Int, Int.reduceAdd, Int.reduceSub, Int.reduceMul, Int.reduceEq, Int.reduceNe] <;> rfl) (fn40 r (m[i]).p (by omega)) ⟨rfl, trivial⟩ trivial ?_
    simp only [go_sem, Nat.reduceEqDiff, Nat.reduceBEq, Nat.reduceAdd, Nat.reduceMul, Nat.reduceSub, Nat.reduceLeDiff, Nat.reduceLT, reduceIte, reduceCtorEq, Int.reduceToNat, Int.reduceLE, Int.reduceLT, Int.reduceNeg, Bool.not_not, and_self, Bool.and_eq_false_iff, Int.cast_ofNat_Int, Int.reduceAdd, Int.reduceSub, Int.reduceMul, Int.reduceEq, Int.reduceNe, wf_ls, getD_map hlt]
    have hla := hlast (m[i]).p
    rw [lastL_at hr hlt] at hla
    by_cases hp : y.p = (m[i]).p
    · refine ⟨by omega, fun h => absurd hp.symm h, fun h => absurd hp.symm h, fun h => absurd hp.symm h.1, fun _ => ⟨⟨by omega, by omega⟩, i + 1, rfl, by omega, by omega⟩⟩
    · rw [if_neg hp] at hla
      rw [hla]
      simp only [go_sem, Nat.reduceEqDiff, Nat.reduceBEq, Nat.reduceAdd, Nat.reduceMul, Nat.reduceSub, Nat.reduceLeDiff, Nat.reduceLT, reduceIte, reduceCtorEq, Int.reduceToNat, Int.reduceLE, Int.reduceLT, Int.reduceNeg, Bool.not_not, and_self, Bool.and_eq_false_iff, Int.cast_ofNat_Int, Int.reduceAdd, Int.reduceSub, Int.reduceMul, Int.reduceEq, Int.reduceNe]
      exact ⟨by omega, fun h => ⟨h, by omega⟩, ⟨by omega, by omega⟩, i + 1, rfl, by omega, by omega⟩
  · simp only [go_sem, Nat.reduceEqDiff, Nat.reduceBEq, Nat.reduceAdd, Nat.reduceMul, Nat.reduceSub, Nat.reduceLeDiff, Nat.reduceLT, reduceIte, reduceCtorEq, Int.reduceToNat, Int.reduceLE, Int.reduceLT, Int.reduceNeg, Bool.not_not, and_self, Bool.and_eq_false_iff, Int.cast_ofNat_Int, Int.reduceAdd, Int.reduceSub, Int.reduceMul, Int.reduceEq, Int.reduceNe, B11_0, R11_0, show ¬ ((i : Int) < (m.length : Int)) by omega]
    have hy1 := hlast y.p
    rw [if_pos rfl] at hy1
    obtain ⟨b1, b2, b3⟩ := askL_ok a4
    have hask : askL r y.p y.n = (y.o, 5) := by
      unfold askL
      rw [if_neg (by rw [a3, b2]; simp; omega), hy1, if_pos ⟨rfl, rfl⟩]
    have htk : takeL r y = ([], 5) := by
      unfold takeL
      rw [hask]; rfl
    refine runR_callf (by simp only [go_sem, Nat.reduceEqDiff, Nat.reduceBEq, Nat.reduceAdd, Nat.reduceMul, Nat.reduceSub, Nat.reduceLeDiff, Nat.reduceLT, reduceIte, reduceCtorEq, Int.reduceToNat, Int.reduceLE, Int.reduceLT, Int.reduceNeg, Bool.not_not, and_self, Bool.and_eq_false_iff, Int.cast_ofNat_Int, Int.reduceAdd, Int.reduceSub, Int.reduceMul, Int.reduceEq, Int.reduceNe]) (by simp only [go_sem, Nat.reduceEqDiff, Nat.reduceBEq, Nat.reduceAdd, Nat.reduceMul, Nat.reduceSub, Nat.reduceLeDiff, Nat.reduceLT, reduceIte, reduceCtorEq, Int.reduceToNat, Int.reduceLE, Int.reduceLT, Int.reduceNeg, Bool.not_not, and_self, Bool.and_eq_false_iff, Int.cast_ofNat_Int, Int.reduceAdd, Int.reduceSub, Int.reduceMul, Int.reduceEq, Int.reduceNe] <;> rfl) (fn36 r y.p y.n (by omega) hn.1 hn.2) ⟨rfl, trivial⟩ trivial ?_
    rw [hask]
    simp only [go_sem, Nat.reduceEqDiff, Nat.reduceBEq, Nat.reduceAdd, Nat.reduceMul, Nat.reduceSub, Nat.reduceLeDiff, Nat.reduceLT, reduceIte, reduceCtorEq, Int.reduceToNat, Int.reduceLE, Int.reduceLT, Int.reduceNeg, Bool.not_not, and_self, Bool.and_eq_false_iff, Int.cast_ofNat_Int, Int.reduceAdd, Int.reduceSub, Int.reduceMul, Int.reduceEq, Int.reduceNe]
    refine runR_call (by simp only [go_sem, Nat.reduceEqDiff, Nat.reduceBEq, Nat.reduceAdd, Nat.reduceMul, Nat.reduceSub, Nat.reduceLeDiff, Nat.reduceLT, reduceIte, reduceCtorEq, Int.reduceToNat, Int.reduceLE, Int.reduceLT, Int.reduceNeg, Bool.not_not, and_self, Bool.and_eq_false_iff, Int.cast_ofNat_Int, Int.reduceAdd, Int.reduceSub, Int.reduceMul, Int.reduceEq, Int.reduceNe]) rfl (fn38 r y (by omega) hn.1 hn.2) (.inl rfl) trivial ?_
    rw [htk]
    simp only [go_sem, Nat.reduceEqDiff, Nat.reduceBEq, Nat.reduceAdd, Nat.reduceMul, Nat.reduceSub, Nat.reduceLeDiff, Nat.reduceLT, reduceIte, reduceCtorEq, Int.reduceToNat, Int.reduceLE, Int.reduceLT, Int.reduceNeg, Bool.not_not, and_self, Bool.and_eq_false_iff, Int.cast_ofNat_Int, Int.reduceAdd, Int.reduceSub, Int.reduceMul, Int.reduceEq, Int.reduceNe]
    refine runR_callf (by simp only [go_sem, Nat.reduceEqDiff, Nat.reduceBEq, Nat.reduceAdd, Nat.reduceMul, Nat.reduceSub, Nat.reduceLeDiff, Nat.reduceLT, reduceIte, reduceCtorEq, Int.reduceToNat, Int.reduceLE, Int.reduceLT, Int.reduceNeg, Bool.not_not, and_self, Bool.and_eq_false_iff, Int.cast_ofNat_Int, Int.reduceAdd, Int.reduceSub, Int.reduceMul, Int.reduceEq, Int.reduceNe]) (by simp only [go_sem, Nat.reduceEqDiff, Nat.reduceBEq, Nat.reduceAdd, Nat.reduceMul, Nat.reduceSub, Nat.reduceLeDiff, Nat.reduceLT, reduceIte, reduceCtorEq, Int.reduceToNat, Int.reduceLE, Int.reduceLT, Int.reduceNeg, Bool.not_not, and_self, Bool.and_eq_false_iff, Int.cast_ofNat_Int, Int.reduceAdd, Int.reduceSub, Int.reduceMul, Int.reduceEq, Int.reduceNe] <;> rfl) (fn40 r y.p (by omega)) ⟨rfl, trivial⟩ trivial ?_
    rw [hy1]
    simp only [go_sem, Nat.reduceEqDiff, Nat.reduceBEq, Nat.reduceAdd, Nat.reduceMul, Nat.reduceSub, Nat.reduceLeDiff, Nat.reduceLT, reduceIte, reduceCtorEq, Int.reduceToNat, Int.reduceLE, Int.reduceLT, Int.reduceNeg, Bool.not_not, and_self, Bool.and_eq_false_iff, Int.cast_ofNat_Int, Int.reduceAdd, Int.reduceSub, Int.reduceMul, Int.reduceEq, Int.reduceNe]
    refine runR_callf (by simp only [go_sem, Nat.reduceEqDiff, Nat.reduceBEq, Nat.reduceAdd, Nat.reduceMul, Nat.reduceSub, Nat.reduceLeDiff, Nat.reduceLT, reduceIte, reduceCtorEq, Int.reduceToNat, Int.reduceLE, Int.reduceLT, Int.reduceNeg, Bool.not_not, and_self, Bool.and_eq_false_iff, Int.cast_ofNat_Int, Int.reduceAdd, Int.reduceSub, Int.reduceMul, Int.reduceEq, Int.reduceNe]) (by simp only [go_sem, Nat.reduceEqDiff, Nat.reduceBEq, Nat.reduceAdd, Nat.reduceMul, Nat.reduceSub, Nat.reduceLeDiff, Nat.reduceLT, reduceIte, reduceCtorEq, Int.reduceToNat, Int.reduceLE, Int.reduceLT, Int.reduceNeg, Bool.not_not, and_self, Bool.and_eq_false_iff, Int.cast_ofNat_Int, Int.reduceAdd, Int.reduceSub, Int.reduceMul, Int.reduceEq, Int.reduceNe] <;> rfl) (fn43 r (by omega)) ⟨rfl, trivial⟩ trivial ?_
    rw [a3]
    simp only [go_sem, Nat.reduceEqDiff, Nat.reduceBEq, Nat.reduceAdd, Nat.reduceMul, Nat.reduceSub, Nat.reduceLeDiff, Nat.reduceLT, reduceIte, reduceCtorEq, Int.reduceToNat, Int.reduceLE, Int.reduceLT, Int.reduceNeg, Bool.not_not, and_self, Bool.and_eq_false_iff, Int.cast_ofNat_Int, Int.reduceAdd, Int.reduceSub, Int.reduceMul, Int.reduceEq, Int.reduceNe, errN_dec, errN_iff]
    refine runR_callgf (by simp only [go_sem, Nat.reduceEqDiff, Nat.reduceBEq, Nat.reduceAdd, Nat.reduceMul, Nat.reduceSub, Nat.reduceLeDiff, Nat.reduceLT, reduceIte, reduceCtorEq, Int.reduceToNat, Int.reduceLE, Int.reduceLT, Int.reduceNeg, Bool.not_not, and_self, Bool.and_eq_false_iff, Int.cast_ofNat_Int, Int.reduceAdd, Int.reduceSub, Int.reduceMul, Int.reduceEq, Int.reduceNe]) (by simp only [go_sem, Nat.reduceEqDiff, Nat.reduceBEq, Nat.reduceAdd, Nat.reduceMul, Nat.reduceSub, Nat.reduceLeDiff, Nat.reduceLT, reduceIte, reduceCtorEq, Int.reduceToNat, Int.reduceLE, Int.reduceLT, Int.reduceNeg, Bool.not_not, and_self, Bool.and_eq_false_iff, Int.cast_ofNat_Int, Int.reduceAdd, Int.reduceSub, Int.reduceMul, Int.reduceEq, Int.reduceNe]) (by simp only [go_sem, Nat.reduceEqDiff, Nat.reduceBEq, Nat.reduceAdd, Nat.reduceMul, Nat.reduceSub, Nat.reduceLeDiff, Nat.reduceLT, reduceIte, reduceCtorEq, Int.reduceToNat, Int.reduceLE, Int.reduceLT, Int.reduceNeg, Bool.not_not, and_self, Bool.and_eq_false_iff, Int.cast_ofNat_Int, Int.reduceAdd, Int.reduceSub, Int.reduceMul, Int.reduceEq, Int.reduceNe] <;> rfl) (fun _ => fn45) rfl ?_
    simp only [go_sem, Nat.reduceEqDiff, Nat.reduceBEq, Nat.reduceAdd, Nat.reduceMul, Nat.reduceSub, Nat.reduceLeDiff, Nat.reduceLT, reduceIte, reduceCtorEq, Int.reduceToNat, Int.reduceLE, Int.reduceLT, Int.reduceNeg, Bool.not_not, and_self, Bool.and_eq_false_iff, Int.cast_ofNat_Int, Int.reduceAdd, Int.reduceSub, Int.reduceMul, Int.reduceEq, Int.reduceNe]
end Go.Vc
