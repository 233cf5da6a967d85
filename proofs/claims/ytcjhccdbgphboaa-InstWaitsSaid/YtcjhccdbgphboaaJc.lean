/- A part of the proofs of the seat Ytcjhccdbgphboaa: the contracts of functions, each proved out of its code. -/
import Derived.Test.YtcjhccdbgphboaaJb
namespace Go.Vc
open Go.Proofs
set_option linter.unusedSimpArgs false

def fireAt (j : Jn) (l : List Kp) (i : Nat) : Bool := decide (j.kind = sAll) && isFirst l i || decide (j.kind = sAny) && decide (i = 0) || decide (j.kind = sCount) && decide ((i : Int) < j.need)
def firesTo (j : Jn) (l : List Kp) (i : Nat) : List PV := (List.range i).map fun k => pB (fireAt j l k)
def fireRow (j : Jn) (l : List Kp) (i : Nat) : List PV := firesTo j l i ++ List.replicate (l.length - i) (pB false)
def fireCnt (j : Jn) (l : List Kp) (i : Nat) : Nat := ((List.range i).filter (fireAt j l)).length
def needJ (j : Jn) : Int := if j.kind = sCount then j.need else if j.kind = sAll then j.parts else 1
theorem fireRow_len {j : Jn} {l : List Kp} {i : Nat} (h : i ≤ l.length) : (fireRow j l i).length = l.length := by simp [fireRow, firesTo]; omega
theorem fireRow_set {j : Jn} {l : List Kp} {i : Nat} (h : i < l.length) : (fireRow j l i).set i (pB (fireAt j l i)) = fireRow j l (i + 1) := by
  have e : l.length - i = (l.length - (i + 1)) + 1 := by omega
  simp [fireRow, firesTo, List.set_append, List.range_succ, e, List.replicate_succ]
theorem fireRow_get {j : Jn} {l : List Kp} {i : Nat} : (fireRow j l (i + 1)).getD i default = pB (fireAt j l i) := by
  simp [fireRow, firesTo, List.getD_eq_getElem?_getD, List.getElem?_append]
theorem fireRow_get0 {j : Jn} {l : List Kp} {i : Nat} (h : i < l.length) : (fireRow j l i).getD i default = pB false := by
  have h2 : 0 < l.length - i := by omega
  simp [fireRow, firesTo, List.getD_eq_getElem?_getD, List.getElem?_append, List.getElem?_replicate, h2]
theorem hasPart_succ' {l : List Kp} {i : Nat} (h : i < l.length) (p : Int) : hasPart (l.take (i + 1)) p = (hasPart (l.take i) p || decide ((l.getD i default).part = p)) := by
  rw [hasPart_succ h, getD_get h]
theorem fireRow_all (j : Jn) (l : List Kp) : fireRow j l l.length = firesTo j l l.length := by simp [fireRow]
theorem fireCnt_succ (j : Jn) (l : List Kp) (i : Nat) : fireCnt j l (i + 1) = fireCnt j l i + if fireAt j l i = true then 1 else 0 := by
  simp only [fireCnt, List.range_succ, List.filter_append, List.length_append]
  by_cases h : fireAt j l i = true <;> simp [h]
theorem fireCnt_le (j : Jn) (l : List Kp) (i : Nat) : fireCnt j l i ≤ i := by
  have := List.length_filter_le (fireAt j l) (List.range i)
  simpa [fireCnt] using this
theorem fn49 (j : Jn) (l : List Kp) (hl : l.length < 100000) : Fn Try.prog 49 [j.pv, ks l] (.tup [.row 0 0 l.length, .pv (pB (decide (needJ j ≤ (fireCnt j l l.length : Int))))]) [(1, firesTo j l l.length)] := by
  refine Run49 [true, false] (by simp) ?_
  simp only [go_sem, Nat.reduceEqDiff, Nat.reduceBEq, Nat.reduceAdd, Nat.reduceMul, Nat.reduceSub, Nat.reduceLeDiff, Nat.reduceLT, reduceIte, reduceCtorEq, Int.reduceToNat, Int.reduceLE, Int.reduceLT, Int.reduceNeg, Bool.not_not, and_self, M49]
  refine ⟨(by (repeat' (first | intro _ | apply And.intro)) <;> (first | assumption | omega | (simp_all; done) | (simp_all; omega))), run_loop (T := Nat) (fun i => ⟨[(1, .pv (ks l)), (2, .ptr 2 0), (6, .row 14 0 l.length), (7, .pv (pI (fireCnt j l i))), (8, .pv (pI i))],
    [(2, .box [.pv (pS j.kind), .pv (pI j.parts), .pv (pI j.need), .pv (pI j.window)]), (14, .sl 1 (fireRow j l i))]⟩)
    (fun i => i ≤ l.length) (fun i => l.length - i) 0 ?_ (Nat.zero_le _) ?_⟩
  · simp [fireRow, firesTo, fireCnt]
  intro i hi
  by_cases hlt : i < l.length
  · simp only [go_sem, Nat.reduceEqDiff, Nat.reduceBEq, Nat.reduceAdd, Nat.reduceMul, Nat.reduceSub, Nat.reduceLeDiff, Nat.reduceLT, reduceIte, reduceCtorEq, Int.reduceToNat, Int.reduceLE, Int.reduceLT, Int.reduceNeg, Bool.not_not, and_self, wf_ks, show (i : Int) < (l.length : Int) by omega]
    refine run_loop (T := Nat) (fun k => ⟨[(1, .pv (ks l)), (2, .ptr 2 0), (6, .row 14 0 l.length), (7, .pv (pI (fireCnt j l i))), (8, .pv (pI i)), (9, .pv (pB (!hasPart (l.take k) (l.getD i default).part))), (10, .pv (pI k))],
    [(2, .box [.pv (pS j.kind), .pv (pI j.parts), .pv (pI j.need), .pv (pI j.window)]), (14, .sl 1 (fireRow j l i))]⟩)
      (fun k => k ≤ i) (fun k => i - k) 0 ?_ (Nat.zero_le _) ?_
    · simp [hasPart]
    intro k hk
    by_cases hlk : k < i
    · simp only [go_sem, Nat.reduceEqDiff, Nat.reduceBEq, Nat.reduceAdd, Nat.reduceMul, Nat.reduceSub, Nat.reduceLeDiff, Nat.reduceLT, reduceIte, reduceCtorEq, Int.reduceToNat, Int.reduceLE, Int.reduceLT, Int.reduceNeg, Bool.not_not, and_self, wf_ks, show (k : Int) < (i : Int) by omega, getD_ks hlt, getD_ks (show k < l.length by omega)]
      refine ⟨(by (repeat' (first | intro _ | apply And.intro)) <;> (first | assumption | omega | (simp_all; done) | (simp_all; omega))), (by (repeat' (first | intro _ | apply And.intro)) <;> (first | assumption | omega | (simp_all; done) | (simp_all; omega))), by omega, k + 1, ?_, hlk, by omega⟩
      rw [hasPart_succ' (show k < l.length by omega)]
      simp [pB]
    · have e : k = i := by omega
      subst e
      have hf : (decide (j.kind = sAll) && !hasPart (List.take k l) (l.getD k default).part || decide (j.kind = sAny) && decide ((k : Int) = 0) || decide (j.kind = sCount) && decide ((k : Int) < j.need)) = fireAt j l k := by
        simp [fireAt, isFirst]
      simp only [go_sem, Nat.reduceEqDiff, Nat.reduceBEq, Nat.reduceAdd, Nat.reduceMul, Nat.reduceSub, Nat.reduceLeDiff, Nat.reduceLT, reduceIte, reduceCtorEq, Int.reduceToNat, Int.reduceLE, Int.reduceLT, Int.reduceNeg, Bool.not_not, and_self, show ¬ (k : Int) < (k : Int) by omega, fireRow_len hi, fAll, fAny, fCount, fireRow_get0 hlt, hf, fireRow_set hlt, fireRow_get, fireRow_len (show k + 1 ≤ l.length from hlt)]
      have hc := fireCnt_le j l k
      refine ⟨?_, ?_, by omega, hlt, by omega, hlt, fun h => ⟨by omega, by omega, k + 1, ?_, hlt, by omega⟩, fun h => ⟨by omega, k + 1, ?_, hlt, by omega⟩⟩
      · intro h; refine ⟨h, ?_⟩; rw [h]; cases decide (j.kind = sAny) <;> rfl
      · intro h; refine ⟨h, ?_⟩; rw [h.1, h.2]; cases decide (j.kind = sCount) <;> rfl
      · simp [fireCnt_succ, h]
      · simp [fireCnt_succ, h]
  · have e : i = l.length := by omega
    subst e
    simp only [go_sem, Nat.reduceEqDiff, Nat.reduceBEq, Nat.reduceAdd, Nat.reduceMul, Nat.reduceSub, Nat.reduceLeDiff, Nat.reduceLT, reduceIte, reduceCtorEq, Int.reduceToNat, Int.reduceLE, Int.reduceLT, Int.reduceNeg, Bool.not_not, and_self, show ¬ (l.length : Int) < (l.length : Int) by omega, fAll, fAny, fCount, fireRow_all]
    unfold needJ
    refine ⟨fun h1 => ⟨fun h2 => ?_, fun h2 => ?_⟩, fun h1 => ⟨fun h2 => ?_, fun h2 => ?_⟩⟩ <;> simp [h1, h2, ne_AC]
    exact absurd (h1.symm.trans h2) ne_AC
end Go.Vc

namespace Go.Vc
open Go.Proofs
set_option linter.unusedSimpArgs false

theorem okAt_iff (j : Jn) (l : List Kp) (i : Nat) (h : i < l.length) : okAt j l i = true ↔
    (0 ≤ (l.getD i default).part ∧ (l.getD i default).part < j.parts ∧ 0 ≤ (l.getD i default).at_ ∧ (l.getD i default).at_ ≤ 1099511627775 ∧
      (0 < i → (l.getD (i - 1) default).at_ ≤ (l.getD i default).at_) ∧ ((l.take i).any fun y => decide (y.id = (l.getD i default).id)) = false) := by
  have e : earlyK (l.take i) (l.getD i default).at_ = if 0 < i then !decide ((l.getD (i - 1) default).at_ ≤ (l.getD i default).at_) else false := by
    by_cases h0 : 0 < i
    · have h1 : min i l.length = i := by omega
      have h2 : i - 1 < l.length := by omega
      have h3 : i - 1 < i := by omega
      simp [earlyK, h0, h1, List.getD_eq_getElem?_getD, List.getElem?_take, h2, h3]
      by_cases h4 : (l[i]?.getD default).at_ < l[i - 1].at_
      · simp [h4, show ¬ l[i - 1].at_ ≤ (l[i]?.getD default).at_ by omega]
      · simp [h4, show l[i - 1].at_ ≤ (l[i]?.getD default).at_ by omega]
    · have : i = 0 := by omega
      subst this
      simp [earlyK]
  simp only [okAt, fitsK, timeB, e]
  generalize ((l.take i).any fun y => decide (y.id = (l.getD i default).id)) = b
  by_cases h0 : 0 < i <;> cases b <;> simp [h0, -List.getD_eq_getElem?_getD] <;> omega
theorem flats_map {α : Type} (f : α → PV) (h : ∀ a, (f a).flat = true) : ∀ l : List α, PV.flats (l.map f) = true
  | [] => rfl
  | a :: l => by simp only [List.map_cons, PV.flats, h, flats_map f h l, Bool.and_self]
theorem flat_fires (j : Jn) (l : List Kp) : flatRows [(1, firesTo j l l.length)] := ⟨fun p hp => by simp only [firesTo, List.mem_map] at hp; obtain ⟨k, _, rfl⟩ := hp; rfl, trivial⟩
theorem cnt_lt (n m : Nat) : ((List.range n).filter fun i => decide (i < m)).length = min n m := by
  induction n with
  | zero => simp
  | succ n ih =>
    rw [List.range_succ, List.filter_append, List.length_append, ih]
    by_cases h : n < m
    · simp [h]; omega
    · simp [h]; omega
theorem mayKinds {j : Jn} (hm : mayJ j = true) : (j.kind = sAll ∧ 1 ≤ j.parts) ∨ j.kind = sAny ∨ j.kind = sCount ∧ 1 ≤ j.need ∧ j.need ≤ 30 := by
  unfold mayJ at hm
  by_cases k1 : j.kind = sCount
  · simp [k1] at hm; exact .inr (.inr ⟨k1, by omega, by omega⟩)
  · simp [k1] at hm
    rcases hm.2.1 with h | h
    · exact .inl ⟨h, by omega⟩
    · exact .inr (.inl h)
theorem met_places (j : Jn) (l : List Kp) (hm : mayJ j = true) : places j l = [] ↔ ¬ needJ j ≤ (fireCnt j l l.length : Int) := by
  have h1 := ne_AC
  have h2 := ne_YC
  have h3 := ne_AY
  rcases mayKinds hm with ⟨h, hp⟩ | h | ⟨h, hn, _⟩
  · have e : fireCnt j l l.length = (firstsTo l l.length).length := by
      simp only [fireCnt, firstsTo]
      congr 2
      funext i
      simp [fireAt, h, h1, h3]
    simp only [places, needJ, h, h1, if_true, if_false, e]
    by_cases hc : ((firstsTo l l.length).length : Int) < j.parts
    · simp only [hc, if_true, true_iff]; omega
    · simp only [hc, if_false]
      refine ⟨fun h0 => ?_, fun h0 => absurd h0 (by omega)⟩
      rw [h0] at hc; simp at hc; omega
  · have e : fireCnt j l l.length = min l.length 1 := by
      rw [← cnt_lt]
      simp only [fireCnt]
      congr 2
      funext i
      simp [fireAt, h, h2, h3.symm]
    simp only [places, needJ, h, h2, h3.symm, if_true, if_false, e, upto]
    by_cases hc : l.length < 1
    · simp only [hc, if_true, true_iff]; omega
    · simp [hc]; omega
  · have e : fireCnt j l l.length = min l.length j.need.toNat := by
      rw [← cnt_lt]
      simp only [fireCnt]
      congr 2
      funext i
      simp [fireAt, h, h1.symm, h2.symm]
    simp only [places, needJ, h, h1.symm, h2.symm, if_true, if_false, e, upto]
    by_cases hc : l.length < j.need.toNat
    · simp only [hc, if_true, true_iff]; omega
    · simp [hc]; omega
theorem any_take {l : List Kp} {i k : Nat} {q : Kp → Bool} (h : k < i) (hl : k < l.length) (hq : q (l.getD k default) = true) : (l.take i).any q = true := by
  rw [List.any_eq_true]
  refine ⟨l.getD k default, ?_, hq⟩
  rw [getD_get hl, List.mem_take_iff_getElem]
  exact ⟨k, by omega, rfl⟩
theorem any_take_succ {l : List Kp} {k : Nat} {q : Kp → Bool} (hl : k < l.length) : (l.take (k + 1)).any q = ((l.take k).any q || q (l.getD k default)) := by
  rw [take_snoc hl, List.any_append]; simp
theorem fn25 (j : Jn) (l : List Kp) (hl : l.length < 100000) : Fn Try.prog 25 [j.pv, ks l] (.pv (pB (checkJ j l))) [] := by
  refine Run25 [] (by simp) ?_
  simp only [go_sem, Nat.reduceEqDiff, Nat.reduceBEq, Nat.reduceAdd, Nat.reduceMul, Nat.reduceSub, Nat.reduceLeDiff, Nat.reduceLT, reduceIte, reduceCtorEq, Int.reduceToNat, Int.reduceLE, Int.reduceLT, Int.reduceNeg, Bool.not_not, and_self, Bool.and_eq_false_iff, M25]
  refine runR_callf (by simp only [go_sem, Nat.reduceEqDiff, Nat.reduceBEq, Nat.reduceAdd, Nat.reduceMul, Nat.reduceSub, Nat.reduceLeDiff, Nat.reduceLT, reduceIte, reduceCtorEq, Int.reduceToNat, Int.reduceLE, Int.reduceLT, Int.reduceNeg, Bool.not_not, and_self, Bool.and_eq_false_iff]) (by simp only [go_sem, Nat.reduceEqDiff, Nat.reduceBEq, Nat.reduceAdd, Nat.reduceMul, Nat.reduceSub, Nat.reduceLeDiff, Nat.reduceLT, reduceIte, reduceCtorEq, Int.reduceToNat, Int.reduceLE, Int.reduceLT, Int.reduceNeg, Bool.not_not, and_self, Bool.and_eq_false_iff]) (fn23 j) ⟨rfl, trivial⟩ trivial ?_
  simp only [go_sem, Nat.reduceEqDiff, Nat.reduceBEq, Nat.reduceAdd, Nat.reduceMul, Nat.reduceSub, Nat.reduceLeDiff, Nat.reduceLT, reduceIte, reduceCtorEq, Int.reduceToNat, Int.reduceLE, Int.reduceLT, Int.reduceNeg, Bool.not_not, and_self, Bool.and_eq_false_iff]
  refine ⟨fun h => ?_, fun ⟨hm, h30⟩ => run_loop (T := Nat) (fun i => ⟨[(1, .pv (ks l)), (2, .ptr 2 0), (5, .pv (pI i))], [(2, .box [.pv (pS j.kind), .pv (pI j.parts), .pv (pI j.need), .pv (pI j.window)])]⟩)
    (fun i => i ≤ l.length ∧ okTo j l i = true) (fun i => l.length - i) 0 rfl ⟨Nat.zero_le _, rfl⟩ ?_⟩
  · have : checkJ j l = false := by
      rcases h with h | h
      · simp [checkJ, h]
      · simp [checkJ, show ¬ l.length < 30 by omega]
    rw [this]
  intro i ⟨hi, hok⟩
  by_cases hlt : i < l.length
  · have hno : okAt j l i = false → checkJ j l = false := by
      intro h
      have h1 : okTo j l l.length = false := by
        rw [Bool.eq_false_iff]
        intro ht
        have := okTo_at ht hlt
        rw [h] at this; cases this
      simp [checkJ, h1]
    have hok' := okAt_iff j l i hlt
    simp only [go_sem, Nat.reduceEqDiff, Nat.reduceBEq, Nat.reduceAdd, Nat.reduceMul, Nat.reduceSub, Nat.reduceLeDiff, Nat.reduceLT, reduceIte, reduceCtorEq, Int.reduceToNat, Int.reduceLE, Int.reduceLT, Int.reduceNeg, Bool.not_not, and_self, Bool.and_eq_false_iff, wf_ks, getD_ks hlt, getD_ks (show i - 1 < l.length by omega), show (i : Int) < (l.length : Int) by omega, show ((i : Int) - 1).toNat = i - 1 by omega]
    refine ⟨(by (repeat' (first | intro _ | apply And.intro)) <;> (first | assumption | omega | (simp_all; done) | (simp_all; omega))), (by (repeat' (first | intro _ | apply And.intro)) <;> (first | assumption | omega | (simp_all; done) | (simp_all; omega))), (by (repeat' (first | intro _ | apply And.intro)) <;> (first | assumption | omega | (simp_all; done) | (simp_all; omega))), fun h => ?_, fun h => run_loop (T := Nat) (fun k => ⟨[(1, .pv (ks l)), (2, .ptr 2 0), (5, .pv (pI i)), (6, .pv (pI k))], [(2, .box [.pv (pS j.kind), .pv (pI j.parts), .pv (pI j.need), .pv (pI j.window)])]⟩)
      (fun k => k ≤ i ∧ (l.take k).any (fun y => decide (y.id = (l.getD i default).id)) = false) (fun k => i - k) 0 rfl ⟨Nat.zero_le _, rfl⟩ ?_⟩
    · rw [hno]
      rw [Bool.eq_false_iff]
      intro ht
      have := hok'.1 ht
      omega
    intro k ⟨hk, hany⟩
    by_cases hlk : k < i
    · simp only [go_sem, Nat.reduceEqDiff, Nat.reduceBEq, Nat.reduceAdd, Nat.reduceMul, Nat.reduceSub, Nat.reduceLeDiff, Nat.reduceLT, reduceIte, reduceCtorEq, Int.reduceToNat, Int.reduceLE, Int.reduceLT, Int.reduceNeg, Bool.not_not, and_self, Bool.and_eq_false_iff, wf_ks, getD_ks hlt, getD_ks (show k < l.length by omega), show (k : Int) < (i : Int) by omega]
      refine ⟨by omega, by omega, fun he => ?_, fun he => ⟨by omega, k + 1, rfl, ⟨hlk, ?_⟩, by omega⟩⟩
      · rw [hno]
        rw [Bool.eq_false_iff]
        intro ht
        have := (hok'.1 ht).2.2.2.2.2
        rw [any_take hlk (by omega) (by simp [he, -List.getD_eq_getElem?_getD])] at this
        cases this
      · rw [any_take_succ (by omega), hany]; simp [he, -List.getD_eq_getElem?_getD]
    · have e : k = i := by omega
      subst e
      simp only [go_sem, Nat.reduceEqDiff, Nat.reduceBEq, Nat.reduceAdd, Nat.reduceMul, Nat.reduceSub, Nat.reduceLeDiff, Nat.reduceLT, reduceIte, reduceCtorEq, Int.reduceToNat, Int.reduceLE, Int.reduceLT, Int.reduceNeg, Bool.not_not, and_self, Bool.and_eq_false_iff, show ¬ (k : Int) < (k : Int) by omega]
      refine ⟨by omega, k + 1, rfl, ⟨hlt, ?_⟩, by omega⟩
      rw [okTo_succ, hok, hok'.2 ⟨by omega, by omega, by omega, by omega, by omega, hany⟩]; rfl
  · have e : i = l.length := by omega
    subst e
    simp only [go_sem, Nat.reduceEqDiff, Nat.reduceBEq, Nat.reduceAdd, Nat.reduceMul, Nat.reduceSub, Nat.reduceLeDiff, Nat.reduceLT, reduceIte, reduceCtorEq, Int.reduceToNat, Int.reduceLE, Int.reduceLT, Int.reduceNeg, Bool.not_not, and_self, Bool.and_eq_false_iff, show ¬ (l.length : Int) < (l.length : Int) by omega]
    refine runR_callf (by simp only [go_sem, Nat.reduceEqDiff, Nat.reduceBEq, Nat.reduceAdd, Nat.reduceMul, Nat.reduceSub, Nat.reduceLeDiff, Nat.reduceLT, reduceIte, reduceCtorEq, Int.reduceToNat, Int.reduceLE, Int.reduceLT, Int.reduceNeg, Bool.not_not, and_self, Bool.and_eq_false_iff]) (by simp only [go_sem, Nat.reduceEqDiff, Nat.reduceBEq, Nat.reduceAdd, Nat.reduceMul, Nat.reduceSub, Nat.reduceLeDiff, Nat.reduceLT, reduceIte, reduceCtorEq, Int.reduceToNat, Int.reduceLE, Int.reduceLT, Int.reduceNeg, Bool.not_not, and_self, Bool.and_eq_false_iff]) (fn49 j l hl) ⟨rfl, flat_fires j l⟩ trivial ?_
    simp only [go_sem, Nat.reduceEqDiff, Nat.reduceBEq, Nat.reduceAdd, Nat.reduceMul, Nat.reduceSub, Nat.reduceLeDiff, Nat.reduceLT, reduceIte, reduceCtorEq, Int.reduceToNat, Int.reduceLE, Int.reduceLT, Int.reduceNeg, Bool.not_not, and_self, Bool.and_eq_false_iff]
    have := met_places j l hm
    by_cases h : needJ j ≤ (fireCnt j l l.length : Int) <;> simp [checkJ, hm, hok, show l.length < 30 by omega, this, h]
end Go.Vc

namespace Go.Vc
open Go.Proofs
set_option linter.unusedSimpArgs false

def isOver (j : Jn) (now : Int) (k : Kp) : Bool := decide (k.at_ + j.window < now)
theorem wf_one (k : Kp) : WfL 3 [k.pv] := wf_ks [k]
theorem wfs_ks (l : List Kp) : WfL 3 (l.map Kp.pv) := wf_ks l
theorem take_len_map {α β : Type} (f : α → β) (l : List α) : List.take l.length (l.map f) = l.map f := by rw [List.take_of_length_le (by simp)]
theorem filter_snoc {l : List Kp} {q : Kp → Bool} {i : Nat} (h : i < l.length) : (l.take (i + 1)).filter q = (l.take i).filter q ++ if q (l.getD i default) = true then [l.getD i default] else [] := by
  rw [take_snoc h, List.filter_append]
  by_cases hq : q (l.getD i default) = true <;> simp [hq, List.filter_cons, -List.getD_eq_getElem?_getD]
theorem filter_len {l : List Kp} {q : Kp → Bool} {i : Nat} : ((l.take i).filter q).length ≤ l.length := by
  have h1 := List.length_filter_le q (l.take i)
  rw [List.length_take] at h1
  omega
theorem fn28 (j : Jn) (l : List Kp) (now : Int) (hl : l.length < 100000) (hw : 0 ≤ j.window ∧ j.window ≤ 1073741824) (ha : ∀ k ∈ l, 0 ≤ k.at_ ∧ k.at_ ≤ 1099511627775) :
    Fn Try.prog 28 [j.pv, ks l, pI now] (.tup [.row 0 0 (l.filter fun k => !isOver j now k).length, .pv (ks (l.filter (isOver j now)))]) [(3, (l.filter fun k => !isOver j now k).map Kp.pv)] := by
  refine Run28 [true, false] (by simp) ?_
  simp only [go_sem, Nat.reduceEqDiff, Nat.reduceBEq, Nat.reduceAdd, Nat.reduceMul, Nat.reduceSub, Nat.reduceLeDiff, Nat.reduceLT, reduceIte, reduceCtorEq, Int.reduceToNat, Int.reduceLE, Int.reduceLT, Int.reduceNeg, Bool.not_not, and_self, Bool.and_eq_false_iff, M28]
  refine run_loop (T := Nat) (fun i => ⟨[(1, .pv (ks l)), (2, .pv (pI now)), (3, .ptr 3 0), (8, .row 2008 0 ((l.take i).filter fun k => !isOver j now k).length), (9, .row 2009 0 ((l.take i).filter (isOver j now)).length), (10, .pv (pI i))],
      [(3, .box [.pv (pS j.kind), .pv (pI j.parts), .pv (pI j.need), .pv (pI j.window)]), (2008, .sl 3 (((l.take i).filter fun k => !isOver j now k).map Kp.pv)), (2009, .sl 3 (((l.take i).filter (isOver j now)).map Kp.pv))]⟩)
    (fun i => i ≤ l.length) (fun i => l.length - i) 0 ?_ (Nat.zero_le _) ?_
  · simp
  intro i hi
  by_cases hlt : i < l.length
  · have hat := ha _ (List.getElem_mem hlt)
    rw [← getD_get hlt] at hat
    have hl1 := filter_len (l := l) (i := i) (q := isOver j now)
    have hl2 := filter_len (l := l) (i := i) (q := fun k => !isOver j now k)
    simp only [go_sem, Nat.reduceEqDiff, Nat.reduceBEq, Nat.reduceAdd, Nat.reduceMul, Nat.reduceSub, Nat.reduceLeDiff, Nat.reduceLT, reduceIte, reduceCtorEq, Int.reduceToNat, Int.reduceLE, Int.reduceLT, Int.reduceNeg, Bool.not_not, and_self, Bool.and_eq_false_iff, wf_ks, getD_ks hlt, show (i : Int) < (l.length : Int) by omega, wf_one, take_len_map]
    refine ⟨by omega, fun h => ⟨by omega, by omega, i + 1, ?_, hlt, by omega⟩, fun h => ⟨by omega, by omega, i + 1, ?_, hlt, by omega⟩⟩
    · have hq : isOver j now (l.getD i default) = true := by simp only [isOver, h, decide_true]
      rw [filter_snoc hlt, filter_snoc hlt, hq]
      simp
    · have hq : isOver j now (l.getD i default) = false := by simp only [isOver, h, decide_false]
      rw [filter_snoc hlt, filter_snoc hlt, hq]
      simp
  · have e : i = l.length := by omega
    subst e
    simp only [go_sem, Nat.reduceEqDiff, Nat.reduceBEq, Nat.reduceAdd, Nat.reduceMul, Nat.reduceSub, Nat.reduceLeDiff, Nat.reduceLT, reduceIte, reduceCtorEq, Int.reduceToNat, Int.reduceLE, Int.reduceLT, Int.reduceNeg, Bool.not_not, and_self, Bool.and_eq_false_iff, show ¬ (l.length : Int) < (l.length : Int) by omega, take_len_map]
    simp
def nOver (j : Jn) (now : Int) (l : List Kp) : Nat := (l.takeWhile (isOver j now)).length
def expOk (j : Jn) (l : List Kp) (now : Int) : Bool := checkJ j l && timeB now && !earlyK l now
theorem checkJ_err (j : Jn) (l : List Kp) : decide (errN (checkJ j l) = 0) = checkJ j l := by cases checkJ j l <;> rfl
theorem checkJ_err' (j : Jn) (l : List Kp) : (errN (checkJ j l) = 0) = (checkJ j l = true) := by cases checkJ j l <;> simp [errN]
theorem checkJ_parts {j : Jn} {l : List Kp} (h : checkJ j l = true) : mayJ j = true ∧ l.length < 30 ∧ okTo j l l.length = true ∧ places j l = [] := by
  simp [checkJ] at h; exact ⟨h.1.1.1, h.1.1.2, h.1.2, h.2⟩
theorem mayJ_win {j : Jn} (h : mayJ j = true) : 0 ≤ j.window ∧ j.window ≤ 1073741824 := by simp [mayJ] at h; omega
theorem fitsK_at {j : Jn} {k : Kp} (h : fitsK j k = true) : 0 ≤ k.at_ ∧ k.at_ ≤ 1099511627775 := by simp [fitsK, timeB] at h; omega
theorem nOver_le (j : Jn) (now : Int) (l : List Kp) : nOver j now l ≤ l.length := (List.takeWhile_sublist _).length_le
theorem tw_get {q : Kp → Bool} : ∀ {l : List Kp} {i : Nat}, i < (l.takeWhile q).length → q (l.getD i default) = true
  | [], i, h => by simp at h
  | a :: l, i, h => by
    rw [List.takeWhile_cons] at h
    split at h
    · rename_i ha
      cases i with
      | zero => simpa using ha
      | succ i =>
        rw [List.getD_cons_succ]
        exact tw_get (by simpa using h)
    · simp at h
theorem tw_end {q : Kp → Bool} : ∀ {l : List Kp}, (l.takeWhile q).length < l.length → q (l.getD (l.takeWhile q).length default) = false
  | [], h => by simp at h
  | a :: l, h => by
    rw [List.takeWhile_cons] at h ⊢
    split
    · rename_i ha
      rw [if_pos ha] at h
      rw [List.length_cons, List.getD_cons_succ]
      exact tw_end (by simpa using h)
    · rename_i ha
      simpa using ha
theorem fn27no (j : Jn) (l : List Kp) (now : Int) (hl : l.length < 100000) (h : expOk j l now = false) :
    Fn Try.prog 27 [j.pv, ks l, pI now] (.pv (.tup [ks [], ks [], pI 1])) [] := by
  refine Run27 [] (by simp) ?_
  simp only [go_sem, Nat.reduceEqDiff, Nat.reduceBEq, Nat.reduceAdd, Nat.reduceMul, Nat.reduceSub, Nat.reduceLeDiff, Nat.reduceLT, reduceIte, reduceCtorEq, Int.reduceToNat, Int.reduceLE, Int.reduceLT, Int.reduceNeg, Bool.not_not, and_self, Bool.and_eq_false_iff, M27]
  refine runR_callf (by simp only [go_sem, Nat.reduceEqDiff, Nat.reduceBEq, Nat.reduceAdd, Nat.reduceMul, Nat.reduceSub, Nat.reduceLeDiff, Nat.reduceLT, reduceIte, reduceCtorEq, Int.reduceToNat, Int.reduceLE, Int.reduceLT, Int.reduceNeg, Bool.not_not, and_self, Bool.and_eq_false_iff]) (by simp only [go_sem, Nat.reduceEqDiff, Nat.reduceBEq, Nat.reduceAdd, Nat.reduceMul, Nat.reduceSub, Nat.reduceLeDiff, Nat.reduceLT, reduceIte, reduceCtorEq, Int.reduceToNat, Int.reduceLE, Int.reduceLT, Int.reduceNeg, Bool.not_not, and_self, Bool.and_eq_false_iff]) (fn24 j l hl) ⟨rfl, trivial⟩ trivial ?_
  simp only [go_sem, Nat.reduceEqDiff, Nat.reduceBEq, Nat.reduceAdd, Nat.reduceMul, Nat.reduceSub, Nat.reduceLeDiff, Nat.reduceLT, reduceIte, reduceCtorEq, Int.reduceToNat, Int.reduceLE, Int.reduceLT, Int.reduceNeg, Bool.not_not, and_self, Bool.and_eq_false_iff, checkJ_err, checkJ_err']
  refine runR_callgf (by simp only [go_sem, Nat.reduceEqDiff, Nat.reduceBEq, Nat.reduceAdd, Nat.reduceMul, Nat.reduceSub, Nat.reduceLeDiff, Nat.reduceLT, reduceIte, reduceCtorEq, Int.reduceToNat, Int.reduceLE, Int.reduceLT, Int.reduceNeg, Bool.not_not, and_self, Bool.and_eq_false_iff]) (by simp only [go_sem, Nat.reduceEqDiff, Nat.reduceBEq, Nat.reduceAdd, Nat.reduceMul, Nat.reduceSub, Nat.reduceLeDiff, Nat.reduceLT, reduceIte, reduceCtorEq, Int.reduceToNat, Int.reduceLE, Int.reduceLT, Int.reduceNeg, Bool.not_not, and_self, Bool.and_eq_false_iff]) (by simp only [go_sem, Nat.reduceEqDiff, Nat.reduceBEq, Nat.reduceAdd, Nat.reduceMul, Nat.reduceSub, Nat.reduceLeDiff, Nat.reduceLT, reduceIte, reduceCtorEq, Int.reduceToNat, Int.reduceLE, Int.reduceLT, Int.reduceNeg, Bool.not_not, and_self, Bool.and_eq_false_iff]) (fun _ => fn50 now) rfl ?_
  simp only [go_sem, Nat.reduceEqDiff, Nat.reduceBEq, Nat.reduceAdd, Nat.reduceMul, Nat.reduceSub, Nat.reduceLeDiff, Nat.reduceLT, reduceIte, reduceCtorEq, Int.reduceToNat, Int.reduceLE, Int.reduceLT, Int.reduceNeg, Bool.not_not, and_self, Bool.and_eq_false_iff]
  refine runR_callgf (by simp only [go_sem, Nat.reduceEqDiff, Nat.reduceBEq, Nat.reduceAdd, Nat.reduceMul, Nat.reduceSub, Nat.reduceLeDiff, Nat.reduceLT, reduceIte, reduceCtorEq, Int.reduceToNat, Int.reduceLE, Int.reduceLT, Int.reduceNeg, Bool.not_not, and_self, Bool.and_eq_false_iff]) (by simp only [go_sem, Nat.reduceEqDiff, Nat.reduceBEq, Nat.reduceAdd, Nat.reduceMul, Nat.reduceSub, Nat.reduceLeDiff, Nat.reduceLT, reduceIte, reduceCtorEq, Int.reduceToNat, Int.reduceLE, Int.reduceLT, Int.reduceNeg, Bool.not_not, and_self, Bool.and_eq_false_iff]) (by simp only [go_sem, Nat.reduceEqDiff, Nat.reduceBEq, Nat.reduceAdd, Nat.reduceMul, Nat.reduceSub, Nat.reduceLeDiff, Nat.reduceLT, reduceIte, reduceCtorEq, Int.reduceToNat, Int.reduceLE, Int.reduceLT, Int.reduceNeg, Bool.not_not, and_self, Bool.and_eq_false_iff]) (fun _ => fn46 l now (by omega)) rfl ?_
  simp only [go_sem, Nat.reduceEqDiff, Nat.reduceBEq, Nat.reduceAdd, Nat.reduceMul, Nat.reduceSub, Nat.reduceLeDiff, Nat.reduceLT, reduceIte, reduceCtorEq, Int.reduceToNat, Int.reduceLE, Int.reduceLT, Int.reduceNeg, Bool.not_not, and_self, Bool.and_eq_false_iff]
  refine ⟨fun _ => rfl, fun ⟨⟨h1, h2⟩, h3⟩ => ?_⟩
  simp [expOk, h1, h2, h3] at h
theorem fn27 (j : Jn) (l : List Kp) (now : Int) (hl : l.length < 100000) (h : expOk j l now = true) :
    Fn Try.prog 27 [j.pv, ks l, pI now] (.tup [.row 0 0 (l.length - nOver j now l), .pv (ks (l.take (nOver j now l))), .pv (pI 0)]) [(3, (l.drop (nOver j now l)).map Kp.pv)] := by
  refine Run27 [true, false, false] (by simp) ?_
  have h' : checkJ j l = true ∧ timeB now = true ∧ earlyK l now = false := by simp [expOk] at h; exact ⟨h.1.1, h.1.2, h.2⟩
  obtain ⟨h1, h2, h3⟩ := h'
  simp only [go_sem, Nat.reduceEqDiff, Nat.reduceBEq, Nat.reduceAdd, Nat.reduceMul, Nat.reduceSub, Nat.reduceLeDiff, Nat.reduceLT, reduceIte, reduceCtorEq, Int.reduceToNat, Int.reduceLE, Int.reduceLT, Int.reduceNeg, Bool.not_not, and_self, Bool.and_eq_false_iff, M27]
  refine runR_callf (by simp only [go_sem, Nat.reduceEqDiff, Nat.reduceBEq, Nat.reduceAdd, Nat.reduceMul, Nat.reduceSub, Nat.reduceLeDiff, Nat.reduceLT, reduceIte, reduceCtorEq, Int.reduceToNat, Int.reduceLE, Int.reduceLT, Int.reduceNeg, Bool.not_not, and_self, Bool.and_eq_false_iff]) (by simp only [go_sem, Nat.reduceEqDiff, Nat.reduceBEq, Nat.reduceAdd, Nat.reduceMul, Nat.reduceSub, Nat.reduceLeDiff, Nat.reduceLT, reduceIte, reduceCtorEq, Int.reduceToNat, Int.reduceLE, Int.reduceLT, Int.reduceNeg, Bool.not_not, and_self, Bool.and_eq_false_iff]) (fn24 j l hl) ⟨rfl, trivial⟩ trivial ?_
  simp only [go_sem, Nat.reduceEqDiff, Nat.reduceBEq, Nat.reduceAdd, Nat.reduceMul, Nat.reduceSub, Nat.reduceLeDiff, Nat.reduceLT, reduceIte, reduceCtorEq, Int.reduceToNat, Int.reduceLE, Int.reduceLT, Int.reduceNeg, Bool.not_not, and_self, Bool.and_eq_false_iff, checkJ_err, checkJ_err']
  refine runR_callgf (by simp only [go_sem, Nat.reduceEqDiff, Nat.reduceBEq, Nat.reduceAdd, Nat.reduceMul, Nat.reduceSub, Nat.reduceLeDiff, Nat.reduceLT, reduceIte, reduceCtorEq, Int.reduceToNat, Int.reduceLE, Int.reduceLT, Int.reduceNeg, Bool.not_not, and_self, Bool.and_eq_false_iff]) (by simp only [go_sem, Nat.reduceEqDiff, Nat.reduceBEq, Nat.reduceAdd, Nat.reduceMul, Nat.reduceSub, Nat.reduceLeDiff, Nat.reduceLT, reduceIte, reduceCtorEq, Int.reduceToNat, Int.reduceLE, Int.reduceLT, Int.reduceNeg, Bool.not_not, and_self, Bool.and_eq_false_iff]) (by simp only [go_sem, Nat.reduceEqDiff, Nat.reduceBEq, Nat.reduceAdd, Nat.reduceMul, Nat.reduceSub, Nat.reduceLeDiff, Nat.reduceLT, reduceIte, reduceCtorEq, Int.reduceToNat, Int.reduceLE, Int.reduceLT, Int.reduceNeg, Bool.not_not, and_self, Bool.and_eq_false_iff]) (fun _ => fn50 now) rfl ?_
  simp only [go_sem, Nat.reduceEqDiff, Nat.reduceBEq, Nat.reduceAdd, Nat.reduceMul, Nat.reduceSub, Nat.reduceLeDiff, Nat.reduceLT, reduceIte, reduceCtorEq, Int.reduceToNat, Int.reduceLE, Int.reduceLT, Int.reduceNeg, Bool.not_not, and_self, Bool.and_eq_false_iff]
  refine runR_callgf (by simp only [go_sem, Nat.reduceEqDiff, Nat.reduceBEq, Nat.reduceAdd, Nat.reduceMul, Nat.reduceSub, Nat.reduceLeDiff, Nat.reduceLT, reduceIte, reduceCtorEq, Int.reduceToNat, Int.reduceLE, Int.reduceLT, Int.reduceNeg, Bool.not_not, and_self, Bool.and_eq_false_iff]) (by simp only [go_sem, Nat.reduceEqDiff, Nat.reduceBEq, Nat.reduceAdd, Nat.reduceMul, Nat.reduceSub, Nat.reduceLeDiff, Nat.reduceLT, reduceIte, reduceCtorEq, Int.reduceToNat, Int.reduceLE, Int.reduceLT, Int.reduceNeg, Bool.not_not, and_self, Bool.and_eq_false_iff]) (by simp only [go_sem, Nat.reduceEqDiff, Nat.reduceBEq, Nat.reduceAdd, Nat.reduceMul, Nat.reduceSub, Nat.reduceLeDiff, Nat.reduceLT, reduceIte, reduceCtorEq, Int.reduceToNat, Int.reduceLE, Int.reduceLT, Int.reduceNeg, Bool.not_not, and_self, Bool.and_eq_false_iff]) (fun _ => fn46 l now (by omega)) rfl ?_
  simp only [go_sem, Nat.reduceEqDiff, Nat.reduceBEq, Nat.reduceAdd, Nat.reduceMul, Nat.reduceSub, Nat.reduceLeDiff, Nat.reduceLT, reduceIte, reduceCtorEq, Int.reduceToNat, Int.reduceLE, Int.reduceLT, Int.reduceNeg, Bool.not_not, and_self, Bool.and_eq_false_iff, h1, h2, h3]
  have hle := nOver_le j now l
  refine run_loop (T := Nat) (fun i => ⟨[(1, .pv (ks l)), (2, .pv (pI now)), (3, .ptr 3 0), (9, .pv (pI i))],
      [(3, .box [.pv (pS j.kind), .pv (pI j.parts), .pv (pI j.need), .pv (pI j.window)])]⟩)
    (fun i => i ≤ nOver j now l) (fun i => l.length - i) 0 rfl (Nat.zero_le _) ?_
  intro i hi
  obtain ⟨c1, c2, c3, c4⟩ := checkJ_parts h1
  have hw := mayJ_win c1
  by_cases hlt : i < l.length
  · have hat := fitsK_at (okTo_fits c3 _ (List.getElem_mem hlt))
    rw [← getD_get hlt] at hat
    by_cases hov : i < nOver j now l
    · have ho := tw_get hov
      simp only [isOver, decide_eq_true_eq] at ho
      simp only [go_sem, Nat.reduceEqDiff, Nat.reduceBEq, Nat.reduceAdd, Nat.reduceMul, Nat.reduceSub, Nat.reduceLeDiff, Nat.reduceLT, reduceIte, reduceCtorEq, Int.reduceToNat, Int.reduceLE, Int.reduceLT, Int.reduceNeg, Bool.not_not, and_self, Bool.and_eq_false_iff, wf_ks, getD_ks hlt, show (i : Int) < (l.length : Int) by omega, ho]
      refine ⟨by omega, by omega, i + 1, rfl, hov, by omega⟩
    · have e : i = nOver j now l := by omega
      have ho := tw_end (q := isOver j now) (l := l) (by unfold nOver at e; omega)
      have e' : (l.takeWhile (isOver j now)).length = i := e.symm
      rw [e'] at ho
      simp only [isOver, decide_eq_false_iff_not] at ho
      simp only [go_sem, Nat.reduceEqDiff, Nat.reduceBEq, Nat.reduceAdd, Nat.reduceMul, Nat.reduceSub, Nat.reduceLeDiff, Nat.reduceLT, reduceIte, reduceCtorEq, Int.reduceToNat, Int.reduceLE, Int.reduceLT, Int.reduceNeg, Bool.not_not, and_self, Bool.and_eq_false_iff, wf_ks, getD_ks hlt, show (i : Int) < (l.length : Int) by omega, ho, take_map_ks, drop_map_ks]
      subst e
      refine ⟨by omega, ⟨by omega, by omega⟩, by omega, runR_call (by simp only [go_sem, Nat.reduceEqDiff, Nat.reduceBEq, Nat.reduceAdd, Nat.reduceMul, Nat.reduceSub, Nat.reduceLeDiff, Nat.reduceLT, reduceIte, reduceCtorEq, Int.reduceToNat, Int.reduceLE, Int.reduceLT, Int.reduceNeg, Bool.not_not, and_self, Bool.and_eq_false_iff]) rfl (fn51 (l.drop (nOver j now l)) (by simp; omega)) (.inl rfl) trivial ?_⟩
      simp only [go_sem, Nat.reduceEqDiff, Nat.reduceBEq, Nat.reduceAdd, Nat.reduceMul, Nat.reduceSub, Nat.reduceLeDiff, Nat.reduceLT, reduceIte, reduceCtorEq, Int.reduceToNat, Int.reduceLE, Int.reduceLT, Int.reduceNeg, Bool.not_not, and_self, Bool.and_eq_false_iff]
      refine runR_call (by simp only [go_sem, Nat.reduceEqDiff, Nat.reduceBEq, Nat.reduceAdd, Nat.reduceMul, Nat.reduceSub, Nat.reduceLeDiff, Nat.reduceLT, reduceIte, reduceCtorEq, Int.reduceToNat, Int.reduceLE, Int.reduceLT, Int.reduceNeg, Bool.not_not, and_self, Bool.and_eq_false_iff]) rfl (fn51 (l.take (nOver j now l)) (by simp; omega)) (.inl rfl) trivial ?_
      simp only [go_sem, Nat.reduceEqDiff, Nat.reduceBEq, Nat.reduceAdd, Nat.reduceMul, Nat.reduceSub, Nat.reduceLeDiff, Nat.reduceLT, reduceIte, reduceCtorEq, Int.reduceToNat, Int.reduceLE, Int.reduceLT, Int.reduceNeg, Bool.not_not, and_self, Bool.and_eq_false_iff, take_len_map, List.length_drop, List.length_take, Nat.min_eq_left hle]
      simp [List.take_take]
  · have e : i = nOver j now l := by omega
    simp only [go_sem, Nat.reduceEqDiff, Nat.reduceBEq, Nat.reduceAdd, Nat.reduceMul, Nat.reduceSub, Nat.reduceLeDiff, Nat.reduceLT, reduceIte, reduceCtorEq, Int.reduceToNat, Int.reduceLE, Int.reduceLT, Int.reduceNeg, Bool.not_not, and_self, Bool.and_eq_false_iff, wf_ks, show ¬ (i : Int) < (l.length : Int) by omega, take_map_ks, drop_map_ks]
    subst e
    refine ⟨⟨by omega, by omega⟩, by omega, runR_call (by simp only [go_sem, Nat.reduceEqDiff, Nat.reduceBEq, Nat.reduceAdd, Nat.reduceMul, Nat.reduceSub, Nat.reduceLeDiff, Nat.reduceLT, reduceIte, reduceCtorEq, Int.reduceToNat, Int.reduceLE, Int.reduceLT, Int.reduceNeg, Bool.not_not, and_self, Bool.and_eq_false_iff]) rfl (fn51 (l.drop (nOver j now l)) (by simp; omega)) (.inl rfl) trivial ?_⟩
    simp only [go_sem, Nat.reduceEqDiff, Nat.reduceBEq, Nat.reduceAdd, Nat.reduceMul, Nat.reduceSub, Nat.reduceLeDiff, Nat.reduceLT, reduceIte, reduceCtorEq, Int.reduceToNat, Int.reduceLE, Int.reduceLT, Int.reduceNeg, Bool.not_not, and_self, Bool.and_eq_false_iff]
    refine runR_call (by simp only [go_sem, Nat.reduceEqDiff, Nat.reduceBEq, Nat.reduceAdd, Nat.reduceMul, Nat.reduceSub, Nat.reduceLeDiff, Nat.reduceLT, reduceIte, reduceCtorEq, Int.reduceToNat, Int.reduceLE, Int.reduceLT, Int.reduceNeg, Bool.not_not, and_self, Bool.and_eq_false_iff]) rfl (fn51 (l.take (nOver j now l)) (by simp; omega)) (.inl rfl) trivial ?_
    simp only [go_sem, Nat.reduceEqDiff, Nat.reduceBEq, Nat.reduceAdd, Nat.reduceMul, Nat.reduceSub, Nat.reduceLeDiff, Nat.reduceLT, reduceIte, reduceCtorEq, Int.reduceToNat, Int.reduceLE, Int.reduceLT, Int.reduceNeg, Bool.not_not, and_self, Bool.and_eq_false_iff, take_len_map, List.length_drop, List.length_take, Nat.min_eq_left hle]
    simp [List.take_take]
end Go.Vc
