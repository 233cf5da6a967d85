/- A part of the proofs of the seat Ytcjhccdbgphboaa: the contracts of functions, each proved out of its code. -/
import Derived.Test.YtcjhccdbgphboaaJg
namespace Go.Vc
open Go.Proofs
set_option linter.unusedSimpArgs false
set_option linter.unusedVariables false

def jAll (n : Nat) : Jn := ⟨sAll, n, 0, 100⟩
def kAt (n t i : Nat) (id : Int) : Kp := ⟨((i + t) % n : Nat), id, i⟩
def allStep (n t : Nat) (tw : Bool) (i : Nat) (s : List Kp × Int) : List Kp × Int :=
  bif tw && decide (i + 1 < n) then
    ((feedR (jAll n) (feedR (jAll n) s.1 (kAt n t i (s.2 + 1))).left (kAt n t i (s.2 + 1 + 1))).left, s.2 + 1 + 1)
  else ((feedR (jAll n) s.1 (kAt n t i (s.2 + 1))).left, s.2 + 1)
def allAt (n t : Nat) (tw : Bool) : Nat → List Kp × Int
  | 0 => ([], 0)
  | i + 1 => allStep n t tw i (allAt n t tw i)
def okFeed (r : FR) (n : Nat) (last : Bool) : Bool := decide (r.err = 0) && (bif last then decide (r.fired.length = n) else decide (r.fired.length = 0))
def okStep (n t : Nat) (tw : Bool) (i : Nat) : Bool :=
  decide (((allAt n t tw i).2 = if tw then 2 * (i : Int) else i)) && decide ((allAt n t tw i).1.length ≤ 12) &&
  bif tw && decide (i + 1 < n) then
    okFeed (feedR (jAll n) (allAt n t tw i).1 (kAt n t i ((allAt n t tw i).2 + 1))) n false &&
    okFeed (feedR (jAll n) (feedR (jAll n) (allAt n t tw i).1 (kAt n t i ((allAt n t tw i).2 + 1))).left (kAt n t i ((allAt n t tw i).2 + 1 + 1))) n false
  else okFeed (feedR (jAll n) (allAt n t tw i).1 (kAt n t i ((allAt n t tw i).2 + 1))) n (decide (i + 1 = n))
def okAll : Bool := (List.range 7).all fun n => (List.range n).all fun t => [true, false].all fun tw => (List.range n).all (okStep n t tw) && decide ((allAt n t tw n).1.length = if tw then n - 1 else 0)
theorem okAll_true : okAll = true := by decide +kernel
theorem okStep_at {n t i : Nat} (tw : Bool) (hn : n < 7) (ht : t < n) (hi : i < n) : okStep n t tw i = true := by
  have h := okAll_true
  simp only [okAll, List.all_eq_true, List.mem_range] at h
  have := h n hn t ht tw (by cases tw <;> simp)
  simp only [Bool.and_eq_true, List.all_eq_true, List.mem_range] at this
  exact this.1 i hi
theorem okEnd_at {n t : Nat} (tw : Bool) (hn : n < 7) (ht : t < n) : (allAt n t tw n).1.length = if tw then n - 1 else 0 := by
  have h := okAll_true
  simp only [okAll, List.all_eq_true, List.mem_range] at h
  have := h n hn t ht tw (by cases tw <;> simp)
  simp only [Bool.and_eq_true, List.all_eq_true, List.mem_range, decide_eq_true_eq] at this
  exact this.2
theorem tmod_nat (a b : Nat) : ((a : Int)).tmod (b : Int) = ((a % b : Nat) : Int) := by
  rw [Int.tmod_eq_emod_of_nonneg (by omega)]; rfl
theorem law8 (parts turn : Nat) (tw : Bool) (h1 : parts ≤ 255) (h2 : turn ≤ 255) : Fn Try.prog 8 [.sc (.int .u8 parts), .sc (.int .u8 turn), pB tw] (.pv (pB true)) [] := by
  refine Run8 [] (by simp) ?_
  have e6 : (parts : Int).tmod 6 = ((parts % 6 : Nat) : Int) := tmod_nat parts 6
  simp only [go_sem, Nat.reduceEqDiff, Nat.reduceBEq, Nat.reduceAdd, Nat.reduceMul, Nat.reduceSub, Nat.reduceLeDiff, Nat.reduceLT, reduceIte, reduceCtorEq, Int.reduceToNat, Int.reduceLE, Int.reduceLT, Int.reduceNeg, Int.toNat_natCast, Option.getD_some, List.take_length, List.getD_nil, Int.natCast_nonneg, List.length_map, Bool.not_not, and_self, Bool.and_eq_false_iff, Int.cast_ofNat_Int, Int.reduceAdd, Int.reduceSub, Int.reduceMul, Int.reduceEq, Int.reduceNe, M8, fAll, e6]
  have h6 : parts % 6 < 6 := Nat.mod_lt _ (by omega)
  generalize parts % 6 = m at *
  have em : (1 : Int) + (m : Int) = ((m + 1 : Nat) : Int) := by omega
  rw [em]
  generalize hn : m + 1 = n at *
  have htn : turn % n < n := Nat.mod_lt _ (by omega)
  refine ⟨by omega, by omega, run_loop (T := Nat) (fun i => ⟨[(1, .pv (.sc (.int .u8 turn))), (2, .pv (pB tw)), (7, .pv (pI n)), (8, .ptr 8 0), (9, .pv (ks (allAt n (turn % n) tw i).1)), (10, .pv (pU (allAt n (turn % n) tw i).2)), (11, .pv (pI i))],
      [(8, .box [.pv (pS sAll), .pv (pI n), .pv (pI 0), .pv (pI 100)])]⟩) (fun i => i ≤ n) (fun i => n - i) 0 ?_ (Nat.zero_le _) ?_⟩
  · rfl
  intro i hi
  by_cases hlt : i < n
  · have hp : ((i : Int) + (turn : Int)).tmod (n : Int) = (((i + turn % n) % n : Nat) : Int) := by
      rw [show (i : Int) + (turn : Int) = ((i + turn : Nat) : Int) by omega, tmod_nat, Nat.add_mod i turn n, Nat.add_mod i (turn % n) n, Nat.mod_mod]
    have hok := okStep_at tw (show n < 7 by omega) htn hlt
    generalize turn % n = t at *
    have hal : allAt n t tw (i + 1) = allStep n t tw i (allAt n t tw i) := rfl
    unfold okStep at hok
    unfold allStep at hal
    generalize allAt n t tw i = s at *
    obtain ⟨l, id⟩ := s
    simp only [Bool.and_eq_true, decide_eq_true_eq] at hok
    obtain ⟨⟨hid, hl12⟩, hok⟩ := hok
    have hid2 : 0 ≤ id ∧ id ≤ 20 := by
      split at hid <;> omega
    simp only [go_sem, Nat.reduceEqDiff, Nat.reduceBEq, Nat.reduceAdd, Nat.reduceMul, Nat.reduceSub, Nat.reduceLeDiff, Nat.reduceLT, reduceIte, reduceCtorEq, Int.reduceToNat, Int.reduceLE, Int.reduceLT, Int.reduceNeg, Int.toNat_natCast, Option.getD_some, List.take_length, List.getD_nil, Int.natCast_nonneg, List.length_map, Bool.not_not, and_self, Bool.and_eq_false_iff, Int.cast_ofNat_Int, Int.reduceAdd, Int.reduceSub, Int.reduceMul, Int.reduceEq, Int.reduceNe, B8_0, show (i : Int) < (n : Int) by omega, hp]
    refine ⟨by omega, by omega, by omega, (by (repeat' (first | intro _ | apply And.intro)) <;> (first | assumption | omega | (simp_all; done) | (simp_all; omega))), fun hh => ⟨by omega, ?_⟩, fun hh => ⟨by omega, ?_⟩⟩
    · have hb : (tw && decide (i + 1 < n)) = true := by rw [hh.1]; simp; omega
      rw [hb] at hok hal
      simp only [cond_true, Bool.and_eq_true, okFeed, decide_eq_true_eq, cond_false] at hok hal
      obtain ⟨⟨k1, k2⟩, k3, k4⟩ := hok
      have f1 := fn19 (jAll n) l (kAt n t i (id + 1)) (by omega)
      have f2 := fn19 (jAll n) (feedR (jAll n) l (kAt n t i (id + 1))).left (kAt n t i (id + 1 + 1)) (by have := (feedR_len (jAll n) l (kAt n t i (id + 1))).1; omega)
      generalize feedR (jAll n) l (kAt n t i (id + 1)) = r at *
      refine runR_call (by simp only [go_sem, Nat.reduceEqDiff, Nat.reduceBEq, Nat.reduceAdd, Nat.reduceMul, Nat.reduceSub, Nat.reduceLeDiff, Nat.reduceLT, reduceIte, reduceCtorEq, Int.reduceToNat, Int.reduceLE, Int.reduceLT, Int.reduceNeg, Int.toNat_natCast, Option.getD_some, List.take_length, List.getD_nil, Int.natCast_nonneg, List.length_map, Bool.not_not, and_self, Bool.and_eq_false_iff, Int.cast_ofNat_Int, Int.reduceAdd, Int.reduceSub, Int.reduceMul, Int.reduceEq, Int.reduceNe]) rfl (f1) (.inl rfl) trivial ?_
      have k2' : (r.fired.length : Int) = 0 := by omega
      simp only [go_sem, Nat.reduceEqDiff, Nat.reduceBEq, Nat.reduceAdd, Nat.reduceMul, Nat.reduceSub, Nat.reduceLeDiff, Nat.reduceLT, reduceIte, reduceCtorEq, Int.reduceToNat, Int.reduceLE, Int.reduceLT, Int.reduceNeg, Int.toNat_natCast, Option.getD_some, List.take_length, List.getD_nil, Int.natCast_nonneg, List.length_map, Bool.not_not, and_self, Bool.and_eq_false_iff, Int.cast_ofNat_Int, Int.reduceAdd, Int.reduceSub, Int.reduceMul, Int.reduceEq, Int.reduceNe, k1, k2']
      refine ⟨by omega, ?_⟩
      generalize feedR (jAll n) r.left (kAt n t i (id + 1 + 1)) = R at *
      refine runR_call (by simp only [go_sem, Nat.reduceEqDiff, Nat.reduceBEq, Nat.reduceAdd, Nat.reduceMul, Nat.reduceSub, Nat.reduceLeDiff, Nat.reduceLT, reduceIte, reduceCtorEq, Int.reduceToNat, Int.reduceLE, Int.reduceLT, Int.reduceNeg, Int.toNat_natCast, Option.getD_some, List.take_length, List.getD_nil, Int.natCast_nonneg, List.length_map, Bool.not_not, and_self, Bool.and_eq_false_iff, Int.cast_ofNat_Int, Int.reduceAdd, Int.reduceSub, Int.reduceMul, Int.reduceEq, Int.reduceNe]) rfl (f2) (.inl rfl) trivial ?_
      have k4' : (R.fired.length : Int) = 0 := by omega
      simp only [go_sem, Nat.reduceEqDiff, Nat.reduceBEq, Nat.reduceAdd, Nat.reduceMul, Nat.reduceSub, Nat.reduceLeDiff, Nat.reduceLT, reduceIte, reduceCtorEq, Int.reduceToNat, Int.reduceLE, Int.reduceLT, Int.reduceNeg, Int.toNat_natCast, Option.getD_some, List.take_length, List.getD_nil, Int.natCast_nonneg, List.length_map, Bool.not_not, and_self, Bool.and_eq_false_iff, Int.cast_ofNat_Int, Int.reduceAdd, Int.reduceSub, Int.reduceMul, Int.reduceEq, Int.reduceNe, k3, k4', show ¬ (0 : Int) = (n : Int) by omega, show ¬ (i : Int) = (n : Int) - 1 by omega]
      refine ⟨by omega, by omega, i + 1, ?_, hlt, by omega⟩
      rw [hal]; rfl
    · have hb : (tw && decide (i + 1 < n)) = false := by
        rcases hh with hh | hh
        · rw [hh]; rfl
        · simp; omega
      rw [hb] at hok hal
      simp only [cond_false] at hok hal
      have f1 := fn19 (jAll n) l (kAt n t i (id + 1)) (by omega)
      generalize feedR (jAll n) l (kAt n t i (id + 1)) = R at *
      by_cases hlast : i + 1 = n
      · simp only [hlast, decide_true, okFeed, cond_true, Bool.and_eq_true, decide_eq_true_eq] at hok
        obtain ⟨k1, k2⟩ := hok
        refine runR_call (by simp only [go_sem, Nat.reduceEqDiff, Nat.reduceBEq, Nat.reduceAdd, Nat.reduceMul, Nat.reduceSub, Nat.reduceLeDiff, Nat.reduceLT, reduceIte, reduceCtorEq, Int.reduceToNat, Int.reduceLE, Int.reduceLT, Int.reduceNeg, Int.toNat_natCast, Option.getD_some, List.take_length, List.getD_nil, Int.natCast_nonneg, List.length_map, Bool.not_not, and_self, Bool.and_eq_false_iff, Int.cast_ofNat_Int, Int.reduceAdd, Int.reduceSub, Int.reduceMul, Int.reduceEq, Int.reduceNe]) rfl (f1) (.inl rfl) trivial ?_
        have k2' : (R.fired.length : Int) = (n : Int) := by omega
        simp only [go_sem, Nat.reduceEqDiff, Nat.reduceBEq, Nat.reduceAdd, Nat.reduceMul, Nat.reduceSub, Nat.reduceLeDiff, Nat.reduceLT, reduceIte, reduceCtorEq, Int.reduceToNat, Int.reduceLE, Int.reduceLT, Int.reduceNeg, Int.toNat_natCast, Option.getD_some, List.take_length, List.getD_nil, Int.natCast_nonneg, List.length_map, Bool.not_not, and_self, Bool.and_eq_false_iff, Int.cast_ofNat_Int, Int.reduceAdd, Int.reduceSub, Int.reduceMul, Int.reduceEq, Int.reduceNe, k1, k2', eq_true (show (i : Int) = (n : Int) - 1 by omega), show ¬ (i : Int) < (n : Int) - 1 by omega]
        refine ⟨by omega, (by (repeat' (first | intro _ | apply And.intro)) <;> (first | assumption | omega | (simp_all; done) | (simp_all; omega))), by omega, i + 1, ?_, hlt, by omega⟩
        rw [hal]; rfl
      · simp only [hlast, decide_false, okFeed, cond_false, Bool.and_eq_true, decide_eq_true_eq] at hok
        obtain ⟨k1, k2⟩ := hok
        refine runR_call (by simp only [go_sem, Nat.reduceEqDiff, Nat.reduceBEq, Nat.reduceAdd, Nat.reduceMul, Nat.reduceSub, Nat.reduceLeDiff, Nat.reduceLT, reduceIte, reduceCtorEq, Int.reduceToNat, Int.reduceLE, Int.reduceLT, Int.reduceNeg, Int.toNat_natCast, Option.getD_some, List.take_length, List.getD_nil, Int.natCast_nonneg, List.length_map, Bool.not_not, and_self, Bool.and_eq_false_iff, Int.cast_ofNat_Int, Int.reduceAdd, Int.reduceSub, Int.reduceMul, Int.reduceEq, Int.reduceNe]) rfl (f1) (.inl rfl) trivial ?_
        have k2' : (R.fired.length : Int) = 0 := by omega
        simp only [go_sem, Nat.reduceEqDiff, Nat.reduceBEq, Nat.reduceAdd, Nat.reduceMul, Nat.reduceSub, Nat.reduceLeDiff, Nat.reduceLT, reduceIte, reduceCtorEq, Int.reduceToNat, Int.reduceLE, Int.reduceLT, Int.reduceNeg, Int.toNat_natCast, Option.getD_some, List.take_length, List.getD_nil, Int.natCast_nonneg, List.length_map, Bool.not_not, and_self, Bool.and_eq_false_iff, Int.cast_ofNat_Int, Int.reduceAdd, Int.reduceSub, Int.reduceMul, Int.reduceEq, Int.reduceNe, k1, k2', show ¬ (0 : Int) = (n : Int) by omega, show ¬ (i : Int) = (n : Int) - 1 by omega]
        refine ⟨by omega, by omega, i + 1, ?_, hlt, by omega⟩
        rw [hal]; rfl
  · have e : i = n := by omega
    subst e
    have hend := okEnd_at tw (show i < 7 by omega) htn
    simp only [go_sem, Nat.reduceEqDiff, Nat.reduceBEq, Nat.reduceAdd, Nat.reduceMul, Nat.reduceSub, Nat.reduceLeDiff, Nat.reduceLT, reduceIte, reduceCtorEq, Int.reduceToNat, Int.reduceLE, Int.reduceLT, Int.reduceNeg, Int.toNat_natCast, Option.getD_some, List.take_length, List.getD_nil, Int.natCast_nonneg, List.length_map, Bool.not_not, and_self, Bool.and_eq_false_iff, Int.cast_ofNat_Int, Int.reduceAdd, Int.reduceSub, Int.reduceMul, Int.reduceEq, Int.reduceNe, B8_0, show ¬ (i : Int) < (i : Int) by omega]
    simp only [go_sem, Nat.reduceEqDiff, Nat.reduceBEq, Nat.reduceAdd, Nat.reduceMul, Nat.reduceSub, Nat.reduceLeDiff, Nat.reduceLT, reduceIte, reduceCtorEq, Int.reduceToNat, Int.reduceLE, Int.reduceLT, Int.reduceNeg, Int.toNat_natCast, Option.getD_some, List.take_length, List.getD_nil, Int.natCast_nonneg, List.length_map, Bool.not_not, and_self, Bool.and_eq_false_iff, Int.cast_ofNat_Int, Int.reduceAdd, Int.reduceSub, Int.reduceMul, Int.reduceEq, Int.reduceNe, R8_0]
    refine ⟨fun h => ⟨by omega, ?_⟩, fun h => ?_⟩
    · have he : ((allAt i (turn % i) tw i).1.length : Int) = (i : Int) - 1 := by rw [hend, if_pos h]; omega
      simp only [go_sem, Nat.reduceEqDiff, Nat.reduceBEq, Nat.reduceAdd, Nat.reduceMul, Nat.reduceSub, Nat.reduceLeDiff, Nat.reduceLT, reduceIte, reduceCtorEq, Int.reduceToNat, Int.reduceLE, Int.reduceLT, Int.reduceNeg, Int.toNat_natCast, Option.getD_some, List.take_length, List.getD_nil, Int.natCast_nonneg, List.length_map, Bool.not_not, and_self, Bool.and_eq_false_iff, Int.cast_ofNat_Int, Int.reduceAdd, Int.reduceSub, Int.reduceMul, Int.reduceEq, Int.reduceNe, he]
      refine runR_callgf (by simp only [go_sem, Nat.reduceEqDiff, Nat.reduceBEq, Nat.reduceAdd, Nat.reduceMul, Nat.reduceSub, Nat.reduceLeDiff, Nat.reduceLT, reduceIte, reduceCtorEq, Int.reduceToNat, Int.reduceLE, Int.reduceLT, Int.reduceNeg, Int.toNat_natCast, Option.getD_some, List.take_length, List.getD_nil, Int.natCast_nonneg, List.length_map, Bool.not_not, and_self, Bool.and_eq_false_iff, Int.cast_ofNat_Int, Int.reduceAdd, Int.reduceSub, Int.reduceMul, Int.reduceEq, Int.reduceNe]) (by simp only [go_sem, Nat.reduceEqDiff, Nat.reduceBEq, Nat.reduceAdd, Nat.reduceMul, Nat.reduceSub, Nat.reduceLeDiff, Nat.reduceLT, reduceIte, reduceCtorEq, Int.reduceToNat, Int.reduceLE, Int.reduceLT, Int.reduceNeg, Int.toNat_natCast, Option.getD_some, List.take_length, List.getD_nil, Int.natCast_nonneg, List.length_map, Bool.not_not, and_self, Bool.and_eq_false_iff, Int.cast_ofNat_Int, Int.reduceAdd, Int.reduceSub, Int.reduceMul, Int.reduceEq, Int.reduceNe]) (by simp only [go_sem, Nat.reduceEqDiff, Nat.reduceBEq, Nat.reduceAdd, Nat.reduceMul, Nat.reduceSub, Nat.reduceLeDiff, Nat.reduceLT, reduceIte, reduceCtorEq, Int.reduceToNat, Int.reduceLE, Int.reduceLT, Int.reduceNeg, Int.toNat_natCast, Option.getD_some, List.take_length, List.getD_nil, Int.natCast_nonneg, List.length_map, Bool.not_not, and_self, Bool.and_eq_false_iff, Int.cast_ofNat_Int, Int.reduceAdd, Int.reduceSub, Int.reduceMul, Int.reduceEq, Int.reduceNe]) (fun _ => fn26) rfl ?_
      simp only [go_sem, Nat.reduceEqDiff, Nat.reduceBEq, Nat.reduceAdd, Nat.reduceMul, Nat.reduceSub, Nat.reduceLeDiff, Nat.reduceLT, reduceIte, reduceCtorEq, Int.reduceToNat, Int.reduceLE, Int.reduceLT, Int.reduceNeg, Int.toNat_natCast, Option.getD_some, List.take_length, List.getD_nil, Int.natCast_nonneg, List.length_map, Bool.not_not, and_self, Bool.and_eq_false_iff, Int.cast_ofNat_Int, Int.reduceAdd, Int.reduceSub, Int.reduceMul, Int.reduceEq, Int.reduceNe]
    · have he : ((allAt i (turn % i) tw i).1.length : Int) = 0 := by rw [hend, h]; rfl
      simp only [go_sem, Nat.reduceEqDiff, Nat.reduceBEq, Nat.reduceAdd, Nat.reduceMul, Nat.reduceSub, Nat.reduceLeDiff, Nat.reduceLT, reduceIte, reduceCtorEq, Int.reduceToNat, Int.reduceLE, Int.reduceLT, Int.reduceNeg, Int.toNat_natCast, Option.getD_some, List.take_length, List.getD_nil, Int.natCast_nonneg, List.length_map, Bool.not_not, and_self, Bool.and_eq_false_iff, Int.cast_ofNat_Int, Int.reduceAdd, Int.reduceSub, Int.reduceMul, Int.reduceEq, Int.reduceNe, he]
      refine runR_callgf (by simp only [go_sem, Nat.reduceEqDiff, Nat.reduceBEq, Nat.reduceAdd, Nat.reduceMul, Nat.reduceSub, Nat.reduceLeDiff, Nat.reduceLT, reduceIte, reduceCtorEq, Int.reduceToNat, Int.reduceLE, Int.reduceLT, Int.reduceNeg, Int.toNat_natCast, Option.getD_some, List.take_length, List.getD_nil, Int.natCast_nonneg, List.length_map, Bool.not_not, and_self, Bool.and_eq_false_iff, Int.cast_ofNat_Int, Int.reduceAdd, Int.reduceSub, Int.reduceMul, Int.reduceEq, Int.reduceNe]) (by simp only [go_sem, Nat.reduceEqDiff, Nat.reduceBEq, Nat.reduceAdd, Nat.reduceMul, Nat.reduceSub, Nat.reduceLeDiff, Nat.reduceLT, reduceIte, reduceCtorEq, Int.reduceToNat, Int.reduceLE, Int.reduceLT, Int.reduceNeg, Int.toNat_natCast, Option.getD_some, List.take_length, List.getD_nil, Int.natCast_nonneg, List.length_map, Bool.not_not, and_self, Bool.and_eq_false_iff, Int.cast_ofNat_Int, Int.reduceAdd, Int.reduceSub, Int.reduceMul, Int.reduceEq, Int.reduceNe]) (by simp only [go_sem, Nat.reduceEqDiff, Nat.reduceBEq, Nat.reduceAdd, Nat.reduceMul, Nat.reduceSub, Nat.reduceLeDiff, Nat.reduceLT, reduceIte, reduceCtorEq, Int.reduceToNat, Int.reduceLE, Int.reduceLT, Int.reduceNeg, Int.toNat_natCast, Option.getD_some, List.take_length, List.getD_nil, Int.natCast_nonneg, List.length_map, Bool.not_not, and_self, Bool.and_eq_false_iff, Int.cast_ofNat_Int, Int.reduceAdd, Int.reduceSub, Int.reduceMul, Int.reduceEq, Int.reduceNe]) (fun _ => fn26) rfl ?_
      simp only [go_sem, Nat.reduceEqDiff, Nat.reduceBEq, Nat.reduceAdd, Nat.reduceMul, Nat.reduceSub, Nat.reduceLeDiff, Nat.reduceLT, reduceIte, reduceCtorEq, Int.reduceToNat, Int.reduceLE, Int.reduceLT, Int.reduceNeg, Int.toNat_natCast, Option.getD_some, List.take_length, List.getD_nil, Int.natCast_nonneg, List.length_map, Bool.not_not, and_self, Bool.and_eq_false_iff, Int.cast_ofNat_Int, Int.reduceAdd, Int.reduceSub, Int.reduceMul, Int.reduceEq, Int.reduceNe]
end Go.Vc
