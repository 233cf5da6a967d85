/- A part of the proofs of the seat Ytcjhccdbgphboaa: the contracts of functions, each proved out of its code. -/
import Derived.Test.YtcjhccdbgphboaaIc
namespace Go.Vc
open Go.Proofs
set_option linter.unusedSimpArgs false
set_option linter.unusedVariables false

def jA : Jn := ⟨sAll, 2, 0, 9⟩
def nK (n : Int) : Vl := ⟨true, n, ⟨#[]⟩⟩
theorem iw1 : feedI jA [] (nK 1) ⟨0, 1, 0⟩ = ⟨[⟨nK 1, [⟨0, 1, 0⟩]⟩], [], [], 0⟩ := by decide +kernel
theorem iw2 : feedI jA [⟨nK 1, [⟨0, 1, 0⟩]⟩] (nK 2) ⟨0, 2, 0⟩ = ⟨[⟨nK 1, [⟨0, 1, 0⟩]⟩, ⟨nK 2, [⟨0, 2, 0⟩]⟩], [], [], 0⟩ := by decide +kernel
theorem iw3 : feedI jA [⟨nK 1, [⟨0, 1, 0⟩]⟩, ⟨nK 2, [⟨0, 2, 0⟩]⟩] (nK 1) ⟨1, 3, 0⟩ = ⟨[⟨nK 2, [⟨0, 2, 0⟩]⟩], [⟨0, 1, 0⟩, ⟨1, 3, 0⟩], [], 0⟩ := by decide +kernel
theorem iw4 : feedI jA [⟨nK 2, [⟨0, 2, 0⟩]⟩] (nK 7) ⟨0, 2, 0⟩ = ⟨[], [], [], 5⟩ := by decide +kernel
theorem fn33 : Fn Try.prog 33 [] (.pv (pB true)) [] := by
  refine Run33 [] (by simp) ?_
  simp only [go_sem, Nat.reduceEqDiff, Nat.reduceBEq, Nat.reduceAdd, Nat.reduceMul, Nat.reduceSub, Nat.reduceLeDiff, Nat.reduceLT, reduceIte, reduceCtorEq, Int.reduceToNat, Int.reduceLE, Int.reduceLT, Int.reduceNeg, Bool.not_not, and_self, Bool.and_eq_false_iff, Int.cast_ofNat_Int, Int.reduceAdd, Int.reduceSub, Int.reduceMul, Int.reduceEq, Int.reduceNe, M33, fAll]
  have h1 := fn30 jA [] (nK 1) ⟨0, 1, 0⟩ (by simp) (by simp)
  have h2 := fn30 jA [⟨nK 1, [⟨0, 1, 0⟩]⟩] (nK 2) ⟨0, 2, 0⟩ (by simp) (by simp)
  have h3 := fn30 jA [⟨nK 1, [⟨0, 1, 0⟩]⟩, ⟨nK 2, [⟨0, 2, 0⟩]⟩] (nK 1) ⟨1, 3, 0⟩ (by simp) (by simp)
  have h4 := fn30 jA [⟨nK 2, [⟨0, 2, 0⟩]⟩] (nK 7) ⟨0, 2, 0⟩ (by simp) (by simp)
  rw [iw1] at h1
  rw [iw2] at h2
  rw [iw3] at h3
  rw [iw4] at h4
  refine runR_callf (by simp only [go_sem, Nat.reduceEqDiff, Nat.reduceBEq, Nat.reduceAdd, Nat.reduceMul, Nat.reduceSub, Nat.reduceLeDiff, Nat.reduceLT, reduceIte, reduceCtorEq, Int.reduceToNat, Int.reduceLE, Int.reduceLT, Int.reduceNeg, Bool.not_not, and_self, Bool.and_eq_false_iff, Int.cast_ofNat_Int, Int.reduceAdd, Int.reduceSub, Int.reduceMul, Int.reduceEq, Int.reduceNe]) (by simp only [go_sem, Nat.reduceEqDiff, Nat.reduceBEq, Nat.reduceAdd, Nat.reduceMul, Nat.reduceSub, Nat.reduceLeDiff, Nat.reduceLT, reduceIte, reduceCtorEq, Int.reduceToNat, Int.reduceLE, Int.reduceLT, Int.reduceNeg, Bool.not_not, and_self, Bool.and_eq_false_iff, Int.cast_ofNat_Int, Int.reduceAdd, Int.reduceSub, Int.reduceMul, Int.reduceEq, Int.reduceNe]) (fn42 1) ⟨rfl, trivial⟩ trivial ?_
  simp only [go_sem, Nat.reduceEqDiff, Nat.reduceBEq, Nat.reduceAdd, Nat.reduceMul, Nat.reduceSub, Nat.reduceLeDiff, Nat.reduceLT, reduceIte, reduceCtorEq, Int.reduceToNat, Int.reduceLE, Int.reduceLT, Int.reduceNeg, Bool.not_not, and_self, Bool.and_eq_false_iff, Int.cast_ofNat_Int, Int.reduceAdd, Int.reduceSub, Int.reduceMul, Int.reduceEq, Int.reduceNe]
  refine runR_call (by simp only [go_sem, Nat.reduceEqDiff, Nat.reduceBEq, Nat.reduceAdd, Nat.reduceMul, Nat.reduceSub, Nat.reduceLeDiff, Nat.reduceLT, reduceIte, reduceCtorEq, Int.reduceToNat, Int.reduceLE, Int.reduceLT, Int.reduceNeg, Bool.not_not, and_self, Bool.and_eq_false_iff, Int.cast_ofNat_Int, Int.reduceAdd, Int.reduceSub, Int.reduceMul, Int.reduceEq, Int.reduceNe]) rfl (h1) (.inl rfl) trivial ?_
  simp only [go_sem, Nat.reduceEqDiff, Nat.reduceBEq, Nat.reduceAdd, Nat.reduceMul, Nat.reduceSub, Nat.reduceLeDiff, Nat.reduceLT, reduceIte, reduceCtorEq, Int.reduceToNat, Int.reduceLE, Int.reduceLT, Int.reduceNeg, Bool.not_not, and_self, Bool.and_eq_false_iff, Int.cast_ofNat_Int, Int.reduceAdd, Int.reduceSub, Int.reduceMul, Int.reduceEq, Int.reduceNe]
  refine runR_callf (by simp only [go_sem, Nat.reduceEqDiff, Nat.reduceBEq, Nat.reduceAdd, Nat.reduceMul, Nat.reduceSub, Nat.reduceLeDiff, Nat.reduceLT, reduceIte, reduceCtorEq, Int.reduceToNat, Int.reduceLE, Int.reduceLT, Int.reduceNeg, Bool.not_not, and_self, Bool.and_eq_false_iff, Int.cast_ofNat_Int, Int.reduceAdd, Int.reduceSub, Int.reduceMul, Int.reduceEq, Int.reduceNe]) (by simp only [go_sem, Nat.reduceEqDiff, Nat.reduceBEq, Nat.reduceAdd, Nat.reduceMul, Nat.reduceSub, Nat.reduceLeDiff, Nat.reduceLT, reduceIte, reduceCtorEq, Int.reduceToNat, Int.reduceLE, Int.reduceLT, Int.reduceNeg, Bool.not_not, and_self, Bool.and_eq_false_iff, Int.cast_ofNat_Int, Int.reduceAdd, Int.reduceSub, Int.reduceMul, Int.reduceEq, Int.reduceNe]) (fn42 2) ⟨rfl, trivial⟩ trivial ?_
  simp only [go_sem, Nat.reduceEqDiff, Nat.reduceBEq, Nat.reduceAdd, Nat.reduceMul, Nat.reduceSub, Nat.reduceLeDiff, Nat.reduceLT, reduceIte, reduceCtorEq, Int.reduceToNat, Int.reduceLE, Int.reduceLT, Int.reduceNeg, Bool.not_not, and_self, Bool.and_eq_false_iff, Int.cast_ofNat_Int, Int.reduceAdd, Int.reduceSub, Int.reduceMul, Int.reduceEq, Int.reduceNe]
  refine runR_call (by simp only [go_sem, Nat.reduceEqDiff, Nat.reduceBEq, Nat.reduceAdd, Nat.reduceMul, Nat.reduceSub, Nat.reduceLeDiff, Nat.reduceLT, reduceIte, reduceCtorEq, Int.reduceToNat, Int.reduceLE, Int.reduceLT, Int.reduceNeg, Bool.not_not, and_self, Bool.and_eq_false_iff, Int.cast_ofNat_Int, Int.reduceAdd, Int.reduceSub, Int.reduceMul, Int.reduceEq, Int.reduceNe]) rfl (h2) (.inl rfl) trivial ?_
  simp only [go_sem, Nat.reduceEqDiff, Nat.reduceBEq, Nat.reduceAdd, Nat.reduceMul, Nat.reduceSub, Nat.reduceLeDiff, Nat.reduceLT, reduceIte, reduceCtorEq, Int.reduceToNat, Int.reduceLE, Int.reduceLT, Int.reduceNeg, Bool.not_not, and_self, Bool.and_eq_false_iff, Int.cast_ofNat_Int, Int.reduceAdd, Int.reduceSub, Int.reduceMul, Int.reduceEq, Int.reduceNe]
  refine runR_callf (by simp only [go_sem, Nat.reduceEqDiff, Nat.reduceBEq, Nat.reduceAdd, Nat.reduceMul, Nat.reduceSub, Nat.reduceLeDiff, Nat.reduceLT, reduceIte, reduceCtorEq, Int.reduceToNat, Int.reduceLE, Int.reduceLT, Int.reduceNeg, Bool.not_not, and_self, Bool.and_eq_false_iff, Int.cast_ofNat_Int, Int.reduceAdd, Int.reduceSub, Int.reduceMul, Int.reduceEq, Int.reduceNe]) (by simp only [go_sem, Nat.reduceEqDiff, Nat.reduceBEq, Nat.reduceAdd, Nat.reduceMul, Nat.reduceSub, Nat.reduceLeDiff, Nat.reduceLT, reduceIte, reduceCtorEq, Int.reduceToNat, Int.reduceLE, Int.reduceLT, Int.reduceNeg, Bool.not_not, and_self, Bool.and_eq_false_iff, Int.cast_ofNat_Int, Int.reduceAdd, Int.reduceSub, Int.reduceMul, Int.reduceEq, Int.reduceNe]) (fn42 1) ⟨rfl, trivial⟩ trivial ?_
  simp only [go_sem, Nat.reduceEqDiff, Nat.reduceBEq, Nat.reduceAdd, Nat.reduceMul, Nat.reduceSub, Nat.reduceLeDiff, Nat.reduceLT, reduceIte, reduceCtorEq, Int.reduceToNat, Int.reduceLE, Int.reduceLT, Int.reduceNeg, Bool.not_not, and_self, Bool.and_eq_false_iff, Int.cast_ofNat_Int, Int.reduceAdd, Int.reduceSub, Int.reduceMul, Int.reduceEq, Int.reduceNe]
  refine runR_call (by simp only [go_sem, Nat.reduceEqDiff, Nat.reduceBEq, Nat.reduceAdd, Nat.reduceMul, Nat.reduceSub, Nat.reduceLeDiff, Nat.reduceLT, reduceIte, reduceCtorEq, Int.reduceToNat, Int.reduceLE, Int.reduceLT, Int.reduceNeg, Bool.not_not, and_self, Bool.and_eq_false_iff, Int.cast_ofNat_Int, Int.reduceAdd, Int.reduceSub, Int.reduceMul, Int.reduceEq, Int.reduceNe]) rfl (h3) (.inl rfl) trivial ?_
  simp only [go_sem, Nat.reduceEqDiff, Nat.reduceBEq, Nat.reduceAdd, Nat.reduceMul, Nat.reduceSub, Nat.reduceLeDiff, Nat.reduceLT, reduceIte, reduceCtorEq, Int.reduceToNat, Int.reduceLE, Int.reduceLT, Int.reduceNeg, Bool.not_not, and_self, Bool.and_eq_false_iff, Int.cast_ofNat_Int, Int.reduceAdd, Int.reduceSub, Int.reduceMul, Int.reduceEq, Int.reduceNe]
  refine runR_callf (by simp only [go_sem, Nat.reduceEqDiff, Nat.reduceBEq, Nat.reduceAdd, Nat.reduceMul, Nat.reduceSub, Nat.reduceLeDiff, Nat.reduceLT, reduceIte, reduceCtorEq, Int.reduceToNat, Int.reduceLE, Int.reduceLT, Int.reduceNeg, Bool.not_not, and_self, Bool.and_eq_false_iff, Int.cast_ofNat_Int, Int.reduceAdd, Int.reduceSub, Int.reduceMul, Int.reduceEq, Int.reduceNe]) (by simp only [go_sem, Nat.reduceEqDiff, Nat.reduceBEq, Nat.reduceAdd, Nat.reduceMul, Nat.reduceSub, Nat.reduceLeDiff, Nat.reduceLT, reduceIte, reduceCtorEq, Int.reduceToNat, Int.reduceLE, Int.reduceLT, Int.reduceNeg, Bool.not_not, and_self, Bool.and_eq_false_iff, Int.cast_ofNat_Int, Int.reduceAdd, Int.reduceSub, Int.reduceMul, Int.reduceEq, Int.reduceNe]) (fn42 7) ⟨rfl, trivial⟩ trivial ?_
  simp only [go_sem, Nat.reduceEqDiff, Nat.reduceBEq, Nat.reduceAdd, Nat.reduceMul, Nat.reduceSub, Nat.reduceLeDiff, Nat.reduceLT, reduceIte, reduceCtorEq, Int.reduceToNat, Int.reduceLE, Int.reduceLT, Int.reduceNeg, Bool.not_not, and_self, Bool.and_eq_false_iff, Int.cast_ofNat_Int, Int.reduceAdd, Int.reduceSub, Int.reduceMul, Int.reduceEq, Int.reduceNe]
  refine runR_call (by simp only [go_sem, Nat.reduceEqDiff, Nat.reduceBEq, Nat.reduceAdd, Nat.reduceMul, Nat.reduceSub, Nat.reduceLeDiff, Nat.reduceLT, reduceIte, reduceCtorEq, Int.reduceToNat, Int.reduceLE, Int.reduceLT, Int.reduceNeg, Bool.not_not, and_self, Bool.and_eq_false_iff, Int.cast_ofNat_Int, Int.reduceAdd, Int.reduceSub, Int.reduceMul, Int.reduceEq, Int.reduceNe]) rfl (h4) (.inl rfl) trivial ?_
  simp only [go_sem, Nat.reduceEqDiff, Nat.reduceBEq, Nat.reduceAdd, Nat.reduceMul, Nat.reduceSub, Nat.reduceLeDiff, Nat.reduceLT, reduceIte, reduceCtorEq, Int.reduceToNat, Int.reduceLE, Int.reduceLT, Int.reduceNeg, Bool.not_not, and_self, Bool.and_eq_false_iff, Int.cast_ofNat_Int, Int.reduceAdd, Int.reduceSub, Int.reduceMul, Int.reduceEq, Int.reduceNe]
/-! the document's -/
theorem ordV_three (a b : Vl) : ordV a b = -1 ∨ ordV a b = 0 ∨ ordV a b = 1 := by
  have h1 := cmpB_eq a.s b.s
  have h2 : ordV a b = -1 ∨ ordV a b = 1 ∨ ordV a b = cmpI a.n b.n ∨ ordV a b = cmpB a.s b.s := by
    unfold ordV; cases a.num <;> cases b.num <;> simp
  have h3 : cmpI a.n b.n = -1 ∨ cmpI a.n b.n = 0 ∨ cmpI a.n b.n = 1 := by unfold cmpI; repeat' split
                                                                          all_goals omega
  have h4 : cmpB a.s b.s = -1 ∨ cmpB a.s b.s = 0 ∨ cmpB a.s b.s = 1 := by
    rw [h1]; repeat' split
    all_goals omega
  omega
theorem fn38 (j : Jn) (l : List In) (hl : l.length < 100000) (hk : ∀ x ∈ l, x.l.length < 1000) : Fn Try.prog 38 [j.pv, ins l] (.pv (pB (checkI j l))) [] := by
  refine Run38 [] (by simp) ?_
  simp only [go_sem, Nat.reduceEqDiff, Nat.reduceBEq, Nat.reduceAdd, Nat.reduceMul, Nat.reduceSub, Nat.reduceLeDiff, Nat.reduceLT, reduceIte, reduceCtorEq, Int.reduceToNat, Int.reduceLE, Int.reduceLT, Int.reduceNeg, Bool.not_not, and_self, Bool.and_eq_false_iff, Int.cast_ofNat_Int, Int.reduceAdd, Int.reduceSub, Int.reduceMul, Int.reduceEq, Int.reduceNe, M38]
  refine run_loop (T := Nat) (fun i => ⟨[(1, .pv (ins l)), (2, .ptr 2 0), (5, .pv (pI i))], [(2, .box [.pv (pS j.kind), .pv (pI j.parts), .pv (pI j.need), .pv (pI j.window)])]⟩)
    (fun i => i ≤ l.length ∧ (List.range i).all (okOne j l) = true) (fun i => l.length - i) 0 rfl ⟨Nat.zero_le _, rfl⟩ ?_
  intro i ⟨hi, hok⟩
  by_cases hlt : i < l.length
  · have hx := hk _ (List.getElem_mem hlt)
    have hno : okOne j l i = false → checkI j l = false := fun h => by
      cases hc : checkI j l with
      | false => rfl
      | true =>
        exfalso
        simp only [checkI, Bool.and_eq_true, decide_eq_true_eq, List.all_eq_true, List.mem_range] at hc
        have := hc.1.2 i hlt
        rw [h] at this; cases this
    have hone : okOne j l i = (mayV l[i].key && (decide (i = 0) || decide (ordV (l.getD (i - 1) default).key l[i].key < 0)) && decide (l[i].l ≠ []) && checkJ j l[i].l) := by
      unfold okOne; rw [getI hlt]
    simp only [go_sem, Nat.reduceEqDiff, Nat.reduceBEq, Nat.reduceAdd, Nat.reduceMul, Nat.reduceSub, Nat.reduceLeDiff, Nat.reduceLT, reduceIte, reduceCtorEq, Int.reduceToNat, Int.reduceLE, Int.reduceLT, Int.reduceNeg, Bool.not_not, and_self, Bool.and_eq_false_iff, Int.cast_ofNat_Int, Int.reduceAdd, Int.reduceSub, Int.reduceMul, Int.reduceEq, Int.reduceNe, B38_0, wf_ins, getD_ins hlt, getI hlt, show (i : Int) < (l.length : Int) by omega]
    refine runR_callf (by simp only [go_sem, Nat.reduceEqDiff, Nat.reduceBEq, Nat.reduceAdd, Nat.reduceMul, Nat.reduceSub, Nat.reduceLeDiff, Nat.reduceLT, reduceIte, reduceCtorEq, Int.reduceToNat, Int.reduceLE, Int.reduceLT, Int.reduceNeg, Bool.not_not, and_self, Bool.and_eq_false_iff, Int.cast_ofNat_Int, Int.reduceAdd, Int.reduceSub, Int.reduceMul, Int.reduceEq, Int.reduceNe]) (by simp only [go_sem, Nat.reduceEqDiff, Nat.reduceBEq, Nat.reduceAdd, Nat.reduceMul, Nat.reduceSub, Nat.reduceLeDiff, Nat.reduceLT, reduceIte, reduceCtorEq, Int.reduceToNat, Int.reduceLE, Int.reduceLT, Int.reduceNeg, Bool.not_not, and_self, Bool.and_eq_false_iff, Int.cast_ofNat_Int, Int.reduceAdd, Int.reduceSub, Int.reduceMul, Int.reduceEq, Int.reduceNe]) (fn31 l[i].key) ⟨rfl, trivial⟩ trivial ?_
    simp only [go_sem, Nat.reduceEqDiff, Nat.reduceBEq, Nat.reduceAdd, Nat.reduceMul, Nat.reduceSub, Nat.reduceLeDiff, Nat.reduceLT, reduceIte, reduceCtorEq, Int.reduceToNat, Int.reduceLE, Int.reduceLT, Int.reduceNeg, Bool.not_not, and_self, Bool.and_eq_false_iff, Int.cast_ofNat_Int, Int.reduceAdd, Int.reduceSub, Int.reduceMul, Int.reduceEq, Int.reduceNe, wf_ins, getD_ins hlt, getI hlt, show (i : Int) < (l.length : Int) by omega]
    refine runR_callgf (by simp only [go_sem, Nat.reduceEqDiff, Nat.reduceBEq, Nat.reduceAdd, Nat.reduceMul, Nat.reduceSub, Nat.reduceLeDiff, Nat.reduceLT, reduceIte, reduceCtorEq, Int.reduceToNat, Int.reduceLE, Int.reduceLT, Int.reduceNeg, Bool.not_not, and_self, Bool.and_eq_false_iff, Int.cast_ofNat_Int, Int.reduceAdd, Int.reduceSub, Int.reduceMul, Int.reduceEq, Int.reduceNe]) (by simp only [go_sem, Nat.reduceEqDiff, Nat.reduceBEq, Nat.reduceAdd, Nat.reduceMul, Nat.reduceSub, Nat.reduceLeDiff, Nat.reduceLT, reduceIte, reduceCtorEq, Int.reduceToNat, Int.reduceLE, Int.reduceLT, Int.reduceNeg, Bool.not_not, and_self, Bool.and_eq_false_iff, Int.cast_ofNat_Int, Int.reduceAdd, Int.reduceSub, Int.reduceMul, Int.reduceEq, Int.reduceNe]) (by simp only [go_sem, Nat.reduceEqDiff, Nat.reduceBEq, Nat.reduceAdd, Nat.reduceMul, Nat.reduceSub, Nat.reduceLeDiff, Nat.reduceLT, reduceIte, reduceCtorEq, Int.reduceToNat, Int.reduceLE, Int.reduceLT, Int.reduceNeg, Bool.not_not, and_self, Bool.and_eq_false_iff, Int.cast_ofNat_Int, Int.reduceAdd, Int.reduceSub, Int.reduceMul, Int.reduceEq, Int.reduceNe]; rfl) (fun _ => fn25 j l[i].l (by omega)) rfl ?_
    simp only [go_sem, Nat.reduceEqDiff, Nat.reduceBEq, Nat.reduceAdd, Nat.reduceMul, Nat.reduceSub, Nat.reduceLeDiff, Nat.reduceLT, reduceIte, reduceCtorEq, Int.reduceToNat, Int.reduceLE, Int.reduceLT, Int.reduceNeg, Bool.not_not, and_self, Bool.and_eq_false_iff, Int.cast_ofNat_Int, Int.reduceAdd, Int.reduceSub, Int.reduceMul, Int.reduceEq, Int.reduceNe, wf_ins, getI hlt, getD_ins hlt, show (i : Int) < (l.length : Int) by omega, show ((i : Int) - 1).toNat = i - 1 by omega, getD_ins (show i - 1 < l.length by omega)]
    refine ⟨fun h => ⟨h, by omega, by omega⟩, fun h => ⟨h, by have := h.2; omega, by omega⟩, ?_⟩
    refine runR_callgf (by simp only [go_sem, Nat.reduceEqDiff, Nat.reduceBEq, Nat.reduceAdd, Nat.reduceMul, Nat.reduceSub, Nat.reduceLeDiff, Nat.reduceLT, reduceIte, reduceCtorEq, Int.reduceToNat, Int.reduceLE, Int.reduceLT, Int.reduceNeg, Bool.not_not, and_self, Bool.and_eq_false_iff, Int.cast_ofNat_Int, Int.reduceAdd, Int.reduceSub, Int.reduceMul, Int.reduceEq, Int.reduceNe]) (by simp only [go_sem, Nat.reduceEqDiff, Nat.reduceBEq, Nat.reduceAdd, Nat.reduceMul, Nat.reduceSub, Nat.reduceLeDiff, Nat.reduceLT, reduceIte, reduceCtorEq, Int.reduceToNat, Int.reduceLE, Int.reduceLT, Int.reduceNeg, Bool.not_not, and_self, Bool.and_eq_false_iff, Int.cast_ofNat_Int, Int.reduceAdd, Int.reduceSub, Int.reduceMul, Int.reduceEq, Int.reduceNe]) (by simp only [go_sem, Nat.reduceEqDiff, Nat.reduceBEq, Nat.reduceAdd, Nat.reduceMul, Nat.reduceSub, Nat.reduceLeDiff, Nat.reduceLT, reduceIte, reduceCtorEq, Int.reduceToNat, Int.reduceLE, Int.reduceLT, Int.reduceNeg, Bool.not_not, and_self, Bool.and_eq_false_iff, Int.cast_ofNat_Int, Int.reduceAdd, Int.reduceSub, Int.reduceMul, Int.reduceEq, Int.reduceNe]; rfl) (fun _ => fn55 (l.getD (i - 1) default).key l[i].key) rfl ?_
    have hord := ordV_three (l.getD (i - 1) default).key l[i].key
    by_cases hA : (mayV l[i].key = true ∧ ¬ (l[i].l.length : Int) = 0) ∧ checkJ j l[i].l = true
    · obtain ⟨⟨a1, a2⟩, a3⟩ := hA
      have hne : ¬ l[i].l = [] := fun h => a2 (by rw [h]; rfl)
      by_cases hB : i = 0 ∨ ordV (l.getD (i - 1) default).key l[i].key < 0
      · have hoi : okOne j l i = true := by
          rw [hone]
          rcases hB with h | h <;> simp [a1, eq_true h, hne, a3, -List.getD_eq_getElem?_getD]
        have e1 : ¬ ((0 : Int) < (i : Int) ∧ ¬ ordV (l.getD (i - 1) default).key l[i].key = -1) := fun ⟨h1, h2⟩ => by
          rcases hB with h | h <;> omega
        simp only [go_sem, Nat.reduceEqDiff, Nat.reduceBEq, Nat.reduceAdd, Nat.reduceMul, Nat.reduceSub, Nat.reduceLeDiff, Nat.reduceLT, reduceIte, reduceCtorEq, Int.reduceToNat, Int.reduceLE, Int.reduceLT, Int.reduceNeg, Bool.not_not, and_self, Bool.and_eq_false_iff, Int.cast_ofNat_Int, Int.reduceAdd, Int.reduceSub, Int.reduceMul, Int.reduceEq, Int.reduceNe, a1, a2, a3]
        refine ⟨fun h => absurd h e1, fun _ => ⟨⟨by omega, by omega⟩, i + 1, rfl, ⟨hlt, ?_⟩, by omega⟩⟩
        simp only [List.range_succ, List.all_append, hok, List.all_cons, hoi, List.all_nil, Bool.and_true]
      · simp only [not_or] at hB
        have h1 : checkI j l = false := hno (by
          rw [hone]
          simp [hB.1, -List.getD_eq_getElem?_getD]
          omega)
        rw [h1]
        simp only [go_sem, Nat.reduceEqDiff, Nat.reduceBEq, Nat.reduceAdd, Nat.reduceMul, Nat.reduceSub, Nat.reduceLeDiff, Nat.reduceLT, reduceIte, reduceCtorEq, Int.reduceToNat, Int.reduceLE, Int.reduceLT, Int.reduceNeg, Bool.not_not, and_self, Bool.and_eq_false_iff, Int.cast_ofNat_Int, Int.reduceAdd, Int.reduceSub, Int.reduceMul, Int.reduceEq, Int.reduceNe, a1, a2, a3, show (0 : Int) < (i : Int) by omega, show ¬ ordV (l.getD (i - 1) default).key l[i].key = -1 by omega]
    · have h1 : checkI j l = false := hno (by
        rw [hone]
        by_cases a1 : mayV l[i].key = true
        · by_cases a2 : l[i].l = []
          · simp [a2]
          · have a3 : checkJ j l[i].l = false := by
              cases h : checkJ j l[i].l with
              | false => rfl
              | true => exact absurd ⟨⟨a1, fun h => a2 (List.eq_nil_of_length_eq_zero (by omega))⟩, h⟩ hA
            simp [a3]
        · simp [a1])
      rw [h1]
      simp only [go_sem, Nat.reduceEqDiff, Nat.reduceBEq, Nat.reduceAdd, Nat.reduceMul, Nat.reduceSub, Nat.reduceLeDiff, Nat.reduceLT, reduceIte, reduceCtorEq, Int.reduceToNat, Int.reduceLE, Int.reduceLT, Int.reduceNeg, Bool.not_not, and_self, Bool.and_eq_false_iff, Int.cast_ofNat_Int, Int.reduceAdd, Int.reduceSub, Int.reduceMul, Int.reduceEq, Int.reduceNe]
      exact ⟨fun h => absurd h hA, fun h => absurd h.1 hA⟩
  · have hie : i = l.length := by omega
    subst hie
    simp only [go_sem, Nat.reduceEqDiff, Nat.reduceBEq, Nat.reduceAdd, Nat.reduceMul, Nat.reduceSub, Nat.reduceLeDiff, Nat.reduceLT, reduceIte, reduceCtorEq, Int.reduceToNat, Int.reduceLE, Int.reduceLT, Int.reduceNeg, Bool.not_not, and_self, Bool.and_eq_false_iff, Int.cast_ofNat_Int, Int.reduceAdd, Int.reduceSub, Int.reduceMul, Int.reduceEq, Int.reduceNe, B38_0, R38_0, show ¬ ((l.length : Int) < (l.length : Int)) by omega]
    refine runR_call (by simp only [go_sem, Nat.reduceEqDiff, Nat.reduceBEq, Nat.reduceAdd, Nat.reduceMul, Nat.reduceSub, Nat.reduceLeDiff, Nat.reduceLT, reduceIte, reduceCtorEq, Int.reduceToNat, Int.reduceLE, Int.reduceLT, Int.reduceNeg, Bool.not_not, and_self, Bool.and_eq_false_iff, Int.cast_ofNat_Int, Int.reduceAdd, Int.reduceSub, Int.reduceMul, Int.reduceEq, Int.reduceNe]) rfl (fn32 l hl (fun x hx => by have := hk x hx; omega)) (.inl rfl) trivial ?_
    simp only [go_sem, Nat.reduceEqDiff, Nat.reduceBEq, Nat.reduceAdd, Nat.reduceMul, Nat.reduceSub, Nat.reduceLeDiff, Nat.reduceLT, reduceIte, reduceCtorEq, Int.reduceToNat, Int.reduceLE, Int.reduceLT, Int.reduceNeg, Bool.not_not, and_self, Bool.and_eq_false_iff, Int.cast_ofNat_Int, Int.reduceAdd, Int.reduceSub, Int.reduceMul, Int.reduceEq, Int.reduceNe]
    have hbl := countI_le (fun x hx => (by have := hk x hx; omega : x.l.length < 100000)) l.length
    rw [List.take_length, ← allI_len] at hbl
    have hchk : checkI j l = (mayJ j && decide (l.length ≤ 40) && decide ((idsI l).Nodup)) := by
      unfold checkI; rw [hok, Bool.and_true]
    unfold idsI at hchk
    generalize allI l = all at *
    refine run_loop (T := Nat) (fun i => ⟨[(1, .pv (ins l)), (2, .ptr 2 0), (6, .pv (ks all)), (7, .pv (pI i))], [(2, .box [.pv (pS j.kind), .pv (pI j.parts), .pv (pI j.need), .pv (pI j.window)])]⟩)
      (fun i => i ≤ all.length ∧ ((all.take i).map (·.id)).Nodup) (fun i => all.length - i) 0 rfl ⟨Nat.zero_le _, by simp⟩ ?_
    intro i ⟨hi, hnd⟩
    by_cases hlt : i < all.length
    · simp only [go_sem, Nat.reduceEqDiff, Nat.reduceBEq, Nat.reduceAdd, Nat.reduceMul, Nat.reduceSub, Nat.reduceLeDiff, Nat.reduceLT, reduceIte, reduceCtorEq, Int.reduceToNat, Int.reduceLE, Int.reduceLT, Int.reduceNeg, Bool.not_not, and_self, Bool.and_eq_false_iff, Int.cast_ofNat_Int, Int.reduceAdd, Int.reduceSub, Int.reduceMul, Int.reduceEq, Int.reduceNe, B38_1, show (i : Int) < (all.length : Int) by omega]
      refine run_loop (T := Nat) (fun k => ⟨[(1, .pv (ins l)), (2, .ptr 2 0), (6, .pv (ks all)), (7, .pv (pI i)), (8, .pv (pI k))], [(2, .box [.pv (pS j.kind), .pv (pI j.parts), .pv (pI j.need), .pv (pI j.window)])]⟩)
        (fun k => k ≤ i ∧ ∀ m, m < k → (all.getD m default).id ≠ (all.getD i default).id) (fun k => i - k) 0 rfl ⟨Nat.zero_le _, fun m h => absurd h (by omega)⟩ ?_
      intro k ⟨hk1, hk2⟩
      by_cases hki : k < i
      · by_cases he : (all.getD i default).id = (all.getD k default).id
        · have hnn : ¬ (all.map (·.id)).Nodup := fun hn => by
            unfold List.Nodup at hn
            rw [List.pairwise_map, List.pairwise_iff_getElem] at hn
            have := hn k i (by omega) hlt hki
            rw [getD_get hlt, getD_get (show k < all.length by omega)] at he
            exact this he.symm
          have h1 : checkI j l = false := by rw [hchk, decide_eq_false hnn, Bool.and_false]
          rw [h1]
          simp only [go_sem, Nat.reduceEqDiff, Nat.reduceBEq, Nat.reduceAdd, Nat.reduceMul, Nat.reduceSub, Nat.reduceLeDiff, Nat.reduceLT, reduceIte, reduceCtorEq, Int.reduceToNat, Int.reduceLE, Int.reduceLT, Int.reduceNeg, Bool.not_not, and_self, Bool.and_eq_false_iff, Int.cast_ofNat_Int, Int.reduceAdd, Int.reduceSub, Int.reduceMul, Int.reduceEq, Int.reduceNe, B38_2, show (k : Int) < (i : Int) by omega, show (k : Int) < (all.length : Int) by omega, show (i : Int) < (all.length : Int) by omega, wf_ks, getD_ks hlt, getD_ks (show k < all.length by omega), eq_true he]
        · simp only [go_sem, Nat.reduceEqDiff, Nat.reduceBEq, Nat.reduceAdd, Nat.reduceMul, Nat.reduceSub, Nat.reduceLeDiff, Nat.reduceLT, reduceIte, reduceCtorEq, Int.reduceToNat, Int.reduceLE, Int.reduceLT, Int.reduceNeg, Bool.not_not, and_self, Bool.and_eq_false_iff, Int.cast_ofNat_Int, Int.reduceAdd, Int.reduceSub, Int.reduceMul, Int.reduceEq, Int.reduceNe, B38_2, show (k : Int) < (i : Int) by omega, show (k : Int) < (all.length : Int) by omega, show (i : Int) < (all.length : Int) by omega, wf_ks, getD_ks hlt, getD_ks (show k < all.length by omega), he]
          refine ⟨⟨by omega, by omega⟩, k + 1, rfl, ⟨hki, fun m hm => ?_⟩, by omega⟩
          by_cases hmk : m = k
          · subst hmk; exact fun e => he e.symm
          · exact hk2 m (by omega)
      · have hke : k = i := by omega
        subst hke
        simp only [go_sem, Nat.reduceEqDiff, Nat.reduceBEq, Nat.reduceAdd, Nat.reduceMul, Nat.reduceSub, Nat.reduceLeDiff, Nat.reduceLT, reduceIte, reduceCtorEq, Int.reduceToNat, Int.reduceLE, Int.reduceLT, Int.reduceNeg, Bool.not_not, and_self, Bool.and_eq_false_iff, Int.cast_ofNat_Int, Int.reduceAdd, Int.reduceSub, Int.reduceMul, Int.reduceEq, Int.reduceNe, B38_2, show ¬ ((k : Int) < (k : Int)) by omega]
        refine ⟨⟨by omega, by omega⟩, k + 1, rfl, ⟨hlt, ?_⟩, by omega⟩
        rw [take_snoc hlt, List.map_append]
        refine nodup_snoc.2 ⟨hnd, fun hm => ?_⟩
        obtain ⟨y, hy, he⟩ := List.mem_map.1 hm
        obtain ⟨m, hm', rfl⟩ := List.mem_iff_getElem.1 hy
        have hmk : m < k := by simp at hm'; omega
        refine hk2 m hmk ?_
        rw [getD_get (show m < all.length by omega)]
        simpa using he
    · have hie : i = all.length := by omega
      subst hie
      simp only [go_sem, Nat.reduceEqDiff, Nat.reduceBEq, Nat.reduceAdd, Nat.reduceMul, Nat.reduceSub, Nat.reduceLeDiff, Nat.reduceLT, reduceIte, reduceCtorEq, Int.reduceToNat, Int.reduceLE, Int.reduceLT, Int.reduceNeg, Bool.not_not, and_self, Bool.and_eq_false_iff, Int.cast_ofNat_Int, Int.reduceAdd, Int.reduceSub, Int.reduceMul, Int.reduceEq, Int.reduceNe, B38_1, R38_1, show ¬ ((all.length : Int) < (all.length : Int)) by omega]
      refine runR_callf (by simp only [go_sem, Nat.reduceEqDiff, Nat.reduceBEq, Nat.reduceAdd, Nat.reduceMul, Nat.reduceSub, Nat.reduceLeDiff, Nat.reduceLT, reduceIte, reduceCtorEq, Int.reduceToNat, Int.reduceLE, Int.reduceLT, Int.reduceNeg, Bool.not_not, and_self, Bool.and_eq_false_iff, Int.cast_ofNat_Int, Int.reduceAdd, Int.reduceSub, Int.reduceMul, Int.reduceEq, Int.reduceNe]) (by simp only [go_sem, Nat.reduceEqDiff, Nat.reduceBEq, Nat.reduceAdd, Nat.reduceMul, Nat.reduceSub, Nat.reduceLeDiff, Nat.reduceLT, reduceIte, reduceCtorEq, Int.reduceToNat, Int.reduceLE, Int.reduceLT, Int.reduceNeg, Bool.not_not, and_self, Bool.and_eq_false_iff, Int.cast_ofNat_Int, Int.reduceAdd, Int.reduceSub, Int.reduceMul, Int.reduceEq, Int.reduceNe]) (fn23 j) ⟨rfl, trivial⟩ trivial ?_
      rw [List.take_length] at hnd
      simp only [go_sem, Nat.reduceEqDiff, Nat.reduceBEq, Nat.reduceAdd, Nat.reduceMul, Nat.reduceSub, Nat.reduceLeDiff, Nat.reduceLT, reduceIte, reduceCtorEq, Int.reduceToNat, Int.reduceLE, Int.reduceLT, Int.reduceNeg, Bool.not_not, and_self, Bool.and_eq_false_iff, Int.cast_ofNat_Int, Int.reduceAdd, Int.reduceSub, Int.reduceMul, Int.reduceEq, Int.reduceNe, hchk]
      have e1 : decide ((l.length : Int) ≤ 40) = decide (l.length ≤ 40) := decide_eq_decide.2 (by omega)
      rw [e1, decide_eq_true hnd, Bool.and_true]
end Go.Vc

namespace Go.Vc
open Go.Proofs
set_option linter.unusedSimpArgs false
set_option linter.unusedVariables false

def withR (l : List In) (key : Vl) (left : List Kp) : List In := l.filter (fun y => decide (ordV y.key key < 0)) ++ (if left = [] then [] else [⟨key, left⟩]) ++ l.filter (fun y => decide (0 < ordV y.key key))
def feedRI (j : Jn) (l : List In) (key : Vl) (x : Kp) : FRI :=
  if checkI j l = false then friErr 1
  else if mayV key = false then friErr 1
  else if idIn (allI l) x.id = true then friErr 5
  else if (feedR j (waitsI l key) x).err ≠ 0 then friErr (feedR j (waitsI l key) x).err
  else if findI l key < 0 ∧ 0 < (feedR j (waitsI l key) x).left.length ∧ 40 ≤ l.length then friErr 6
  else ⟨withR l key (feedR j (waitsI l key) x).left, (feedR j (waitsI l key) x).fired, (feedR j (waitsI l key) x).over, 0⟩
theorem filt_snoc {q : In → Bool} {l : List In} {i : Nat} (h : i < l.length) : (l.take (i + 1)).filter q = (l.take i).filter q ++ if q l[i] = true then [l[i]] else [] := by
  rw [take_snoc h, getI h, List.filter_append]
  cases hq : q l[i] <;> simp [hq]
theorem filt_le {q : In → Bool} {l : List In} {i : Nat} : ((l.take i).filter q).length ≤ l.length := Nat.le_trans (List.length_filter_le _ _) (by simp; omega)
theorem take_insmap (l : List In) : List.take l.length (l.map In.pv) = l.map In.pv := take_len_map _ _
theorem tail36b (l : List In) (key : Vl) (r : FR) (out : List In) (h40 : l.length ≤ 40) (ho : out.length ≤ 41) :
    run Try.prog (retK [RV.tmp 8, RV.tmp 9, RV.tmp 10, RV.tmp 11] [false, false, false, false] (.pv (FRI.pv ⟨out ++ l.filter (fun y => decide (0 < ordV y.key key)), r.fired, r.over, 0⟩)) []) B36_2.loop [KI.blk 4, KI.code R36_2]
      ⟨[(1, .pv (ins l)), (6, .ptr 6 0), (17, .pv (ks r.fired)), (18, .pv (ks r.over)), (20, .row 2020 0 out.length), (22, .pv (pI 0))], [(6, .box [.pv (pB key.num), .pv (pI key.n), .pv (pS key.s)]), (2020, .sl 4 (out.map In.pv))]⟩ := by
  refine run_loop (T := Nat) (fun i => ⟨[(1, .pv (ins l)), (6, .ptr 6 0), (17, .pv (ks r.fired)), (18, .pv (ks r.over)), (20, .row 2020 0 (out ++ (l.take i).filter (fun y => decide (0 < ordV y.key key))).length), (22, .pv (pI i))],
      [(6, .box [.pv (pB key.num), .pv (pI key.n), .pv (pS key.s)]), (2020, .sl 4 ((out ++ (l.take i).filter (fun y => decide (0 < ordV y.key key))).map In.pv))]⟩) (fun i => i ≤ l.length) (fun i => l.length - i) 0 (by simp) (Nat.zero_le _) ?_
  intro i hi
  by_cases hlt : i < l.length
  · have hs := filt_snoc (q := fun y => decide (0 < ordV y.key key)) hlt
    have hle := filt_le (q := fun y => decide (0 < ordV y.key key)) (l := l) (i := i)
    have hle2 : (out ++ (l.take i).filter (fun y => decide (0 < ordV y.key key))).length ≤ 81 := by rw [List.length_append]; omega
    simp only [go_sem, Nat.reduceEqDiff, Nat.reduceBEq, Nat.reduceAdd, Nat.reduceMul, Nat.reduceSub, Nat.reduceLeDiff, Nat.reduceLT, reduceIte, reduceCtorEq, Int.reduceToNat, Int.reduceLE, Int.reduceLT, Int.reduceNeg, Bool.not_not, and_self, Bool.and_eq_false_iff, Int.cast_ofNat_Int, Int.reduceAdd, Int.reduceSub, Int.reduceMul, Int.reduceEq, Int.reduceNe, B36_2, wf_ins, getD_ins hlt, getI hlt, show (i : Int) < (l.length : Int) by omega]
    refine runR_callf (by simp only [go_sem, Nat.reduceEqDiff, Nat.reduceBEq, Nat.reduceAdd, Nat.reduceMul, Nat.reduceSub, Nat.reduceLeDiff, Nat.reduceLT, reduceIte, reduceCtorEq, Int.reduceToNat, Int.reduceLE, Int.reduceLT, Int.reduceNeg, Bool.not_not, and_self, Bool.and_eq_false_iff, Int.cast_ofNat_Int, Int.reduceAdd, Int.reduceSub, Int.reduceMul, Int.reduceEq, Int.reduceNe]) (by simp only [go_sem, Nat.reduceEqDiff, Nat.reduceBEq, Nat.reduceAdd, Nat.reduceMul, Nat.reduceSub, Nat.reduceLeDiff, Nat.reduceLT, reduceIte, reduceCtorEq, Int.reduceToNat, Int.reduceLE, Int.reduceLT, Int.reduceNeg, Bool.not_not, and_self, Bool.and_eq_false_iff, Int.cast_ofNat_Int, Int.reduceAdd, Int.reduceSub, Int.reduceMul, Int.reduceEq, Int.reduceNe]) (fn55 l[i].key key) ⟨rfl, trivial⟩ trivial ?_
    simp only [go_sem, Nat.reduceEqDiff, Nat.reduceBEq, Nat.reduceAdd, Nat.reduceMul, Nat.reduceSub, Nat.reduceLeDiff, Nat.reduceLT, reduceIte, reduceCtorEq, Int.reduceToNat, Int.reduceLE, Int.reduceLT, Int.reduceNeg, Bool.not_not, and_self, Bool.and_eq_false_iff, Int.cast_ofNat_Int, Int.reduceAdd, Int.reduceSub, Int.reduceMul, Int.reduceEq, Int.reduceNe, wf_ins, getD_ins hlt, getI hlt, show (i : Int) < (l.length : Int) by omega]
    by_cases ho : 0 < ordV l[i].key key
    · rw [if_pos (by simpa using ho)] at hs
      refine ⟨fun _ => ⟨⟨wf_ins [l[i]], by omega, by omega⟩, ⟨by omega, by omega⟩, i + 1, ?_, hlt, by omega⟩, fun h => absurd ho h⟩
      rw [hs, take_len_map]
      simp [Nat.add_assoc]
    · rw [if_neg (by simpa using ho), List.append_nil] at hs
      refine ⟨fun h => absurd h ho, fun _ => ⟨⟨by omega, by omega⟩, i + 1, ?_, hlt, by omega⟩⟩
      rw [hs]
      rfl
  · have hie : i = l.length := by omega
    subst hie
    simp only [go_sem, Nat.reduceEqDiff, Nat.reduceBEq, Nat.reduceAdd, Nat.reduceMul, Nat.reduceSub, Nat.reduceLeDiff, Nat.reduceLT, reduceIte, reduceCtorEq, Int.reduceToNat, Int.reduceLE, Int.reduceLT, Int.reduceNeg, Bool.not_not, and_self, Bool.and_eq_false_iff, Int.cast_ofNat_Int, Int.reduceAdd, Int.reduceSub, Int.reduceMul, Int.reduceEq, Int.reduceNe, B36_2, R36_2, show ¬ ((l.length : Int) < (l.length : Int)) by omega, take_len_map]
theorem tail36 (l : List In) (key : Vl) (r : FR) (h40 : l.length ≤ 40) :
    run Try.prog (retK [RV.tmp 8, RV.tmp 9, RV.tmp 10, RV.tmp 11] [false, false, false, false] (.pv (FRI.pv ⟨withR l key r.left, r.fired, r.over, 0⟩)) []) B36_1.loop [KI.blk 2, KI.code R36_1]
      ⟨[(1, .pv (ins l)), (6, .ptr 6 0), (16, .pv (ks r.left)), (17, .pv (ks r.fired)), (18, .pv (ks r.over)), (20, .row 2020 0 0), (21, .pv (pI 0))], [(6, .box [.pv (pB key.num), .pv (pI key.n), .pv (pS key.s)]), (2020, .sl 4 [])]⟩ := by
  refine run_loop (T := Nat) (fun i => ⟨[(1, .pv (ins l)), (6, .ptr 6 0), (16, .pv (ks r.left)), (17, .pv (ks r.fired)), (18, .pv (ks r.over)), (20, .row 2020 0 ((l.take i).filter (fun y => decide (ordV y.key key < 0))).length), (21, .pv (pI i))],
      [(6, .box [.pv (pB key.num), .pv (pI key.n), .pv (pS key.s)]), (2020, .sl 4 (((l.take i).filter (fun y => decide (ordV y.key key < 0))).map In.pv))]⟩) (fun i => i ≤ l.length) (fun i => l.length - i) 0 rfl (Nat.zero_le _) ?_
  intro i hi
  by_cases hlt : i < l.length
  · have hs := filt_snoc (q := fun y => decide (ordV y.key key < 0)) hlt
    have hle := filt_le (q := fun y => decide (ordV y.key key < 0)) (l := l) (i := i)
    simp only [go_sem, Nat.reduceEqDiff, Nat.reduceBEq, Nat.reduceAdd, Nat.reduceMul, Nat.reduceSub, Nat.reduceLeDiff, Nat.reduceLT, reduceIte, reduceCtorEq, Int.reduceToNat, Int.reduceLE, Int.reduceLT, Int.reduceNeg, Bool.not_not, and_self, Bool.and_eq_false_iff, Int.cast_ofNat_Int, Int.reduceAdd, Int.reduceSub, Int.reduceMul, Int.reduceEq, Int.reduceNe, B36_1, wf_ins, getD_ins hlt, getI hlt, show (i : Int) < (l.length : Int) by omega]
    refine runR_callf (by simp only [go_sem, Nat.reduceEqDiff, Nat.reduceBEq, Nat.reduceAdd, Nat.reduceMul, Nat.reduceSub, Nat.reduceLeDiff, Nat.reduceLT, reduceIte, reduceCtorEq, Int.reduceToNat, Int.reduceLE, Int.reduceLT, Int.reduceNeg, Bool.not_not, and_self, Bool.and_eq_false_iff, Int.cast_ofNat_Int, Int.reduceAdd, Int.reduceSub, Int.reduceMul, Int.reduceEq, Int.reduceNe]) (by simp only [go_sem, Nat.reduceEqDiff, Nat.reduceBEq, Nat.reduceAdd, Nat.reduceMul, Nat.reduceSub, Nat.reduceLeDiff, Nat.reduceLT, reduceIte, reduceCtorEq, Int.reduceToNat, Int.reduceLE, Int.reduceLT, Int.reduceNeg, Bool.not_not, and_self, Bool.and_eq_false_iff, Int.cast_ofNat_Int, Int.reduceAdd, Int.reduceSub, Int.reduceMul, Int.reduceEq, Int.reduceNe]) (fn55 l[i].key key) ⟨rfl, trivial⟩ trivial ?_
    simp only [go_sem, Nat.reduceEqDiff, Nat.reduceBEq, Nat.reduceAdd, Nat.reduceMul, Nat.reduceSub, Nat.reduceLeDiff, Nat.reduceLT, reduceIte, reduceCtorEq, Int.reduceToNat, Int.reduceLE, Int.reduceLT, Int.reduceNeg, Bool.not_not, and_self, Bool.and_eq_false_iff, Int.cast_ofNat_Int, Int.reduceAdd, Int.reduceSub, Int.reduceMul, Int.reduceEq, Int.reduceNe, wf_ins, getD_ins hlt, getI hlt, show (i : Int) < (l.length : Int) by omega]
    by_cases ho : ordV l[i].key key < 0
    · rw [if_pos (by simpa using ho)] at hs
      refine ⟨fun _ => ⟨⟨wf_ins [l[i]], by omega, by omega⟩, ⟨by omega, by omega⟩, i + 1, ?_, hlt, by omega⟩, fun h => absurd ho h⟩
      rw [hs, take_len_map]
      simp
    · rw [if_neg (by simpa using ho), List.append_nil] at hs
      refine ⟨fun h => absurd h ho, fun _ => ⟨⟨by omega, by omega⟩, i + 1, ?_, hlt, by omega⟩⟩
      rw [hs]
      rfl
  · have hie : i = l.length := by omega
    subst hie
    have hle := List.length_filter_le (fun y : In => decide (ordV y.key key < 0)) l
    simp only [go_sem, Nat.reduceEqDiff, Nat.reduceBEq, Nat.reduceAdd, Nat.reduceMul, Nat.reduceSub, Nat.reduceLeDiff, Nat.reduceLT, reduceIte, reduceCtorEq, Int.reduceToNat, Int.reduceLE, Int.reduceLT, Int.reduceNeg, Bool.not_not, and_self, Bool.and_eq_false_iff, Int.cast_ofNat_Int, Int.reduceAdd, Int.reduceSub, Int.reduceMul, Int.reduceEq, Int.reduceNe, B36_1, R36_1, show ¬ ((l.length : Int) < (l.length : Int)) by omega, take_len_map]
    refine ⟨fun h => ⟨⟨wf_ins [⟨key, r.left⟩], by omega, by omega⟩, ?_⟩, fun h => ?_⟩
    · have hne : ¬ r.left = [] := fun e => by rw [e] at h; simp at h
      have := tail36b l key r (l.filter (fun y => decide (ordV y.key key < 0)) ++ [⟨key, r.left⟩]) h40 (by rw [List.length_append, List.length_singleton]; omega)
      rw [List.length_append, List.length_singleton, List.map_append] at this
      have e : withR l key r.left = l.filter (fun y => decide (ordV y.key key < 0)) ++ [⟨key, r.left⟩] ++ l.filter (fun y => decide (0 < ordV y.key key)) := by unfold withR; rw [if_neg hne]
      rw [e]
      exact this
    · have hz : r.left = [] := List.eq_nil_of_length_eq_zero (by omega)
      have := tail36b l key r (l.filter (fun y => decide (ordV y.key key < 0))) h40 (by omega)
      have e : withR l key r.left = l.filter (fun y => decide (ordV y.key key < 0)) ++ l.filter (fun y => decide (0 < ordV y.key key)) := by unfold withR; rw [if_pos hz, List.append_nil]
      rw [e]
      exact this
theorem fn36 (j : Jn) (l : List In) (key : Vl) (x : Kp) (hl : l.length < 100000) (hk : ∀ y ∈ l, y.l.length < 1000) : Fn Try.prog 36 [j.pv, ins l, key.pv, x.pv] (.pv (feedRI j l key x).pv) [] := by
  refine Run36 [false, false, false, false] (by simp) ?_
  simp only [go_sem, Nat.reduceEqDiff, Nat.reduceBEq, Nat.reduceAdd, Nat.reduceMul, Nat.reduceSub, Nat.reduceLeDiff, Nat.reduceLT, reduceIte, reduceCtorEq, Int.reduceToNat, Int.reduceLE, Int.reduceLT, Int.reduceNeg, Bool.not_not, and_self, Bool.and_eq_false_iff, Int.cast_ofNat_Int, Int.reduceAdd, Int.reduceSub, Int.reduceMul, Int.reduceEq, Int.reduceNe, M36]
  refine runR_callf (by simp only [go_sem, Nat.reduceEqDiff, Nat.reduceBEq, Nat.reduceAdd, Nat.reduceMul, Nat.reduceSub, Nat.reduceLeDiff, Nat.reduceLT, reduceIte, reduceCtorEq, Int.reduceToNat, Int.reduceLE, Int.reduceLT, Int.reduceNeg, Bool.not_not, and_self, Bool.and_eq_false_iff, Int.cast_ofNat_Int, Int.reduceAdd, Int.reduceSub, Int.reduceMul, Int.reduceEq, Int.reduceNe]) (by simp only [go_sem, Nat.reduceEqDiff, Nat.reduceBEq, Nat.reduceAdd, Nat.reduceMul, Nat.reduceSub, Nat.reduceLeDiff, Nat.reduceLT, reduceIte, reduceCtorEq, Int.reduceToNat, Int.reduceLE, Int.reduceLT, Int.reduceNeg, Bool.not_not, and_self, Bool.and_eq_false_iff, Int.cast_ofNat_Int, Int.reduceAdd, Int.reduceSub, Int.reduceMul, Int.reduceEq, Int.reduceNe]) (fn38 j l hl hk) ⟨rfl, trivial⟩ trivial ?_
  simp only [go_sem, Nat.reduceEqDiff, Nat.reduceBEq, Nat.reduceAdd, Nat.reduceMul, Nat.reduceSub, Nat.reduceLeDiff, Nat.reduceLT, reduceIte, reduceCtorEq, Int.reduceToNat, Int.reduceLE, Int.reduceLT, Int.reduceNeg, Bool.not_not, and_self, Bool.and_eq_false_iff, Int.cast_ofNat_Int, Int.reduceAdd, Int.reduceSub, Int.reduceMul, Int.reduceEq, Int.reduceNe]
  refine runR_callgf (by simp only [go_sem, Nat.reduceEqDiff, Nat.reduceBEq, Nat.reduceAdd, Nat.reduceMul, Nat.reduceSub, Nat.reduceLeDiff, Nat.reduceLT, reduceIte, reduceCtorEq, Int.reduceToNat, Int.reduceLE, Int.reduceLT, Int.reduceNeg, Bool.not_not, and_self, Bool.and_eq_false_iff, Int.cast_ofNat_Int, Int.reduceAdd, Int.reduceSub, Int.reduceMul, Int.reduceEq, Int.reduceNe]) (by simp only [go_sem, Nat.reduceEqDiff, Nat.reduceBEq, Nat.reduceAdd, Nat.reduceMul, Nat.reduceSub, Nat.reduceLeDiff, Nat.reduceLT, reduceIte, reduceCtorEq, Int.reduceToNat, Int.reduceLE, Int.reduceLT, Int.reduceNeg, Bool.not_not, and_self, Bool.and_eq_false_iff, Int.cast_ofNat_Int, Int.reduceAdd, Int.reduceSub, Int.reduceMul, Int.reduceEq, Int.reduceNe]) (by simp only [go_sem, Nat.reduceEqDiff, Nat.reduceBEq, Nat.reduceAdd, Nat.reduceMul, Nat.reduceSub, Nat.reduceLeDiff, Nat.reduceLT, reduceIte, reduceCtorEq, Int.reduceToNat, Int.reduceLE, Int.reduceLT, Int.reduceNeg, Bool.not_not, and_self, Bool.and_eq_false_iff, Int.cast_ofNat_Int, Int.reduceAdd, Int.reduceSub, Int.reduceMul, Int.reduceEq, Int.reduceNe]) (fun _ => fn31 key) rfl ?_
  simp only [go_sem, Nat.reduceEqDiff, Nat.reduceBEq, Nat.reduceAdd, Nat.reduceMul, Nat.reduceSub, Nat.reduceLeDiff, Nat.reduceLT, reduceIte, reduceCtorEq, Int.reduceToNat, Int.reduceLE, Int.reduceLT, Int.reduceNeg, Bool.not_not, and_self, Bool.and_eq_false_iff, Int.cast_ofNat_Int, Int.reduceAdd, Int.reduceSub, Int.reduceMul, Int.reduceEq, Int.reduceNe]
  refine ⟨fun h => ?_, fun ⟨hc, hv⟩ => ?_⟩
  · rcases h with h | h
    · simp [feedRI, h, friErr]
    · cases hc : checkI j l <;> simp [feedRI, h, hc, friErr]
  have hbl := countI_le (fun x hx => (by have := hk x hx; omega : x.l.length < 100000)) l.length
  rw [List.take_length, ← allI_len] at hbl
  refine runR_call (by simp only [go_sem, Nat.reduceEqDiff, Nat.reduceBEq, Nat.reduceAdd, Nat.reduceMul, Nat.reduceSub, Nat.reduceLeDiff, Nat.reduceLT, reduceIte, reduceCtorEq, Int.reduceToNat, Int.reduceLE, Int.reduceLT, Int.reduceNeg, Bool.not_not, and_self, Bool.and_eq_false_iff, Int.cast_ofNat_Int, Int.reduceAdd, Int.reduceSub, Int.reduceMul, Int.reduceEq, Int.reduceNe]) rfl (fn32 l hl (fun y hy => by have := hk y hy; omega)) (.inl rfl) trivial ?_
  simp only [go_sem, Nat.reduceEqDiff, Nat.reduceBEq, Nat.reduceAdd, Nat.reduceMul, Nat.reduceSub, Nat.reduceLeDiff, Nat.reduceLT, reduceIte, reduceCtorEq, Int.reduceToNat, Int.reduceLE, Int.reduceLT, Int.reduceNeg, Bool.not_not, and_self, Bool.and_eq_false_iff, Int.cast_ofNat_Int, Int.reduceAdd, Int.reduceSub, Int.reduceMul, Int.reduceEq, Int.reduceNe]
  generalize hall : allI l = all at *
  refine run_loop (T := Nat) (fun i => ⟨[(1, .pv (ins l)), (4, .ptr 4 0), (6, .ptr 6 0), (7, .ptr 7 0), (12, .pv (ks all)), (13, .pv (pI i))],
    [(4, .box [.pv (pS j.kind), .pv (pI j.parts), .pv (pI j.need), .pv (pI j.window)]), (6, .box [.pv (pB key.num), .pv (pI key.n), .pv (pS key.s)]), (7, .box [.pv (pI x.part), .pv (pU x.id), .pv (pI x.at_)])]⟩)
    (fun i => i ≤ all.length ∧ ∀ m, m < i → (all.getD m default).id ≠ x.id) (fun i => all.length - i) 0 rfl ⟨Nat.zero_le _, fun m h => absurd h (by omega)⟩ ?_
  intro i ⟨hi, hq⟩
  by_cases hlt : i < all.length
  · by_cases he : (all.getD i default).id = x.id
    · simp only [go_sem, Nat.reduceEqDiff, Nat.reduceBEq, Nat.reduceAdd, Nat.reduceMul, Nat.reduceSub, Nat.reduceLeDiff, Nat.reduceLT, reduceIte, reduceCtorEq, Int.reduceToNat, Int.reduceLE, Int.reduceLT, Int.reduceNeg, Bool.not_not, and_self, Bool.and_eq_false_iff, Int.cast_ofNat_Int, Int.reduceAdd, Int.reduceSub, Int.reduceMul, Int.reduceEq, Int.reduceNe, B36_0, show (i : Int) < (all.length : Int) by omega, wf_ks, getD_ks hlt, eq_true he]
      have : idIn (allI l) x.id = true := by
        rw [hall]; unfold idIn
        rw [List.any_eq_true]
        exact ⟨all[i], List.getElem_mem hlt, by rw [getD_get hlt] at he; simpa using he⟩
      simp [feedRI, hc, hv, this, friErr]
    · simp only [go_sem, Nat.reduceEqDiff, Nat.reduceBEq, Nat.reduceAdd, Nat.reduceMul, Nat.reduceSub, Nat.reduceLeDiff, Nat.reduceLT, reduceIte, reduceCtorEq, Int.reduceToNat, Int.reduceLE, Int.reduceLT, Int.reduceNeg, Bool.not_not, and_self, Bool.and_eq_false_iff, Int.cast_ofNat_Int, Int.reduceAdd, Int.reduceSub, Int.reduceMul, Int.reduceEq, Int.reduceNe, B36_0, show (i : Int) < (all.length : Int) by omega, wf_ks, getD_ks hlt, he]
      refine ⟨⟨by omega, by omega⟩, i + 1, rfl, ⟨hlt, fun m hm => ?_⟩, by omega⟩
      by_cases hmk : m = i
      · subst hmk; exact he
      · exact hq m (by omega)
  · have hie : i = all.length := by omega
    subst hie
    have hno : idIn (allI l) x.id = false := by
      rw [hall]; unfold idIn
      rw [List.any_eq_false]
      intro y hy
      obtain ⟨m, hm, rfl⟩ := List.mem_iff_getElem.1 hy
      have := hq m hm
      rw [getD_get hm] at this
      simpa using this
    simp only [go_sem, Nat.reduceEqDiff, Nat.reduceBEq, Nat.reduceAdd, Nat.reduceMul, Nat.reduceSub, Nat.reduceLeDiff, Nat.reduceLT, reduceIte, reduceCtorEq, Int.reduceToNat, Int.reduceLE, Int.reduceLT, Int.reduceNeg, Bool.not_not, and_self, Bool.and_eq_false_iff, Int.cast_ofNat_Int, Int.reduceAdd, Int.reduceSub, Int.reduceMul, Int.reduceEq, Int.reduceNe, B36_0, R36_0, show ¬ ((all.length : Int) < (all.length : Int)) by omega]
    refine runR_callf (by simp only [go_sem, Nat.reduceEqDiff, Nat.reduceBEq, Nat.reduceAdd, Nat.reduceMul, Nat.reduceSub, Nat.reduceLeDiff, Nat.reduceLT, reduceIte, reduceCtorEq, Int.reduceToNat, Int.reduceLE, Int.reduceLT, Int.reduceNeg, Bool.not_not, and_self, Bool.and_eq_false_iff, Int.cast_ofNat_Int, Int.reduceAdd, Int.reduceSub, Int.reduceMul, Int.reduceEq, Int.reduceNe]) (by simp only [go_sem, Nat.reduceEqDiff, Nat.reduceBEq, Nat.reduceAdd, Nat.reduceMul, Nat.reduceSub, Nat.reduceLeDiff, Nat.reduceLT, reduceIte, reduceCtorEq, Int.reduceToNat, Int.reduceLE, Int.reduceLT, Int.reduceNeg, Bool.not_not, and_self, Bool.and_eq_false_iff, Int.cast_ofNat_Int, Int.reduceAdd, Int.reduceSub, Int.reduceMul, Int.reduceEq, Int.reduceNe]) (fn40 l key hl) ⟨rfl, trivial⟩ trivial ?_
    have h40 : l.length ≤ 40 := by
      simp only [checkI, Bool.and_eq_true, decide_eq_true_eq] at hc
      exact hc.1.1.2
    have hfd := findI_lt l key
    have rest : ∀ ws : List Kp, waitsI l key = ws → ∀ b : Bool, (findI l key < 0) = (b = true) →
        feedRI j l key x = (if (feedR j ws x).err ≠ 0 then friErr (feedR j ws x).err else if b = true ∧ 0 < (feedR j ws x).left.length ∧ 40 ≤ l.length then friErr 6 else ⟨withR l key (feedR j ws x).left, (feedR j ws x).fired, (feedR j ws x).over, 0⟩) := by
      intro ws hw b hb
      simp only [feedRI, hc, hv, hno, hw, hb]
      simp
    by_cases h0 : 0 ≤ findI l key
    · obtain ⟨n, hn, hnl⟩ : ∃ n : Nat, findI l key = n ∧ n < l.length := by
        rcases hfd with h | h
        · omega
        · exact h
      have hx := hk _ (List.getElem_mem hnl)
      have hr := rest l[n].l (by unfold waitsI; rw [if_pos h0, hn, Int.toNat_natCast, getI hnl]) false (by simp; omega)
      rw [hr]
      simp only [go_sem, Nat.reduceEqDiff, Nat.reduceBEq, Nat.reduceAdd, Nat.reduceMul, Nat.reduceSub, Nat.reduceLeDiff, Nat.reduceLT, reduceIte, reduceCtorEq, Int.reduceToNat, Int.reduceLE, Int.reduceLT, Int.reduceNeg, Bool.not_not, and_self, Bool.and_eq_false_iff, Int.cast_ofNat_Int, Int.reduceAdd, Int.reduceSub, Int.reduceMul, Int.reduceEq, Int.reduceNe, hn, wf_ins, getD_ins hnl, getI hnl, show (n : Int) < (l.length : Int) by omega]
      refine runR_call (by simp only [go_sem, Nat.reduceEqDiff, Nat.reduceBEq, Nat.reduceAdd, Nat.reduceMul, Nat.reduceSub, Nat.reduceLeDiff, Nat.reduceLT, reduceIte, reduceCtorEq, Int.reduceToNat, Int.reduceLE, Int.reduceLT, Int.reduceNeg, Bool.not_not, and_self, Bool.and_eq_false_iff, Int.cast_ofNat_Int, Int.reduceAdd, Int.reduceSub, Int.reduceMul, Int.reduceEq, Int.reduceNe]) rfl (fn20 j l[n].l x (by omega)) (.inl rfl) trivial ?_
      simp only [go_sem, Nat.reduceEqDiff, Nat.reduceBEq, Nat.reduceAdd, Nat.reduceMul, Nat.reduceSub, Nat.reduceLeDiff, Nat.reduceLT, reduceIte, reduceCtorEq, Int.reduceToNat, Int.reduceLE, Int.reduceLT, Int.reduceNeg, Bool.not_not, and_self, Bool.and_eq_false_iff, Int.cast_ofNat_Int, Int.reduceAdd, Int.reduceSub, Int.reduceMul, Int.reduceEq, Int.reduceNe]
      have hlen := (feedR_len j l[n].l x).1
      generalize feedR j l[n].l x = r at *
      refine ⟨fun he => ?_, fun he => ⟨fun h => absurd h.1.1 (by omega), fun _ => ?_⟩⟩
      · rw [if_pos he]; rfl
      · rw [if_neg (by simp [he])]
        exact tail36 l key r h40
    · have hr := rest [] (by unfold waitsI; rw [if_neg h0]) true (by simp; omega)
      rw [hr]
      simp only [go_sem, Nat.reduceEqDiff, Nat.reduceBEq, Nat.reduceAdd, Nat.reduceMul, Nat.reduceSub, Nat.reduceLeDiff, Nat.reduceLT, reduceIte, reduceCtorEq, Int.reduceToNat, Int.reduceLE, Int.reduceLT, Int.reduceNeg, Bool.not_not, and_self, Bool.and_eq_false_iff, Int.cast_ofNat_Int, Int.reduceAdd, Int.reduceSub, Int.reduceMul, Int.reduceEq, Int.reduceNe, h0]
      refine runR_call (by simp only [go_sem, Nat.reduceEqDiff, Nat.reduceBEq, Nat.reduceAdd, Nat.reduceMul, Nat.reduceSub, Nat.reduceLeDiff, Nat.reduceLT, reduceIte, reduceCtorEq, Int.reduceToNat, Int.reduceLE, Int.reduceLT, Int.reduceNeg, Bool.not_not, and_self, Bool.and_eq_false_iff, Int.cast_ofNat_Int, Int.reduceAdd, Int.reduceSub, Int.reduceMul, Int.reduceEq, Int.reduceNe]) rfl (fn20 j [] x (by simp)) (.inl rfl) trivial ?_
      simp only [go_sem, Nat.reduceEqDiff, Nat.reduceBEq, Nat.reduceAdd, Nat.reduceMul, Nat.reduceSub, Nat.reduceLeDiff, Nat.reduceLT, reduceIte, reduceCtorEq, Int.reduceToNat, Int.reduceLE, Int.reduceLT, Int.reduceNeg, Bool.not_not, and_self, Bool.and_eq_false_iff, Int.cast_ofNat_Int, Int.reduceAdd, Int.reduceSub, Int.reduceMul, Int.reduceEq, Int.reduceNe]
      generalize feedR j [] x = r at *
      refine ⟨fun he => ?_, fun he => ⟨fun h => ?_, fun h => ?_⟩⟩
      · rw [if_pos he]; rfl
      · rw [if_neg (by simp [he]), if_pos (by omega)]; rfl
      · rw [if_neg (by simp [he]), if_neg (by omega)]
        exact tail36 l key r h40
end Go.Vc
