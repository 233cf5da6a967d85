/- A part of the proofs of the seat Ytjlmnegbgmpekaa: the contracts of functions, each proved out of its code. -/
import Derived.Test.YtjlmnegbgmpekaaWv
import Derived.Test.YtjlmnegbgmpekaaVh
import Derived.Test.YtjlmnegbgmpekaaProg
namespace Go.Vc
open Go.Proofs
set_option linter.unusedSimpArgs false
set_option linter.unusedVariables false
set_option maxRecDepth 10000
theorem fn55 (l : List Tm) (hl : l.length < 100000) : Fn Try.prog 55 [tm l] (.pv (pB (checkT l))) [] := by
  refine Run55 [] (by simp) ?_
  simp only [go_sem, Nat.reduceEqDiff, Nat.reduceBEq, Nat.reduceAdd, Nat.reduceMul, Nat.reduceSub, Nat.reduceLeDiff, Nat.reduceLT, reduceIte, reduceCtorEq, Int.reduceToNat, Int.reduceLE, Int.reduceLT, Int.reduceNeg, Bool.not_not, and_self, Bool.and_eq_false_iff, Int.cast_ofNat_Int, Int.reduceAdd, Int.reduceSub, Int.reduceMul, Int.reduceEq, Int.reduceNe, M55]
  refine run_loop (T := Nat) (fun i => ⟨[(0, .pv (tm l)), (3, .pv (pI i))], []⟩) (fun i => i ≤ l.length ∧ ∀ j, j < i → okT l j = true) (fun i => l.length - i) 0 rfl ⟨Nat.zero_le _, fun j h => absurd h (by omega)⟩ ?_
  intro i ⟨hi, hq⟩
  by_cases hlt : i < l.length
  · have no : okT l i = false → checkT l = false := fun h => by
      cases hc : checkT l with
      | false => rfl
      | true => rw [((checkT_iff l).1 hc).2 i hlt] at h; cases h
    have next : okT l i = true → ∀ j, j < i + 1 → okT l j = true := fun h j hj => by
      by_cases hji : j = i
      · subst hji; exact h
      · exact hq j (by omega)
    have hok : okT l i = (atB (l[i]).at_ && (decide (i = 0) || ltT (l.getD (i - 1) default) l[i]) && !(l.take i).any (fun y => decide (y.id = (l[i]).id))) := by
      unfold okT; rw [getD_get hlt]
    have hcase : (i = 0 ∨ ∃ h0 : 0 < i, ∃ h1 : i - 1 < l.length, True) := by
      by_cases h0 : i = 0
      · exact .inl h0
      · exact .inr ⟨by omega, by omega, trivial⟩
    rcases hcase with h0 | ⟨h0, hlt1, _⟩
    · subst h0
      simp only [go_sem, Nat.reduceEqDiff, Nat.reduceBEq, Nat.reduceAdd, Nat.reduceMul, Nat.reduceSub, Nat.reduceLeDiff, Nat.reduceLT, reduceIte, reduceCtorEq, Int.reduceToNat, Int.reduceLE, Int.reduceLT, Int.reduceNeg, Bool.not_not, and_self, Bool.and_eq_false_iff, Int.cast_ofNat_Int, Int.reduceAdd, Int.reduceSub, Int.reduceMul, Int.reduceEq, Int.reduceNe, B55_0, wf_tm, getD_map hlt, show (0 : Int) < (l.length : Int) by omega]
      simp only [decide_true, Bool.true_or, Bool.and_true, List.take_zero, List.any_nil, Bool.not_false] at hok
      refine runR_callgf (p := pB true) (by simp only [go_sem, Nat.reduceEqDiff, Nat.reduceBEq, Nat.reduceAdd, Nat.reduceMul, Nat.reduceSub, Nat.reduceLeDiff, Nat.reduceLT, reduceIte, reduceCtorEq, Int.reduceToNat, Int.reduceLE, Int.reduceLT, Int.reduceNeg, Bool.not_not, and_self, Bool.and_eq_false_iff, Int.cast_ofNat_Int, Int.reduceAdd, Int.reduceSub, Int.reduceMul, Int.reduceEq, Int.reduceNe]) (by simp only [go_sem, Nat.reduceEqDiff, Nat.reduceBEq, Nat.reduceAdd, Nat.reduceMul, Nat.reduceSub, Nat.reduceLeDiff, Nat.reduceLT, reduceIte, reduceCtorEq, Int.reduceToNat, Int.reduceLE, Int.reduceLT, Int.reduceNeg, Bool.not_not, and_self, Bool.and_eq_false_iff, Int.cast_ofNat_Int, Int.reduceAdd, Int.reduceSub, Int.reduceMul, Int.reduceEq, Int.reduceNe]) (by simp only [go_sem, Nat.reduceEqDiff, Nat.reduceBEq, Nat.reduceAdd, Nat.reduceMul, Nat.reduceSub, Nat.reduceLeDiff, Nat.reduceLT, reduceIte, reduceCtorEq, Int.reduceToNat, Int.reduceLE, Int.reduceLT, Int.reduceNeg, Bool.not_not, and_self, Bool.and_eq_false_iff, Int.cast_ofNat_Int, Int.reduceAdd, Int.reduceSub, Int.reduceMul, Int.reduceEq, Int.reduceNe] <;> rfl) (fun h => absurd h (by simp only [go_sem, Nat.reduceEqDiff, Nat.reduceBEq, Nat.reduceAdd, Nat.reduceMul, Nat.reduceSub, Nat.reduceLeDiff, Nat.reduceLT, reduceIte, reduceCtorEq, Int.reduceToNat, Int.reduceLE, Int.reduceLT, Int.reduceNeg, Bool.not_not, and_self, Bool.and_eq_false_iff, Int.cast_ofNat_Int, Int.reduceAdd, Int.reduceSub, Int.reduceMul, Int.reduceEq, Int.reduceNe])) rfl ?_
      simp only [go_sem, Nat.reduceEqDiff, Nat.reduceBEq, Nat.reduceAdd, Nat.reduceMul, Nat.reduceSub, Nat.reduceLeDiff, Nat.reduceLT, reduceIte, reduceCtorEq, Int.reduceToNat, Int.reduceLE, Int.reduceLT, Int.reduceNeg, Bool.not_not, and_self, Bool.and_eq_false_iff, Int.cast_ofNat_Int, Int.reduceAdd, Int.reduceSub, Int.reduceMul, Int.reduceEq, Int.reduceNe]
      refine ⟨fun h => ?_, fun h => ?_⟩
      · have : atB (l[0]).at_ = false := by simp [atB]; omega
        rw [no (by rw [hok, this])]
      have hat : atB (l[0]).at_ = true := by simp [atB]; omega
      refine run_loop (T := Nat) (fun _ => ⟨[(0, .pv (tm l)), (3, .pv (pI 0)), (4, .pv (pI 0))], []⟩) (fun _ => True) (fun _ => 0) 0 rfl trivial ?_
      intro k _
      simp only [go_sem, Nat.reduceEqDiff, Nat.reduceBEq, Nat.reduceAdd, Nat.reduceMul, Nat.reduceSub, Nat.reduceLeDiff, Nat.reduceLT, reduceIte, reduceCtorEq, Int.reduceToNat, Int.reduceLE, Int.reduceLT, Int.reduceNeg, Bool.not_not, and_self, Bool.and_eq_false_iff, Int.cast_ofNat_Int, Int.reduceAdd, Int.reduceSub, Int.reduceMul, Int.reduceEq, Int.reduceNe, B55_1]
      exact ⟨1, rfl, ⟨by omega, next (by rw [hok, hat])⟩, by omega⟩
    · have e1 : ((i : Int) - 1).toNat = i - 1 := by omega
      simp only [go_sem, Nat.reduceEqDiff, Nat.reduceBEq, Nat.reduceAdd, Nat.reduceMul, Nat.reduceSub, Nat.reduceLeDiff, Nat.reduceLT, reduceIte, reduceCtorEq, Int.reduceToNat, Int.reduceLE, Int.reduceLT, Int.reduceNeg, Bool.not_not, and_self, Bool.and_eq_false_iff, Int.cast_ofNat_Int, Int.reduceAdd, Int.reduceSub, Int.reduceMul, Int.reduceEq, Int.reduceNe, B55_0, wf_tm, e1, getD_map hlt, getD_map hlt1, show (i : Int) < (l.length : Int) by omega, show (0 : Int) < (i : Int) by omega]
      rw [getD_get hlt1] at hok
      refine ⟨fun h => ⟨h, by omega, by omega⟩, fun h => ⟨h, by omega, by omega⟩, ?_⟩
      refine runR_callgf (by simp only [go_sem, Nat.reduceEqDiff, Nat.reduceBEq, Nat.reduceAdd, Nat.reduceMul, Nat.reduceSub, Nat.reduceLeDiff, Nat.reduceLT, reduceIte, reduceCtorEq, Int.reduceToNat, Int.reduceLE, Int.reduceLT, Int.reduceNeg, Bool.not_not, and_self, Bool.and_eq_false_iff, Int.cast_ofNat_Int, Int.reduceAdd, Int.reduceSub, Int.reduceMul, Int.reduceEq, Int.reduceNe]) (by simp only [go_sem, Nat.reduceEqDiff, Nat.reduceBEq, Nat.reduceAdd, Nat.reduceMul, Nat.reduceSub, Nat.reduceLeDiff, Nat.reduceLT, reduceIte, reduceCtorEq, Int.reduceToNat, Int.reduceLE, Int.reduceLT, Int.reduceNeg, Bool.not_not, and_self, Bool.and_eq_false_iff, Int.cast_ofNat_Int, Int.reduceAdd, Int.reduceSub, Int.reduceMul, Int.reduceEq, Int.reduceNe]) (by simp only [go_sem, Nat.reduceEqDiff, Nat.reduceBEq, Nat.reduceAdd, Nat.reduceMul, Nat.reduceSub, Nat.reduceLeDiff, Nat.reduceLT, reduceIte, reduceCtorEq, Int.reduceToNat, Int.reduceLE, Int.reduceLT, Int.reduceNeg, Bool.not_not, and_self, Bool.and_eq_false_iff, Int.cast_ofNat_Int, Int.reduceAdd, Int.reduceSub, Int.reduceMul, Int.reduceEq, Int.reduceNe] <;> rfl) (fun _ => fn93 l[i - 1] l[i]) rfl ?_
      simp only [go_sem, Nat.reduceEqDiff, Nat.reduceBEq, Nat.reduceAdd, Nat.reduceMul, Nat.reduceSub, Nat.reduceLeDiff, Nat.reduceLT, reduceIte, reduceCtorEq, Int.reduceToNat, Int.reduceLE, Int.reduceLT, Int.reduceNeg, Bool.not_not, and_self, Bool.and_eq_false_iff, Int.cast_ofNat_Int, Int.reduceAdd, Int.reduceSub, Int.reduceMul, Int.reduceEq, Int.reduceNe]
      refine ⟨fun h => ?_, fun h => ?_⟩
      · have : okT l i = false := by
          rw [hok]
          cases h9 : ltT l[i - 1] l[i] with
          | false => simp; omega
          | true =>
            have : atB (l[i]).at_ = false := by rw [h9] at h; simp [atB]; simp at h; omega
            rw [this]; rfl
        rw [no this]
      have hlt9 : ltT l[i - 1] l[i] = true := by
        cases h9 : ltT l[i - 1] l[i] with
        | true => rfl
        | false => rw [h9] at h; simp at h
      have hat : atB (l[i]).at_ = true := by simp [atB]; omega
      refine run_loop (T := Nat) (fun k => ⟨[(0, .pv (tm l)), (3, .pv (pI i)), (4, .pv (pI k))], []⟩) (fun k => k ≤ i ∧ ∀ j (h : j < l.length), j < k → (l[j]).id ≠ (l[i]).id) (fun k => i - k) 0 rfl ⟨Nat.zero_le _, fun j _ h => absurd h (by omega)⟩ ?_
      intro k ⟨hk, hq2⟩
      by_cases hki : k < i
      · have hkl : k < l.length := by omega
        simp only [go_sem, Nat.reduceEqDiff, Nat.reduceBEq, Nat.reduceAdd, Nat.reduceMul, Nat.reduceSub, Nat.reduceLeDiff, Nat.reduceLT, reduceIte, reduceCtorEq, Int.reduceToNat, Int.reduceLE, Int.reduceLT, Int.reduceNeg, Bool.not_not, and_self, Bool.and_eq_false_iff, Int.cast_ofNat_Int, Int.reduceAdd, Int.reduceSub, Int.reduceMul, Int.reduceEq, Int.reduceNe, B55_1, wf_tm, getD_map hkl, getD_map hlt, show (k : Int) < (i : Int) by omega, show (k : Int) < (l.length : Int) by omega, show (i : Int) < (l.length : Int) by omega]
        refine ⟨fun he => ?_, fun he => ?_⟩
        · have : (l.take i).any (fun y => decide (y.id = (l[i]).id)) = true := by
            rw [List.any_eq_true]
            exact ⟨l[k], List.mem_take_iff_getElem.2 ⟨k, by omega, rfl⟩, by simpa using he⟩
          rw [no (by rw [hok, this]; simp)]
        · refine ⟨⟨by omega, by omega⟩, k + 1, rfl, ⟨by omega, fun j hj hjk => ?_⟩, by omega⟩
          by_cases hjk2 : j = k
          · subst hjk2; exact he
          · exact hq2 j hj (by omega)
      · simp only [go_sem, Nat.reduceEqDiff, Nat.reduceBEq, Nat.reduceAdd, Nat.reduceMul, Nat.reduceSub, Nat.reduceLeDiff, Nat.reduceLT, reduceIte, reduceCtorEq, Int.reduceToNat, Int.reduceLE, Int.reduceLT, Int.reduceNeg, Bool.not_not, and_self, Bool.and_eq_false_iff, Int.cast_ofNat_Int, Int.reduceAdd, Int.reduceSub, Int.reduceMul, Int.reduceEq, Int.reduceNe, B55_1, show ¬ ((k : Int) < (i : Int)) by omega]
        have hany : (l.take i).any (fun y => decide (y.id = (l[i]).id)) = false := by
          rw [List.any_eq_false]
          intro y hy
          obtain ⟨j, hj, rfl⟩ := List.mem_take_iff_getElem.1 hy
          simpa using hq2 j (by omega) (by omega)
        exact ⟨⟨by omega, by omega⟩, i + 1, rfl, ⟨by omega, next (by rw [hok, hat, hlt9, hany]; simp)⟩, by omega⟩
  · simp only [go_sem, Nat.reduceEqDiff, Nat.reduceBEq, Nat.reduceAdd, Nat.reduceMul, Nat.reduceSub, Nat.reduceLeDiff, Nat.reduceLT, reduceIte, reduceCtorEq, Int.reduceToNat, Int.reduceLE, Int.reduceLT, Int.reduceNeg, Bool.not_not, and_self, Bool.and_eq_false_iff, Int.cast_ofNat_Int, Int.reduceAdd, Int.reduceSub, Int.reduceMul, Int.reduceEq, Int.reduceNe, B55_0, R55_0, show ¬ ((i : Int) < (l.length : Int)) by omega]
    have e : checkT l = true ↔ l.length ≤ 120 := by rw [checkT_iff]; exact ⟨fun h => h.1, fun h => ⟨h, fun j hj => hq j (by omega)⟩⟩
    by_cases h : l.length ≤ 120
    · rw [e.2 h]; simp; omega
    · cases hc : checkT l with
      | false => simp; omega
      | true => exact absurd (e.1 hc) h
end Go.Vc

namespace Go.Vc
open Go.Proofs
set_option maxRecDepth 100000

/-- 'trystlaw11.WheelRings' -/
def M14 : MC := (.seq (.reg [⟨(some 4), none, (.q (.mv (.c (.bool false))))⟩] [] [0, 1] [1010]) (.seq (.reg [⟨(some 9), none, (.q (.mv (.t 0)))⟩, ⟨(some 10), none, (.call (.f 53) [(.t 9)])⟩,
  ⟨(some 0), none, (.q (.mv (.t 10)))⟩] [] [0, 1] [1010]) (.seq (.reg [⟨(some 12), none, (.q (.mv (.t 0)))⟩, ⟨(some 13), none, (.q (.mv (.t 1)))⟩, ⟨(some 14), none, (.call (.f 54) [(.t 12),
  (.t 13)])⟩, ⟨(some 11), none, (.q (.mv (.t 14)))⟩, ⟨(some 15), none, (.q (.ext (.t 11) 0))⟩, ⟨(some 16), none, (.q (.ext (.t 11) 1))⟩, ⟨(some 5), none, (.q (.mv (.t 15)))⟩, ⟨(some 6), none,
  (.q (.mv (.t 16)))⟩] [] [0, 1, 5, 6] [1010, 1014]) (.seq (.seq (.reg [⟨(some 17), none, (.q (.mv (.t 0)))⟩, ⟨(some 18), none, (.call (.f 55) [(.t 17)])⟩, ⟨(some 19), none,
  (.q (.not (.t 18)))⟩] [] [0, 1, 5, 6, 19] [1010, 1014, 1018]) (.cond (.t 19) (.seq (.reg [⟨(some 20), none, (.q (.mv (.t 5)))⟩, ⟨(some 21), none, (.q (.len (.t 20) false))⟩, ⟨(some 22), none,
  (.q (.mv (.t 6)))⟩, ⟨(some 23), none, (.q (.len (.t 22) false))⟩, ⟨(some 24), none, (.q (.bin .add (.t 21) (.t 23)))⟩, ⟨(some 25), none, (.q (.bin .eql (.t 24) (.c (.int .i64 0))))⟩, ⟨(some 26),
  none, (.q (.mv (.t 25)))⟩, ⟨(some 27), (some (26, true)), (.call (.f 56) [])⟩, ⟨(some 28), none, (.q (.pick (.t 26) (.t 27) (.c (.bool false))))⟩, ⟨(some 4), none, (.q (.mv (.t 28)))⟩] [] [4] [1027,
  1037, 1041, 1044]) .ret) .skip)) (.seq (.reg [⟨(some 30), none, (.q (.mv (.t 0)))⟩, ⟨(some 31), none, (.q (.mv (.t 1)))⟩, ⟨(some 32), none, (.call (.f 57) [(.t 30), (.t 31)])⟩, ⟨(some 29), none,
  (.q (.mv (.t 32)))⟩, ⟨(some 33), none, (.q (.ext (.t 29) 0))⟩, ⟨(some 34), none, (.q (.ext (.t 29) 1))⟩, ⟨(some 7), none, (.q (.mv (.t 33)))⟩, ⟨(some 8), none, (.q (.mv (.t 34)))⟩] [] [5, 6, 7,
  8] [1014, 1032]) (.seq (.reg [⟨(some 35), none, (.q (.mv (.t 5)))⟩, ⟨(some 36), none, (.q (.mv (.t 7)))⟩, ⟨(some 37), none, (.call (.f 58) [(.t 35), (.t 36)])⟩, ⟨(some 38), none,
  (.q (.mv (.t 37)))⟩, ⟨(some 39), (some (38, true)), (.q (.mv (.t 6)))⟩, ⟨(some 40), (some (38, true)), (.q (.mv (.t 8)))⟩, ⟨(some 41), (some (38, true)), (.call (.f 59) [(.t 39), (.t 40)])⟩,
  ⟨(some 42), none, (.q (.pick (.t 38) (.t 41) (.c (.bool false))))⟩, ⟨(some 43), none, (.q (.mv (.t 42)))⟩, ⟨(some 44), (some (43, true)), (.call (.f 56) [])⟩, ⟨(some 45), none, (.q (.pick (.t 43)
  (.t 44) (.c (.bool false))))⟩, ⟨(some 4), none, (.q (.mv (.t 45)))⟩] [] [4] [1027, 1037, 1041, 1044]) .ret))))))
theorem mc14 : ofCode Try.prog [] Try.f14.ntmps [(0, ⟨[0, 1], [1010], [], 0, [], none⟩),
    (1, ⟨[0, 1], [1010], [], 0, [], none⟩),
    (2, ⟨[0, 1, 5, 6], [1010, 1014], [], 0, [], none⟩),
    (3, ⟨[0, 1, 5, 6, 19], [1010, 1014, 1018], [], 0, [], none⟩),
    (4, ⟨[4], [1027, 1037, 1041, 1044], [], 0, [], none⟩),
    (5, ⟨[5, 6, 7, 8], [1014, 1032], [], 0, [], none⟩),
    (6, ⟨[4], [1027, 1037, 1041, 1044], [], 0, [], none⟩)] (Try.f14.body.getD .skip) = some M14 := by kernel_rfl
theorem Run14 {args : List PV} {v : AV} {rs : List (Nat × List PV)} (ids : List Bool) (h : args.length ≤ 46) (hv : run Try.prog (retK [RV.tmp 4] ids v rs) M14 [] ⟨entry 0 args, []⟩) : Fn Try.prog 14 args v rs :=
  Fn_run ids (by kernel_rfl) Try.func14 (by decide) rfl mc14 (by kernel_rfl) (by rw [Try.ntmps14]; exact h) (by rw [Try.ntmps14]; decide) hv

end Go.Vc

namespace Go.Vc
open Go.Proofs
set_option linter.unusedSimpArgs false
set_option linter.unusedVariables false
set_option maxRecDepth 10000

theorem law14 (l : List Tm) (now : Int) (hl : l.length ≤ 9223372036854775807) : Fn Try.prog 14 [tm l, pI now] (.pv (pB true)) [] := by
  refine Run14 [] (by simp) ?_
  simp only [go_sem, Nat.reduceEqDiff, Nat.reduceBEq, Nat.reduceAdd, Nat.reduceMul, Nat.reduceSub, Nat.reduceLeDiff, Nat.reduceLT, reduceIte, reduceCtorEq, Int.reduceToNat, Int.reduceLE, Int.reduceLT, Int.reduceNeg, Bool.not_not, and_self, Bool.and_eq_false_iff, Int.cast_ofNat_Int, Int.reduceAdd, Int.reduceSub, Int.reduceMul, Int.reduceEq, Int.reduceNe, M14]
  refine runR_call (by simp only [go_sem, Nat.reduceEqDiff, Nat.reduceBEq, Nat.reduceAdd, Nat.reduceMul, Nat.reduceSub, Nat.reduceLeDiff, Nat.reduceLT, reduceIte, reduceCtorEq, Int.reduceToNat, Int.reduceLE, Int.reduceLT, Int.reduceNeg, Bool.not_not, and_self, Bool.and_eq_false_iff, Int.cast_ofNat_Int, Int.reduceAdd, Int.reduceSub, Int.reduceMul, Int.reduceEq, Int.reduceNe]) rfl (fn53 l hl) (.inl rfl) trivial ?_
  simp only [go_sem, Nat.reduceEqDiff, Nat.reduceBEq, Nat.reduceAdd, Nat.reduceMul, Nat.reduceSub, Nat.reduceLeDiff, Nat.reduceLT, reduceIte, reduceCtorEq, Int.reduceToNat, Int.reduceLE, Int.reduceLT, Int.reduceNeg, Bool.not_not, and_self, Bool.and_eq_false_iff, Int.cast_ofNat_Int, Int.reduceAdd, Int.reduceSub, Int.reduceMul, Int.reduceEq, Int.reduceNe]
  have hm : (l.take 121).length ≤ 121 := by simp; omega
  generalize l.take 121 = m at hm ⊢
  have e1 := fn54 m now (by omega)
  have e2 := fn57 m now (by omega)
  have e3 := fn55 m (by omega)
  have hla : (laterT m now).length ≤ m.length := List.length_filter_le _ _
  have hru : (rungT m now).length ≤ m.length := by unfold rungT; rw [List.length_map]; exact List.length_filter_le _ _
  cases hc : checkT m with
  | false =>
    rw [hc] at e1 e3
    simp only [Bool.false_eq_true, if_false] at e1
    refine runR_call (by simp only [go_sem, Nat.reduceEqDiff, Nat.reduceBEq, Nat.reduceAdd, Nat.reduceMul, Nat.reduceSub, Nat.reduceLeDiff, Nat.reduceLT, reduceIte, reduceCtorEq, Int.reduceToNat, Int.reduceLE, Int.reduceLT, Int.reduceNeg, Bool.not_not, and_self, Bool.and_eq_false_iff, Int.cast_ofNat_Int, Int.reduceAdd, Int.reduceSub, Int.reduceMul, Int.reduceEq, Int.reduceNe]) rfl (e1) (.inl rfl) trivial ?_
    simp only [go_sem, Nat.reduceEqDiff, Nat.reduceBEq, Nat.reduceAdd, Nat.reduceMul, Nat.reduceSub, Nat.reduceLeDiff, Nat.reduceLT, reduceIte, reduceCtorEq, Int.reduceToNat, Int.reduceLE, Int.reduceLT, Int.reduceNeg, Bool.not_not, and_self, Bool.and_eq_false_iff, Int.cast_ofNat_Int, Int.reduceAdd, Int.reduceSub, Int.reduceMul, Int.reduceEq, Int.reduceNe]
    refine runR_callf (by simp only [go_sem, Nat.reduceEqDiff, Nat.reduceBEq, Nat.reduceAdd, Nat.reduceMul, Nat.reduceSub, Nat.reduceLeDiff, Nat.reduceLT, reduceIte, reduceCtorEq, Int.reduceToNat, Int.reduceLE, Int.reduceLT, Int.reduceNeg, Bool.not_not, and_self, Bool.and_eq_false_iff, Int.cast_ofNat_Int, Int.reduceAdd, Int.reduceSub, Int.reduceMul, Int.reduceEq, Int.reduceNe]) (by simp only [go_sem, Nat.reduceEqDiff, Nat.reduceBEq, Nat.reduceAdd, Nat.reduceMul, Nat.reduceSub, Nat.reduceLeDiff, Nat.reduceLT, reduceIte, reduceCtorEq, Int.reduceToNat, Int.reduceLE, Int.reduceLT, Int.reduceNeg, Bool.not_not, and_self, Bool.and_eq_false_iff, Int.cast_ofNat_Int, Int.reduceAdd, Int.reduceSub, Int.reduceMul, Int.reduceEq, Int.reduceNe] <;> rfl) (e3) ⟨rfl, trivial⟩ trivial ?_
    simp only [go_sem, Nat.reduceEqDiff, Nat.reduceBEq, Nat.reduceAdd, Nat.reduceMul, Nat.reduceSub, Nat.reduceLeDiff, Nat.reduceLT, reduceIte, reduceCtorEq, Int.reduceToNat, Int.reduceLE, Int.reduceLT, Int.reduceNeg, Bool.not_not, and_self, Bool.and_eq_false_iff, Int.cast_ofNat_Int, Int.reduceAdd, Int.reduceSub, Int.reduceMul, Int.reduceEq, Int.reduceNe]
    refine runR_callgf (by simp only [go_sem, Nat.reduceEqDiff, Nat.reduceBEq, Nat.reduceAdd, Nat.reduceMul, Nat.reduceSub, Nat.reduceLeDiff, Nat.reduceLT, reduceIte, reduceCtorEq, Int.reduceToNat, Int.reduceLE, Int.reduceLT, Int.reduceNeg, Bool.not_not, and_self, Bool.and_eq_false_iff, Int.cast_ofNat_Int, Int.reduceAdd, Int.reduceSub, Int.reduceMul, Int.reduceEq, Int.reduceNe]) (by simp only [go_sem, Nat.reduceEqDiff, Nat.reduceBEq, Nat.reduceAdd, Nat.reduceMul, Nat.reduceSub, Nat.reduceLeDiff, Nat.reduceLT, reduceIte, reduceCtorEq, Int.reduceToNat, Int.reduceLE, Int.reduceLT, Int.reduceNeg, Bool.not_not, and_self, Bool.and_eq_false_iff, Int.cast_ofNat_Int, Int.reduceAdd, Int.reduceSub, Int.reduceMul, Int.reduceEq, Int.reduceNe]) (by simp only [go_sem, Nat.reduceEqDiff, Nat.reduceBEq, Nat.reduceAdd, Nat.reduceMul, Nat.reduceSub, Nat.reduceLeDiff, Nat.reduceLT, reduceIte, reduceCtorEq, Int.reduceToNat, Int.reduceLE, Int.reduceLT, Int.reduceNeg, Bool.not_not, and_self, Bool.and_eq_false_iff, Int.cast_ofNat_Int, Int.reduceAdd, Int.reduceSub, Int.reduceMul, Int.reduceEq, Int.reduceNe] <;> rfl) (fun _ => fn56) rfl ?_
    simp only [go_sem, Nat.reduceEqDiff, Nat.reduceBEq, Nat.reduceAdd, Nat.reduceMul, Nat.reduceSub, Nat.reduceLeDiff, Nat.reduceLT, reduceIte, reduceCtorEq, Int.reduceToNat, Int.reduceLE, Int.reduceLT, Int.reduceNeg, Bool.not_not, and_self, Bool.and_eq_false_iff, Int.cast_ofNat_Int, Int.reduceAdd, Int.reduceSub, Int.reduceMul, Int.reduceEq, Int.reduceNe]
  | true =>
    rw [hc] at e1 e3
    simp only [if_true] at e1
    refine runR_call (by simp only [go_sem, Nat.reduceEqDiff, Nat.reduceBEq, Nat.reduceAdd, Nat.reduceMul, Nat.reduceSub, Nat.reduceLeDiff, Nat.reduceLT, reduceIte, reduceCtorEq, Int.reduceToNat, Int.reduceLE, Int.reduceLT, Int.reduceNeg, Bool.not_not, and_self, Bool.and_eq_false_iff, Int.cast_ofNat_Int, Int.reduceAdd, Int.reduceSub, Int.reduceMul, Int.reduceEq, Int.reduceNe]) rfl (e1) (.inl rfl) trivial ?_
    simp only [go_sem, Nat.reduceEqDiff, Nat.reduceBEq, Nat.reduceAdd, Nat.reduceMul, Nat.reduceSub, Nat.reduceLeDiff, Nat.reduceLT, reduceIte, reduceCtorEq, Int.reduceToNat, Int.reduceLE, Int.reduceLT, Int.reduceNeg, Bool.not_not, and_self, Bool.and_eq_false_iff, Int.cast_ofNat_Int, Int.reduceAdd, Int.reduceSub, Int.reduceMul, Int.reduceEq, Int.reduceNe]
    refine runR_callf (by simp only [go_sem, Nat.reduceEqDiff, Nat.reduceBEq, Nat.reduceAdd, Nat.reduceMul, Nat.reduceSub, Nat.reduceLeDiff, Nat.reduceLT, reduceIte, reduceCtorEq, Int.reduceToNat, Int.reduceLE, Int.reduceLT, Int.reduceNeg, Bool.not_not, and_self, Bool.and_eq_false_iff, Int.cast_ofNat_Int, Int.reduceAdd, Int.reduceSub, Int.reduceMul, Int.reduceEq, Int.reduceNe]) (by simp only [go_sem, Nat.reduceEqDiff, Nat.reduceBEq, Nat.reduceAdd, Nat.reduceMul, Nat.reduceSub, Nat.reduceLeDiff, Nat.reduceLT, reduceIte, reduceCtorEq, Int.reduceToNat, Int.reduceLE, Int.reduceLT, Int.reduceNeg, Bool.not_not, and_self, Bool.and_eq_false_iff, Int.cast_ofNat_Int, Int.reduceAdd, Int.reduceSub, Int.reduceMul, Int.reduceEq, Int.reduceNe] <;> rfl) (e3) ⟨rfl, trivial⟩ trivial ?_
    simp only [go_sem, Nat.reduceEqDiff, Nat.reduceBEq, Nat.reduceAdd, Nat.reduceMul, Nat.reduceSub, Nat.reduceLeDiff, Nat.reduceLT, reduceIte, reduceCtorEq, Int.reduceToNat, Int.reduceLE, Int.reduceLT, Int.reduceNeg, Bool.not_not, and_self, Bool.and_eq_false_iff, Int.cast_ofNat_Int, Int.reduceAdd, Int.reduceSub, Int.reduceMul, Int.reduceEq, Int.reduceNe]
    refine runR_call (by simp only [go_sem, Nat.reduceEqDiff, Nat.reduceBEq, Nat.reduceAdd, Nat.reduceMul, Nat.reduceSub, Nat.reduceLeDiff, Nat.reduceLT, reduceIte, reduceCtorEq, Int.reduceToNat, Int.reduceLE, Int.reduceLT, Int.reduceNeg, Bool.not_not, and_self, Bool.and_eq_false_iff, Int.cast_ofNat_Int, Int.reduceAdd, Int.reduceSub, Int.reduceMul, Int.reduceEq, Int.reduceNe]) rfl (e2) (.inl rfl) trivial ?_
    simp only [go_sem, Nat.reduceEqDiff, Nat.reduceBEq, Nat.reduceAdd, Nat.reduceMul, Nat.reduceSub, Nat.reduceLeDiff, Nat.reduceLT, reduceIte, reduceCtorEq, Int.reduceToNat, Int.reduceLE, Int.reduceLT, Int.reduceNeg, Bool.not_not, and_self, Bool.and_eq_false_iff, Int.cast_ofNat_Int, Int.reduceAdd, Int.reduceSub, Int.reduceMul, Int.reduceEq, Int.reduceNe]
    refine runR_callf (by simp only [go_sem, Nat.reduceEqDiff, Nat.reduceBEq, Nat.reduceAdd, Nat.reduceMul, Nat.reduceSub, Nat.reduceLeDiff, Nat.reduceLT, reduceIte, reduceCtorEq, Int.reduceToNat, Int.reduceLE, Int.reduceLT, Int.reduceNeg, Bool.not_not, and_self, Bool.and_eq_false_iff, Int.cast_ofNat_Int, Int.reduceAdd, Int.reduceSub, Int.reduceMul, Int.reduceEq, Int.reduceNe]) (by simp only [go_sem, Nat.reduceEqDiff, Nat.reduceBEq, Nat.reduceAdd, Nat.reduceMul, Nat.reduceSub, Nat.reduceLeDiff, Nat.reduceLT, reduceIte, reduceCtorEq, Int.reduceToNat, Int.reduceLE, Int.reduceLT, Int.reduceNeg, Bool.not_not, and_self, Bool.and_eq_false_iff, Int.cast_ofNat_Int, Int.reduceAdd, Int.reduceSub, Int.reduceMul, Int.reduceEq, Int.reduceNe] <;> rfl) (fn58 (laterT m now) (laterT m now) (by omega) (by omega)) ⟨rfl, trivial⟩ trivial ?_
    simp only [go_sem, Nat.reduceEqDiff, Nat.reduceBEq, Nat.reduceAdd, Nat.reduceMul, Nat.reduceSub, Nat.reduceLeDiff, Nat.reduceLT, reduceIte, reduceCtorEq, Int.reduceToNat, Int.reduceLE, Int.reduceLT, Int.reduceNeg, Bool.not_not, and_self, Bool.and_eq_false_iff, Int.cast_ofNat_Int, Int.reduceAdd, Int.reduceSub, Int.reduceMul, Int.reduceEq, Int.reduceNe]
    refine runR_callgf (by simp only [go_sem, Nat.reduceEqDiff, Nat.reduceBEq, Nat.reduceAdd, Nat.reduceMul, Nat.reduceSub, Nat.reduceLeDiff, Nat.reduceLT, reduceIte, reduceCtorEq, Int.reduceToNat, Int.reduceLE, Int.reduceLT, Int.reduceNeg, Bool.not_not, and_self, Bool.and_eq_false_iff, Int.cast_ofNat_Int, Int.reduceAdd, Int.reduceSub, Int.reduceMul, Int.reduceEq, Int.reduceNe]) (by simp only [go_sem, Nat.reduceEqDiff, Nat.reduceBEq, Nat.reduceAdd, Nat.reduceMul, Nat.reduceSub, Nat.reduceLeDiff, Nat.reduceLT, reduceIte, reduceCtorEq, Int.reduceToNat, Int.reduceLE, Int.reduceLT, Int.reduceNeg, Bool.not_not, and_self, Bool.and_eq_false_iff, Int.cast_ofNat_Int, Int.reduceAdd, Int.reduceSub, Int.reduceMul, Int.reduceEq, Int.reduceNe]) (by simp only [go_sem, Nat.reduceEqDiff, Nat.reduceBEq, Nat.reduceAdd, Nat.reduceMul, Nat.reduceSub, Nat.reduceLeDiff, Nat.reduceLT, reduceIte, reduceCtorEq, Int.reduceToNat, Int.reduceLE, Int.reduceLT, Int.reduceNeg, Bool.not_not, and_self, Bool.and_eq_false_iff, Int.cast_ofNat_Int, Int.reduceAdd, Int.reduceSub, Int.reduceMul, Int.reduceEq, Int.reduceNe] <;> rfl) (fun _ => fn59t (rungT m now) (rungT m now) (by omega) (by omega)) rfl ?_
    simp only [go_sem, Nat.reduceEqDiff, Nat.reduceBEq, Nat.reduceAdd, Nat.reduceMul, Nat.reduceSub, Nat.reduceLeDiff, Nat.reduceLT, reduceIte, reduceCtorEq, Int.reduceToNat, Int.reduceLE, Int.reduceLT, Int.reduceNeg, Bool.not_not, and_self, Bool.and_eq_false_iff, Int.cast_ofNat_Int, Int.reduceAdd, Int.reduceSub, Int.reduceMul, Int.reduceEq, Int.reduceNe]
    refine runR_callgf (by simp only [go_sem, Nat.reduceEqDiff, Nat.reduceBEq, Nat.reduceAdd, Nat.reduceMul, Nat.reduceSub, Nat.reduceLeDiff, Nat.reduceLT, reduceIte, reduceCtorEq, Int.reduceToNat, Int.reduceLE, Int.reduceLT, Int.reduceNeg, Bool.not_not, and_self, Bool.and_eq_false_iff, Int.cast_ofNat_Int, Int.reduceAdd, Int.reduceSub, Int.reduceMul, Int.reduceEq, Int.reduceNe]) (by simp only [go_sem, Nat.reduceEqDiff, Nat.reduceBEq, Nat.reduceAdd, Nat.reduceMul, Nat.reduceSub, Nat.reduceLeDiff, Nat.reduceLT, reduceIte, reduceCtorEq, Int.reduceToNat, Int.reduceLE, Int.reduceLT, Int.reduceNeg, Bool.not_not, and_self, Bool.and_eq_false_iff, Int.cast_ofNat_Int, Int.reduceAdd, Int.reduceSub, Int.reduceMul, Int.reduceEq, Int.reduceNe]) (by simp only [go_sem, Nat.reduceEqDiff, Nat.reduceBEq, Nat.reduceAdd, Nat.reduceMul, Nat.reduceSub, Nat.reduceLeDiff, Nat.reduceLT, reduceIte, reduceCtorEq, Int.reduceToNat, Int.reduceLE, Int.reduceLT, Int.reduceNeg, Bool.not_not, and_self, Bool.and_eq_false_iff, Int.cast_ofNat_Int, Int.reduceAdd, Int.reduceSub, Int.reduceMul, Int.reduceEq, Int.reduceNe] <;> rfl) (fun _ => fn56) rfl ?_
    simp only [go_sem, Nat.reduceEqDiff, Nat.reduceBEq, Nat.reduceAdd, Nat.reduceMul, Nat.reduceSub, Nat.reduceLeDiff, Nat.reduceLT, reduceIte, reduceCtorEq, Int.reduceToNat, Int.reduceLE, Int.reduceLT, Int.reduceNeg, Bool.not_not, and_self, Bool.and_eq_false_iff, Int.cast_ofNat_Int, Int.reduceAdd, Int.reduceSub, Int.reduceMul, Int.reduceEq, Int.reduceNe]
end Go.Vc
