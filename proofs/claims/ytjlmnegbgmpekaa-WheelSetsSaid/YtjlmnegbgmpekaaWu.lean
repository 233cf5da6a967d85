/- A part of the proofs of the seat Ytjlmnegbgmpekaa: the contracts of functions, each proved out of its code. -/
import Derived.Test.YtjlmnegbgmpekaaWs
import Derived.Test.YtjlmnegbgmpekaaWt
import Derived.Test.YtjlmnegbgmpekaaWe
import Derived.Test.YtjlmnegbgmpekaaVq
import Derived.Test.YtjlmnegbgmpekaaWc
namespace Go.Vc
open Go.Proofs
set_option linter.unusedSimpArgs false
set_option linter.unusedVariables false

/-! ## Timers -/
abbrev Tm.pv (x : Tm) : PV := .agg [pI x.at_, pU x.id]
abbrev tm (l : List Tm) : PV := .lst (l.map Tm.pv)
theorem wf_tm (l : List Tm) : WfL 2 (l.map Tm.pv) := wf_map (f := Tm.pv) (s := 2) (fun a => ⟨rfl, fun c hc => by
  simp only [PV.cells, List.mem_cons, List.not_mem_nil, or_false] at hc
  rcases hc with rfl | rfl <;> rfl⟩) l
def cmpT (a b : Tm) : Int := orL [cmpI a.at_ b.at_, cmpI a.id b.id]
theorem cmpI_lt {a b : Int} : cmpI a b < 0 ↔ a < b := by unfold cmpI; split <;> (try split) <;> simp <;> omega
theorem cmpI_eq {a b : Int} : cmpI a b = 0 ↔ a = b := by unfold cmpI; split <;> (try split) <;> simp <;> omega
theorem cmpT_val (a b : Tm) : cmpT a b = if cmpI a.at_ b.at_ ≠ 0 then cmpI a.at_ b.at_ else cmpI a.id b.id := by
  unfold cmpT orL
  by_cases h : cmpI a.at_ b.at_ = 0
  · by_cases h2 : cmpI a.id b.id = 0 <;> simp [List.find?_cons, h, h2]
  · simp [List.find?_cons, h]
theorem cmpT_lt {a b : Tm} : cmpT a b < 0 ↔ ltT a b = true := by
  rw [cmpT_val, ltT_iff]
  by_cases h : cmpI a.at_ b.at_ = 0
  · rw [if_neg (by simpa using h), cmpI_lt]
    have := cmpI_eq.1 h
    omega
  · rw [if_pos h, cmpI_lt]
    have : ¬ a.at_ = b.at_ := fun e => h (cmpI_eq.2 e)
    omega
theorem ltOf_T (a b : Tm) : Go.Proofs.ltOf cmpT a b = ltT a b := by
  unfold Go.Proofs.ltOf
  rw [Bool.eq_iff_iff, decide_eq_true_eq, cmpT_lt]
theorem swo_T : Go.Sort.SWO (Go.Proofs.ltOf cmpT) := by
  refine ⟨fun x => ?_, fun x y z h1 h2 => ?_, fun x y z h1 h2 => ?_⟩
  · rw [ltOf_T]; simp [ltT]
  · rw [ltOf_T] at *
    rw [ltT_iff] at *
    omega
  · rw [ltOf_T] at *
    simp only [ltT, Bool.or_eq_false_iff, Bool.and_eq_false_iff, decide_eq_false_iff_not] at *
    omega
theorem fn94 (a b : Tm) : Fn Try.prog 94 [a.pv, b.pv] (.pv (pI (cmpT a b))) [] := by
  refine Run94 [] (by simp) ?_
  simp only [go_sem, Nat.reduceEqDiff, Nat.reduceBEq, Nat.reduceAdd, Nat.reduceMul, Nat.reduceSub, Nat.reduceLeDiff, Nat.reduceLT, reduceIte, reduceCtorEq, Int.reduceToNat, Int.reduceLE, Int.reduceLT, Int.reduceNeg, Bool.not_not, and_self, Bool.and_eq_false_iff, Int.cast_ofNat_Int, Int.reduceAdd, Int.reduceSub, Int.reduceMul, Int.reduceEq, Int.reduceNe, M94]
  refine runR_callf (by simp only [go_sem, Nat.reduceEqDiff, Nat.reduceBEq, Nat.reduceAdd, Nat.reduceMul, Nat.reduceSub, Nat.reduceLeDiff, Nat.reduceLT, reduceIte, reduceCtorEq, Int.reduceToNat, Int.reduceLE, Int.reduceLT, Int.reduceNeg, Bool.not_not, and_self, Bool.and_eq_false_iff, Int.cast_ofNat_Int, Int.reduceAdd, Int.reduceSub, Int.reduceMul, Int.reduceEq, Int.reduceNe]) (by simp only [go_sem, Nat.reduceEqDiff, Nat.reduceBEq, Nat.reduceAdd, Nat.reduceMul, Nat.reduceSub, Nat.reduceLeDiff, Nat.reduceLT, reduceIte, reduceCtorEq, Int.reduceToNat, Int.reduceLE, Int.reduceLT, Int.reduceNeg, Bool.not_not, and_self, Bool.and_eq_false_iff, Int.cast_ofNat_Int, Int.reduceAdd, Int.reduceSub, Int.reduceMul, Int.reduceEq, Int.reduceNe] <;> rfl) (fn78 a.at_ b.at_) ⟨rfl, trivial⟩ trivial ?_
  simp only [go_sem, Nat.reduceEqDiff, Nat.reduceBEq, Nat.reduceAdd, Nat.reduceMul, Nat.reduceSub, Nat.reduceLeDiff, Nat.reduceLT, reduceIte, reduceCtorEq, Int.reduceToNat, Int.reduceLE, Int.reduceLT, Int.reduceNeg, Bool.not_not, and_self, Bool.and_eq_false_iff, Int.cast_ofNat_Int, Int.reduceAdd, Int.reduceSub, Int.reduceMul, Int.reduceEq, Int.reduceNe]
  refine runR_callf (by simp only [go_sem, Nat.reduceEqDiff, Nat.reduceBEq, Nat.reduceAdd, Nat.reduceMul, Nat.reduceSub, Nat.reduceLeDiff, Nat.reduceLT, reduceIte, reduceCtorEq, Int.reduceToNat, Int.reduceLE, Int.reduceLT, Int.reduceNeg, Bool.not_not, and_self, Bool.and_eq_false_iff, Int.cast_ofNat_Int, Int.reduceAdd, Int.reduceSub, Int.reduceMul, Int.reduceEq, Int.reduceNe]) (by simp only [go_sem, Nat.reduceEqDiff, Nat.reduceBEq, Nat.reduceAdd, Nat.reduceMul, Nat.reduceSub, Nat.reduceLeDiff, Nat.reduceLT, reduceIte, reduceCtorEq, Int.reduceToNat, Int.reduceLE, Int.reduceLT, Int.reduceNeg, Bool.not_not, and_self, Bool.and_eq_false_iff, Int.cast_ofNat_Int, Int.reduceAdd, Int.reduceSub, Int.reduceMul, Int.reduceEq, Int.reduceNe] <;> rfl) (fn79 a.id b.id) ⟨rfl, trivial⟩ trivial ?_
  simp only [go_sem, Nat.reduceEqDiff, Nat.reduceBEq, Nat.reduceAdd, Nat.reduceMul, Nat.reduceSub, Nat.reduceLeDiff, Nat.reduceLT, reduceIte, reduceCtorEq, Int.reduceToNat, Int.reduceLE, Int.reduceLT, Int.reduceNeg, Bool.not_not, and_self, Bool.and_eq_false_iff, Int.cast_ofNat_Int, Int.reduceAdd, Int.reduceSub, Int.reduceMul, Int.reduceEq, Int.reduceNe]
  refine runR_callf (by simp only [go_sem, Nat.reduceEqDiff, Nat.reduceBEq, Nat.reduceAdd, Nat.reduceMul, Nat.reduceSub, Nat.reduceLeDiff, Nat.reduceLT, reduceIte, reduceCtorEq, Int.reduceToNat, Int.reduceLE, Int.reduceLT, Int.reduceNeg, Bool.not_not, and_self, Bool.and_eq_false_iff, Int.cast_ofNat_Int, Int.reduceAdd, Int.reduceSub, Int.reduceMul, Int.reduceEq, Int.reduceNe]) (by simp only [go_sem, Nat.reduceEqDiff, Nat.reduceBEq, Nat.reduceAdd, Nat.reduceMul, Nat.reduceSub, Nat.reduceLeDiff, Nat.reduceLT, reduceIte, reduceCtorEq, Int.reduceToNat, Int.reduceLE, Int.reduceLT, Int.reduceNeg, Bool.not_not, and_self, Bool.and_eq_false_iff, Int.cast_ofNat_Int, Int.reduceAdd, Int.reduceSub, Int.reduceMul, Int.reduceEq, Int.reduceNe] <;> rfl) (fn77 [cmpI a.at_ b.at_, cmpI a.id b.id] (by simp)) ⟨rfl, trivial⟩ trivial ?_
  simp only [go_sem, Nat.reduceEqDiff, Nat.reduceBEq, Nat.reduceAdd, Nat.reduceMul, Nat.reduceSub, Nat.reduceLeDiff, Nat.reduceLT, reduceIte, reduceCtorEq, Int.reduceToNat, Int.reduceLE, Int.reduceLT, Int.reduceNeg, Bool.not_not, and_self, Bool.and_eq_false_iff, Int.cast_ofNat_Int, Int.reduceAdd, Int.reduceSub, Int.reduceMul, Int.reduceEq, Int.reduceNe]
  rfl
theorem fn93 (a b : Tm) : Fn Try.prog 93 [a.pv, b.pv] (.pv (pB (ltT a b))) [] := by
  refine Run93 [] (by simp) ?_
  simp only [go_sem, Nat.reduceEqDiff, Nat.reduceBEq, Nat.reduceAdd, Nat.reduceMul, Nat.reduceSub, Nat.reduceLeDiff, Nat.reduceLT, reduceIte, reduceCtorEq, Int.reduceToNat, Int.reduceLE, Int.reduceLT, Int.reduceNeg, Bool.not_not, and_self, Bool.and_eq_false_iff, Int.cast_ofNat_Int, Int.reduceAdd, Int.reduceSub, Int.reduceMul, Int.reduceEq, Int.reduceNe, M93]
  unfold ltT
  by_cases h1 : a.at_ < b.at_ <;> by_cases h2 : a.at_ = b.at_ <;> by_cases h3 : a.id < b.id <;> simp [h1, h2, h3]
/-! ### 'slices.SortFunc' of timers -/
def renS : Go.Shelf.Ren := ⟨fun n => if n = 6 then 112 else if n = 14 then 120 else if n = 15 then 121 else if n = 20 then 127 else if n = 21 then 128 else if n = 22 then 129 else if n = 23 then 130 else if n = 24 then 131 else if n = 25 then 132 else
    if n = 26 then 133 else if n = 27 then 134 else if n = 28 then 135 else if n = 29 then 136 else if n = 46 then 142 else if n = 47 then 143 else if n = 48 then 144 else if n = 49 then 145 else if n = 50 then 146 else if n = 57 then 149 else n,
  fun t => if t = 22 then 147 else if t = 24 then 132 else if t = 25 then 149 else if t = 39 then 143 else if t = 45 then 162 else if t = 46 then 163 else if t = 50 then 97 else if t = 53 then 33 else if t = 55 then 23 else if t = 66 then 172 else
    if t = 70 then 176 else if t = 76 then 180 else if t = 77 then 63 else t, fun g => g⟩
theorem laysS : SlLaysF0.n6 Try.prog renS where
  mixed := by kernel_rfl
  f6 := ⟨Try.f112.name, by decide, by kernel_rfl⟩
  f14 := ⟨Try.f120.name, by decide, by kernel_rfl⟩
  f15 := by kernel_rfl
  f20 := ⟨Try.f127.name, by decide, by kernel_rfl⟩
  f21 := ⟨Try.f128.name, by decide, by kernel_rfl⟩
  f22 := ⟨Try.f129.name, by decide, by kernel_rfl⟩
  f23 := ⟨Try.f130.name, by decide, by kernel_rfl⟩
  f24 := ⟨Try.f131.name, by decide, by kernel_rfl⟩
  f25 := ⟨Try.f132.name, by decide, by kernel_rfl⟩
  f26 := ⟨Try.f133.name, by decide, by kernel_rfl⟩
  f27 := ⟨Try.f134.name, by decide, by kernel_rfl⟩
  f28 := by kernel_rfl
  f29 := by kernel_rfl
  f46 := ⟨Try.f142.name, by decide, by kernel_rfl⟩
  f47 := by kernel_rfl
  f48 := by kernel_rfl
  f49 := ⟨Try.f145.name, by decide, by kernel_rfl⟩
  f50 := ⟨Try.f146.name, by decide, by kernel_rfl⟩
  f57 := ⟨Try.f149.name, by decide, by kernel_rfl⟩
  t0 := by kernel_rfl
  a0 := fun w => by kernel_rfl
  z0 := fun w => by kernel_rfl
  v0 := fun w => by kernel_rfl
  t3 := by kernel_rfl
  a3 := fun w => by kernel_rfl
  z3 := fun w => by kernel_rfl
  v3 := fun w => by kernel_rfl
  t4 := by kernel_rfl
  a4 := fun w => by kernel_rfl
  z4 := fun w => by kernel_rfl
  v4 := fun w => by kernel_rfl
  t5 := by kernel_rfl
  a5 := fun w => by kernel_rfl
  z5 := fun w => by kernel_rfl
  v5 := fun w => by kernel_rfl
  t9 := by kernel_rfl
  a9 := fun w => by kernel_rfl
  z9 := fun w => by kernel_rfl
  v9 := fun w => by kernel_rfl
  t22 := by kernel_rfl
  a22 := fun w => by kernel_rfl
  z22 := fun w => by kernel_rfl
  v22 := fun w => by kernel_rfl
  t25 := by kernel_rfl
  a25 := fun w => by kernel_rfl
  z25 := fun w => by kernel_rfl
  v25 := fun w => by kernel_rfl
  t39 := by kernel_rfl
  a39 := fun w => by kernel_rfl
  z39 := fun w => by kernel_rfl
  v39 := fun w => by kernel_rfl
  t45 := by kernel_rfl
  a45 := fun w => by kernel_rfl
  z45 := fun w => by kernel_rfl
  v45 := fun w => by kernel_rfl
  t46 := by kernel_rfl
  a46 := fun w => by kernel_rfl
  z46 := fun w => by kernel_rfl
  v46 := fun w => by kernel_rfl
  t50 := by kernel_rfl
  a50 := fun w => by kernel_rfl
  z50 := fun w => by kernel_rfl
  v50 := fun w => by kernel_rfl
  t53 := by kernel_rfl
  a53 := fun w => by kernel_rfl
  z53 := fun w => by kernel_rfl
  v53 := fun w => by kernel_rfl
  t55 := by kernel_rfl
  a55 := fun w => by kernel_rfl
  z55 := fun w => by kernel_rfl
  v55 := fun w => by kernel_rfl
  t66 := by kernel_rfl
  a66 := fun w => by kernel_rfl
  z66 := fun w => by kernel_rfl
  v66 := fun w => by kernel_rfl
  t70 := by kernel_rfl
  a70 := fun w => by kernel_rfl
  z70 := fun w => by kernel_rfl
  v70 := fun w => by kernel_rfl
  t76 := by kernel_rfl
  a76 := fun w => by kernel_rfl
  z76 := fun w => by kernel_rfl
  v76 := fun w => by kernel_rfl
  t77 := by kernel_rfl
  a77 := fun w => by kernel_rfl
  z77 := fun w => by kernel_rfl
  v77 := fun w => by kernel_rfl
theorem fnS112 (d : List Tm) (hd : d.length < 1000000) : FnS Try.prog 112 [.row 200000 0 d.length, .fn 94 []] [(200000, .sl 2 (d.map Tm.pv))] (.tup []) [(200000, .sl 2 ((d.mergeSort fun x y => !ltT y x).map Tm.pv))] := by
  have h := fnS_sort (P := Try.prog) (ρ := renS) (pv := Tm.pv) (enc := fun x => [Value.int .i64 x.at_, Value.int .u64 x.id]) (k := 2) laysS (fun w => by kernel_rfl) (fun w => by kernel_rfl) (by omega) (fun x => rfl) (fun x => rfl)
    (fun x v hv => by simp only [List.mem_cons, List.not_mem_nil, or_false] at hv; rcases hv with rfl | rfl <;> rfl) cmpT swo_T (fun x y h1 h2 => by rw [ltOf_T] at h1 h2; exact ltT_tot h1 h2) (g := 94) fn94 d hd 200000
  have e : (fun x y : Tm => !(Go.Proofs.ltOf cmpT) y x) = fun x y => !ltT y x := by funext x y; rw [ltOf_T]
  rw [e] at h
  exact h
end Go.Vc

namespace Go.Vc
open Go.Proofs
set_option linter.unusedSimpArgs false
set_option linter.unusedVariables false

/-! ## What is done with timers, by their code -/
theorem fn111 (x : Tm) (n : Int) : Fn Try.prog 111 [x.pv, .pt [pU n]] (.pv (pB (decide (x.id = n)))) [] := by
  refine Run111 [] (by simp) ?_
  simp only [go_sem, Nat.reduceEqDiff, Nat.reduceBEq, Nat.reduceAdd, Nat.reduceMul, Nat.reduceSub, Nat.reduceLeDiff, Nat.reduceLT, reduceIte, reduceCtorEq, Int.reduceToNat, Int.reduceLE, Int.reduceLT, Int.reduceNeg, Bool.not_not, and_self, Bool.and_eq_false_iff, Int.cast_ofNat_Int, Int.reduceAdd, Int.reduceSub, Int.reduceMul, Int.reduceEq, Int.reduceNe, M111]
theorem fn110 (l : List Tm) (g : Nat) (caps : List PV) (q : Tm → Bool) (hl : l.length < 100000) (hg : ∀ k ∈ l, Fn Try.prog g (k.pv :: caps) (.pv (pB (q k))) []) :
    Fn Try.prog 110 [tm l, .fn g caps] (.pv (pI (idxA q l))) [] := by
  refine Run110 [] (by simp) ?_
  simp only [go_sem, Nat.reduceEqDiff, Nat.reduceBEq, Nat.reduceAdd, Nat.reduceMul, Nat.reduceSub, Nat.reduceLeDiff, Nat.reduceLT, reduceIte, reduceCtorEq, Int.reduceToNat, Int.reduceLE, Int.reduceLT, Int.reduceNeg, Bool.not_not, and_self, Bool.and_eq_false_iff, Int.cast_ofNat_Int, Int.reduceAdd, Int.reduceSub, Int.reduceMul, Int.reduceEq, Int.reduceNe, M110]
  refine run_loop (T := Nat) (fun i => ⟨[(0, .pv (tm l)), (1, .pv (.fn g caps)), (7, .pv (pI l.length)), (8, .pv (pI i))], []⟩) (fun i => i ≤ l.length ∧ ∀ j (h : j < l.length), j < i → q l[j] = false) (fun i => l.length - i) 0 rfl ⟨Nat.zero_le _, fun j _ h => absurd h (by omega)⟩ ?_
  intro i ⟨hi, hq⟩
  by_cases hlt : i < l.length
  · simp only [go_sem, Nat.reduceEqDiff, Nat.reduceBEq, Nat.reduceAdd, Nat.reduceMul, Nat.reduceSub, Nat.reduceLeDiff, Nat.reduceLT, reduceIte, reduceCtorEq, Int.reduceToNat, Int.reduceLE, Int.reduceLT, Int.reduceNeg, Bool.not_not, and_self, Bool.and_eq_false_iff, Int.cast_ofNat_Int, Int.reduceAdd, Int.reduceSub, Int.reduceMul, Int.reduceEq, Int.reduceNe, B110_0, wf_tm, getD_map hlt, show (i : Int) < (l.length : Int) by omega]
    refine runR_callf (by simp only [go_sem, Nat.reduceEqDiff, Nat.reduceBEq, Nat.reduceAdd, Nat.reduceMul, Nat.reduceSub, Nat.reduceLeDiff, Nat.reduceLT, reduceIte, reduceCtorEq, Int.reduceToNat, Int.reduceLE, Int.reduceLT, Int.reduceNeg, Bool.not_not, and_self, Bool.and_eq_false_iff, Int.cast_ofNat_Int, Int.reduceAdd, Int.reduceSub, Int.reduceMul, Int.reduceEq, Int.reduceNe]) (by simp only [go_sem, Nat.reduceEqDiff, Nat.reduceBEq, Nat.reduceAdd, Nat.reduceMul, Nat.reduceSub, Nat.reduceLeDiff, Nat.reduceLT, reduceIte, reduceCtorEq, Int.reduceToNat, Int.reduceLE, Int.reduceLT, Int.reduceNeg, Bool.not_not, and_self, Bool.and_eq_false_iff, Int.cast_ofNat_Int, Int.reduceAdd, Int.reduceSub, Int.reduceMul, Int.reduceEq, Int.reduceNe, snapL_pv _ 3]) (hg _ (List.getElem_mem hlt)) ⟨rfl, trivial⟩ trivial ?_
    simp only [go_sem, Nat.reduceEqDiff, Nat.reduceBEq, Nat.reduceAdd, Nat.reduceMul, Nat.reduceSub, Nat.reduceLeDiff, Nat.reduceLT, reduceIte, reduceCtorEq, Int.reduceToNat, Int.reduceLE, Int.reduceLT, Int.reduceNeg, Bool.not_not, and_self, Bool.and_eq_false_iff, Int.cast_ofNat_Int, Int.reduceAdd, Int.reduceSub, Int.reduceMul, Int.reduceEq, Int.reduceNe]
    refine ⟨fun hq1 => ?_, fun hq0 => ⟨⟨by omega, by omega⟩, i + 1, rfl, ⟨hlt, fun j hj hji => ?_⟩, by omega⟩⟩
    · rw [idxA_yes hlt hq1 hq]
    · by_cases hj2 : j = i
      · subst hj2; exact hq0
      · exact hq j hj (by omega)
  · simp only [go_sem, Nat.reduceEqDiff, Nat.reduceBEq, Nat.reduceAdd, Nat.reduceMul, Nat.reduceSub, Nat.reduceLeDiff, Nat.reduceLT, reduceIte, reduceCtorEq, Int.reduceToNat, Int.reduceLE, Int.reduceLT, Int.reduceNeg, Bool.not_not, and_self, Bool.and_eq_false_iff, Int.cast_ofNat_Int, Int.reduceAdd, Int.reduceSub, Int.reduceMul, Int.reduceEq, Int.reduceNe, B110_0, R110_0, show ¬ ((i : Int) < (l.length : Int)) by omega]
    rw [idxA_no fun j hj => hq j hj (by omega)]
theorem fn95 (l : List Tm) (n : Int) (hl : l.length < 100000) : Fn Try.prog 95 [tm l, pU n] (.pv (pI (findT l n))) [] := by
  refine Run95 [] (by simp) ?_
  simp only [go_sem, Nat.reduceEqDiff, Nat.reduceBEq, Nat.reduceAdd, Nat.reduceMul, Nat.reduceSub, Nat.reduceLeDiff, Nat.reduceLT, reduceIte, reduceCtorEq, Int.reduceToNat, Int.reduceLE, Int.reduceLT, Int.reduceNeg, Bool.not_not, and_self, Bool.and_eq_false_iff, Int.cast_ofNat_Int, Int.reduceAdd, Int.reduceSub, Int.reduceMul, Int.reduceEq, Int.reduceNe, M95]
  refine runR_callf (by simp only [go_sem, Nat.reduceEqDiff, Nat.reduceBEq, Nat.reduceAdd, Nat.reduceMul, Nat.reduceSub, Nat.reduceLeDiff, Nat.reduceLT, reduceIte, reduceCtorEq, Int.reduceToNat, Int.reduceLE, Int.reduceLT, Int.reduceNeg, Bool.not_not, and_self, Bool.and_eq_false_iff, Int.cast_ofNat_Int, Int.reduceAdd, Int.reduceSub, Int.reduceMul, Int.reduceEq, Int.reduceNe]) (by simp only [go_sem, Nat.reduceEqDiff, Nat.reduceBEq, Nat.reduceAdd, Nat.reduceMul, Nat.reduceSub, Nat.reduceLeDiff, Nat.reduceLT, reduceIte, reduceCtorEq, Int.reduceToNat, Int.reduceLE, Int.reduceLT, Int.reduceNeg, Bool.not_not, and_self, Bool.and_eq_false_iff, Int.cast_ofNat_Int, Int.reduceAdd, Int.reduceSub, Int.reduceMul, Int.reduceEq, Int.reduceNe] <;> rfl) (fn110 l 111 [.pt [pU n]] (fun x => decide (x.id = n)) hl (fun x hx => fn111 x n)) ⟨rfl, trivial⟩ trivial ?_
  simp only [go_sem, Nat.reduceEqDiff, Nat.reduceBEq, Nat.reduceAdd, Nat.reduceMul, Nat.reduceSub, Nat.reduceLeDiff, Nat.reduceLT, reduceIte, reduceCtorEq, Int.reduceToNat, Int.reduceLE, Int.reduceLT, Int.reduceNeg, Bool.not_not, and_self, Bool.and_eq_false_iff, Int.cast_ofNat_Int, Int.reduceAdd, Int.reduceSub, Int.reduceMul, Int.reduceEq, Int.reduceNe]
  rfl
theorem fn96 (l : List Tm) (p : Int) (hl : l.length < 100000) : Fn Try.prog 96 [tm l, pI p] (.row 0 0 (woT l p).length) [(2, (woT l p).map Tm.pv)] := by
  refine Run96 [true] (by simp) ?_
  simp only [go_sem, Nat.reduceEqDiff, Nat.reduceBEq, Nat.reduceAdd, Nat.reduceMul, Nat.reduceSub, Nat.reduceLeDiff, Nat.reduceLT, reduceIte, reduceCtorEq, Int.reduceToNat, Int.reduceLE, Int.reduceLT, Int.reduceNeg, Bool.not_not, and_self, Bool.and_eq_false_iff, Int.cast_ofNat_Int, Int.reduceAdd, Int.reduceSub, Int.reduceMul, Int.reduceEq, Int.reduceNe, M96]
  refine ⟨⟨by omega, by omega⟩, ⟨by omega, by omega⟩, ?_⟩
  refine run_loop (T := Nat) (fun i => ⟨[(1, .pv (pI p)), (5, .row 11 0 (woT (l.take i) p).length), (12, .pv (tm l)), (13, .pv (pI l.length)), (14, .pv (pI i))], [(11, .sl 2 ((woT (l.take i) p).map Tm.pv))]⟩) (fun i => i ≤ l.length) (fun i => l.length - i) 0 (by rw [List.take_zero, show woT [] p = [] by unfold woT; split <;> rfl]; rfl) (Nat.zero_le _) ?_
  intro i hi
  have hle := woT_le (l.take i) p
  rw [List.length_take] at hle
  by_cases hlt : i < l.length
  · have hsn := woT_snoc (p := p) hlt
    have tk := take_len_map Tm.pv (woT (l.take i) p)
    simp only [go_sem, Nat.reduceEqDiff, Nat.reduceBEq, Nat.reduceAdd, Nat.reduceMul, Nat.reduceSub, Nat.reduceLeDiff, Nat.reduceLT, reduceIte, reduceCtorEq, Int.reduceToNat, Int.reduceLE, Int.reduceLT, Int.reduceNeg, Bool.not_not, and_self, Bool.and_eq_false_iff, Int.cast_ofNat_Int, Int.reduceAdd, Int.reduceSub, Int.reduceMul, Int.reduceEq, Int.reduceNe, B96_0, wf_tm, getD_map hlt, show (i : Int) < (l.length : Int) by omega]
    refine ⟨fun h => ⟨⟨wf_tm [l[i]], by omega, by omega⟩, ⟨by omega, by omega⟩, i + 1, ?_, by omega, by omega⟩, fun h => ⟨⟨by omega, by omega⟩, i + 1, ?_, by omega, by omega⟩⟩
    · rw [hsn, if_neg h, tk, List.map_append, List.length_append]; rfl
    · rw [hsn, if_pos h]; rfl
  · simp only [go_sem, Nat.reduceEqDiff, Nat.reduceBEq, Nat.reduceAdd, Nat.reduceMul, Nat.reduceSub, Nat.reduceLeDiff, Nat.reduceLT, reduceIte, reduceCtorEq, Int.reduceToNat, Int.reduceLE, Int.reduceLT, Int.reduceNeg, Bool.not_not, and_self, Bool.and_eq_false_iff, Int.cast_ofNat_Int, Int.reduceAdd, Int.reduceSub, Int.reduceMul, Int.reduceEq, Int.reduceNe, B96_0, R96_0, show ¬ ((i : Int) < (l.length : Int)) by omega]
    have : i = l.length := by omega
    subst this
    rw [List.take_length]
    simp
theorem fill_set {A : List Tm} {z p : PV} {k : Nat} : (A.map Tm.pv ++ List.replicate (k + 1) z).set A.length p = A.map Tm.pv ++ p :: List.replicate k z := by
  rw [List.set_append_right _ _ (by simp)]
  simp [List.replicate_succ]
theorem fill_get {A : List Tm} {z : PV} {k : Nat} : (A.map Tm.pv ++ List.replicate (k + 1) z).getD A.length default = z := by
  simp [List.getD_eq_getElem?_getD, List.getElem?_append_right, List.replicate_succ]
abbrev zT : PV := .agg [pI 0, pU 0]
theorem fnS97 (l : List Tm) (hl : l.length < 200000) : FnS Try.prog 97 [.row 0 0 l.length] [(0, .sl 2 (l.map Tm.pv))] (.pv (tm (l.mergeSort fun x y => !ltT y x))) [] := by
  refine RunS97 (by simp) (by simp) ?_
  simp only [go_sem, Nat.reduceEqDiff, Nat.reduceBEq, Nat.reduceAdd, Nat.reduceMul, Nat.reduceSub, Nat.reduceLeDiff, Nat.reduceLT, reduceIte, reduceCtorEq, Int.reduceToNat, Int.reduceLE, Int.reduceLT, Int.reduceNeg, Bool.not_not, and_self, Bool.and_eq_false_iff, Int.cast_ofNat_Int, Int.reduceAdd, Int.reduceSub, Int.reduceMul, Int.reduceEq, Int.reduceNe, M97]
  refine ⟨⟨by omega, by omega, by omega⟩, ?_⟩
  refine run_loop (T := Nat) (fun i => ⟨[(0, .row 0 0 l.length), (3, .row 11 0 l.length), (12, .row 0 0 l.length), (13, .pv (pI l.length)), (14, .pv (pI i))], [(0, .sl 2 (l.map Tm.pv)), (11, .sl 2 ((l.take i).map Tm.pv ++ List.replicate (l.length - i) zT))]⟩) (fun i => i ≤ l.length) (fun i => l.length - i) 0 rfl (Nat.zero_le _) ?_
  intro i hi
  have hil : (l.take i).length = i := by simp; omega
  by_cases hlt : i < l.length
  · obtain ⟨k, hk⟩ : ∃ k, l.length - i = k + 1 := ⟨l.length - i - 1, by omega⟩
    have hset := fill_set (A := l.take i) (z := zT) (p := Tm.pv l[i]) (k := k)
    have hget := fill_get (A := l.take i) (z := zT) (k := k)
    rw [hil] at hset hget
    rw [hk]
    simp only [go_sem, Nat.reduceEqDiff, Nat.reduceBEq, Nat.reduceAdd, Nat.reduceMul, Nat.reduceSub, Nat.reduceLeDiff, Nat.reduceLT, reduceIte, reduceCtorEq, Int.reduceToNat, Int.reduceLE, Int.reduceLT, Int.reduceNeg, Bool.not_not, and_self, Bool.and_eq_false_iff, Int.cast_ofNat_Int, Int.reduceAdd, Int.reduceSub, Int.reduceMul, Int.reduceEq, Int.reduceNe, B97_0, wf_tm, getD_map hlt, show (i : Int) < (l.length : Int) by omega, hget, hset]
    refine ⟨hlt, by simp; omega, ⟨by omega, by omega⟩, i + 1, ?_, by omega, by omega⟩
    rw [take_snoc hlt, List.map_append, show l.length - (i + 1) = k by omega, List.append_assoc]
    rfl
  · simp only [go_sem, Nat.reduceEqDiff, Nat.reduceBEq, Nat.reduceAdd, Nat.reduceMul, Nat.reduceSub, Nat.reduceLeDiff, Nat.reduceLT, reduceIte, reduceCtorEq, Int.reduceToNat, Int.reduceLE, Int.reduceLT, Int.reduceNeg, Bool.not_not, and_self, Bool.and_eq_false_iff, Int.cast_ofNat_Int, Int.reduceAdd, Int.reduceSub, Int.reduceMul, Int.reduceEq, Int.reduceNe, B97_0, R97_0, show ¬ ((i : Int) < (l.length : Int)) by omega]
    have : i = l.length := by omega
    subst this
    rw [List.take_length, Nat.sub_self, List.replicate_zero, List.append_nil]
    refine runR_calls (fun _ => 11) (by simp only [go_sem, Nat.reduceEqDiff, Nat.reduceBEq, Nat.reduceAdd, Nat.reduceMul, Nat.reduceSub, Nat.reduceLeDiff, Nat.reduceLT, reduceIte, reduceCtorEq, Int.reduceToNat, Int.reduceLE, Int.reduceLT, Int.reduceNeg, Bool.not_not, and_self, Bool.and_eq_false_iff, Int.cast_ofNat_Int, Int.reduceAdd, Int.reduceSub, Int.reduceMul, Int.reduceEq, Int.reduceNe]) (by simp only [go_sem, Nat.reduceEqDiff, Nat.reduceBEq, Nat.reduceAdd, Nat.reduceMul, Nat.reduceSub, Nat.reduceLeDiff, Nat.reduceLT, reduceIte, reduceCtorEq, Int.reduceToNat, Int.reduceLE, Int.reduceLT, Int.reduceNeg, Bool.not_not, and_self, Bool.and_eq_false_iff, Int.cast_ofNat_Int, Int.reduceAdd, Int.reduceSub, Int.reduceMul, Int.reduceEq, Int.reduceNe] <;> rfl) (fnS112 l (by omega)) rfl (by intro e he; simp only [List.mem_cons, List.not_mem_nil, or_false] at he; subst he; simp only [go_sem, Nat.reduceEqDiff, Nat.reduceBEq, Nat.reduceAdd, Nat.reduceMul, Nat.reduceSub, Nat.reduceLeDiff, Nat.reduceLT, reduceIte, reduceCtorEq, Int.reduceToNat, Int.reduceLE, Int.reduceLT, Int.reduceNeg, Bool.not_not, and_self, Bool.and_eq_false_iff, Int.cast_ofNat_Int, Int.reduceAdd, Int.reduceSub, Int.reduceMul, Int.reduceEq, Int.reduceNe]) (by simp) (by simp) (by simp) (by intro e he _; decide) ?_
    have hsl := List.length_mergeSort (le := fun x y : Tm => !ltT y x) l
    generalize (l.mergeSort fun x y => !ltT y x) = s at hsl ⊢
    simp only [go_sem, Nat.reduceEqDiff, Nat.reduceBEq, Nat.reduceAdd, Nat.reduceMul, Nat.reduceSub, Nat.reduceLeDiff, Nat.reduceLT, reduceIte, reduceCtorEq, Int.reduceToNat, Int.reduceLE, Int.reduceLT, Int.reduceNeg, Bool.not_not, and_self, Bool.and_eq_false_iff, Int.cast_ofNat_Int, Int.reduceAdd, Int.reduceSub, Int.reduceMul, Int.reduceEq, Int.reduceNe]
    refine ⟨⟨by omega, by omega, by omega⟩, ?_⟩
    refine run_loop (T := Nat) (fun i => ⟨[(6, .row 28 0 l.length), (29, .row 11 0 l.length), (30, .pv (pI l.length)), (31, .pv (pI i))], [(0, .sl 2 (l.map Tm.pv)), (11, .sl 2 (s.map Tm.pv)), (28, .sl 2 ((s.take i).map Tm.pv ++ List.replicate (s.length - i) zT))]⟩) (fun i => i ≤ s.length) (fun i => s.length - i) 0 (by rw [hsl]; rfl) (Nat.zero_le _) ?_
    intro i hi
    have hil : (s.take i).length = i := by simp; omega
    by_cases hlt : i < s.length
    · obtain ⟨k, hk⟩ : ∃ k, s.length - i = k + 1 := ⟨s.length - i - 1, by omega⟩
      have hset := fill_set (A := s.take i) (z := zT) (p := Tm.pv s[i]) (k := k)
      have hget := fill_get (A := s.take i) (z := zT) (k := k)
      rw [hil] at hset hget
      rw [hk]
      simp only [go_sem, Nat.reduceEqDiff, Nat.reduceBEq, Nat.reduceAdd, Nat.reduceMul, Nat.reduceSub, Nat.reduceLeDiff, Nat.reduceLT, reduceIte, reduceCtorEq, Int.reduceToNat, Int.reduceLE, Int.reduceLT, Int.reduceNeg, Bool.not_not, and_self, Bool.and_eq_false_iff, Int.cast_ofNat_Int, Int.reduceAdd, Int.reduceSub, Int.reduceMul, Int.reduceEq, Int.reduceNe, B97_1, wf_tm, getD_map hlt, show (i : Int) < (l.length : Int) by omega, hget, hset]
      refine ⟨hlt, by simp; omega, ⟨by omega, by omega⟩, i + 1, ?_, by omega, by omega⟩
      rw [take_snoc hlt, List.map_append, show s.length - (i + 1) = k by omega, List.append_assoc]
      rfl
    · simp only [go_sem, Nat.reduceEqDiff, Nat.reduceBEq, Nat.reduceAdd, Nat.reduceMul, Nat.reduceSub, Nat.reduceLeDiff, Nat.reduceLT, reduceIte, reduceCtorEq, Int.reduceToNat, Int.reduceLE, Int.reduceLT, Int.reduceNeg, Bool.not_not, and_self, Bool.and_eq_false_iff, Int.cast_ofNat_Int, Int.reduceAdd, Int.reduceSub, Int.reduceMul, Int.reduceEq, Int.reduceNe, B97_1, R97_1, show ¬ ((i : Int) < (l.length : Int)) by omega]
      have : i = s.length := by omega
      subst this
      rw [List.take_length, Nat.sub_self, List.replicate_zero, List.append_nil, ← hsl, take_len_map]
theorem fn58 (a b : List Tm) (ha : a.length < 100000) (hb : b.length < 100000) : Fn Try.prog 58 [tm a, tm b] (.pv (pB (decide (a = b)))) [] := by
  refine Run58 [] (by simp) ?_
  simp only [go_sem, Nat.reduceEqDiff, Nat.reduceBEq, Nat.reduceAdd, Nat.reduceMul, Nat.reduceSub, Nat.reduceLeDiff, Nat.reduceLT, reduceIte, reduceCtorEq, Int.reduceToNat, Int.reduceLE, Int.reduceLT, Int.reduceNeg, Bool.not_not, and_self, Bool.and_eq_false_iff, Int.cast_ofNat_Int, Int.reduceAdd, Int.reduceSub, Int.reduceMul, Int.reduceEq, Int.reduceNe, M58]
  refine ⟨fun h => ?_, fun h => ?_⟩
  · have : a ≠ b := fun e => h (by rw [e])
    simp [this]
  · have hlm : b.length = a.length := by omega
    refine run_loop (T := Nat) (fun i => ⟨[(0, .pv (tm a)), (1, .pv (tm b)), (5, .pv (pI i))], []⟩) (fun i => i ≤ a.length ∧ a.take i = b.take i) (fun i => a.length - i) 0 rfl ⟨Nat.zero_le _, rfl⟩ ?_
    intro i ⟨hi, hq⟩
    by_cases hlt : i < a.length
    · have hlt2 : i < b.length := by omega
      simp only [go_sem, Nat.reduceEqDiff, Nat.reduceBEq, Nat.reduceAdd, Nat.reduceMul, Nat.reduceSub, Nat.reduceLeDiff, Nat.reduceLT, reduceIte, reduceCtorEq, Int.reduceToNat, Int.reduceLE, Int.reduceLT, Int.reduceNeg, Bool.not_not, and_self, Bool.and_eq_false_iff, Int.cast_ofNat_Int, Int.reduceAdd, Int.reduceSub, Int.reduceMul, Int.reduceEq, Int.reduceNe, B58_0, wf_tm, getD_map hlt, getD_map hlt2, show (i : Int) < (a.length : Int) by omega, show (i : Int) < (b.length : Int) by omega]
      refine ⟨fun hd => ?_, fun hd => ⟨⟨by omega, by omega⟩, i + 1, rfl, ⟨hlt, ?_⟩, by omega⟩⟩
      · have : a ≠ b := fun e => by subst e; simp at hd
        simp [this]
      · have e : a[i] = b[i] := by
          cases h1 : a[i]; cases h2 : b[i]; rw [h1, h2] at hd; simp only at hd; rw [hd.1, hd.2]
        rw [take_snoc hlt, take_snoc hlt2, hq, e]
    · simp only [go_sem, Nat.reduceEqDiff, Nat.reduceBEq, Nat.reduceAdd, Nat.reduceMul, Nat.reduceSub, Nat.reduceLeDiff, Nat.reduceLT, reduceIte, reduceCtorEq, Int.reduceToNat, Int.reduceLE, Int.reduceLT, Int.reduceNeg, Bool.not_not, and_self, Bool.and_eq_false_iff, Int.cast_ofNat_Int, Int.reduceAdd, Int.reduceSub, Int.reduceMul, Int.reduceEq, Int.reduceNe, B58_0, R58_0, show ¬ (i : Int) < (a.length : Int) by omega]
      have hie : i = a.length := by omega
      subst hie
      rw [List.take_length, ← hlm, List.take_length] at hq
      simp [hq]
theorem fn59t (a b : List Int) (ha : a.length < 100000) (hb : b.length < 100000) : Fn Try.prog 59 [us a, us b] (.pv (pB (decide (a = b)))) [] := fn59 a b (by omega) (by omega)
theorem fn53 (l : List Tm) (hl : l.length ≤ 9223372036854775807) : Fn Try.prog 53 [tm l] (.pv (tm (l.take 121))) [] := by
  refine Run53 [false] (by simp) ?_
  simp only [go_sem, Nat.reduceEqDiff, Nat.reduceBEq, Nat.reduceAdd, Nat.reduceMul, Nat.reduceSub, Nat.reduceLeDiff, Nat.reduceLT, reduceIte, reduceCtorEq, Int.reduceToNat, Int.reduceLE, Int.reduceLT, Int.reduceNeg, Bool.not_not, and_self, Bool.and_eq_false_iff, Int.cast_ofNat_Int, Int.reduceAdd, Int.reduceSub, Int.reduceMul, Int.reduceEq, Int.reduceNe, M53]
  refine ⟨fun h => ?_, fun h => ?_⟩
  · refine ⟨⟨by omega, wf_tm l⟩, ⟨(wf_tm l).take, by simp; omega, by simp; omega⟩, ?_⟩
    rw [← List.map_take]
  · refine ⟨⟨wf_tm l, by omega, by omega⟩, ?_⟩
    rw [take_len_map, List.take_of_length_le (by omega)]
theorem fn67 (l : List Tm) (n : Int) (hl : l.length < 100000) : Fn Try.prog 67 [tm l, pU n] (.pv (tm (offT l n))) [] := by
  refine Run67 [false] (by simp) ?_
  simp only [go_sem, Nat.reduceEqDiff, Nat.reduceBEq, Nat.reduceAdd, Nat.reduceMul, Nat.reduceSub, Nat.reduceLeDiff, Nat.reduceLT, reduceIte, reduceCtorEq, Int.reduceToNat, Int.reduceLE, Int.reduceLT, Int.reduceNeg, Bool.not_not, and_self, Bool.and_eq_false_iff, Int.cast_ofNat_Int, Int.reduceAdd, Int.reduceSub, Int.reduceMul, Int.reduceEq, Int.reduceNe, M67]
  refine run_loop (T := Nat) (fun i => ⟨[(0, .pv (tm l)), (1, .pv (pU n)), (5, .row 2005 0 ((l.take i).filter (fun y => decide (y.id ≠ n))).length), (6, .pv (pI i))], [(2005, .sl 2 (((l.take i).filter (fun y => decide (y.id ≠ n))).map Tm.pv))]⟩) (fun i => i ≤ l.length) (fun i => l.length - i) 0 rfl (Nat.zero_le _) ?_
  intro i hi
  have hle := filt_le (q := fun y : Tm => decide (y.id ≠ n)) (l := l) (i := i)
  by_cases hlt : i < l.length
  · have hsn := filt_snoc (q := fun y : Tm => decide (y.id ≠ n)) hlt
    have tk := take_len_map Tm.pv ((l.take i).filter (fun y => decide (y.id ≠ n)))
    simp only [go_sem, Nat.reduceEqDiff, Nat.reduceBEq, Nat.reduceAdd, Nat.reduceMul, Nat.reduceSub, Nat.reduceLeDiff, Nat.reduceLT, reduceIte, reduceCtorEq, Int.reduceToNat, Int.reduceLE, Int.reduceLT, Int.reduceNeg, Bool.not_not, and_self, Bool.and_eq_false_iff, Int.cast_ofNat_Int, Int.reduceAdd, Int.reduceSub, Int.reduceMul, Int.reduceEq, Int.reduceNe, B67_0, wf_tm, getD_map hlt, show (i : Int) < (l.length : Int) by omega]
    refine ⟨fun h5 => ⟨⟨wf_tm [l[i]], by omega, by omega⟩, ⟨by omega, by omega⟩, i + 1, ?_, by omega, by omega⟩, fun h5 => ⟨⟨by omega, by omega⟩, i + 1, ?_, by omega, by omega⟩⟩
    · rw [hsn, tk, if_pos (by simpa using h5), List.map_append, List.length_append]; rfl
    · rw [hsn, if_neg (by simpa using h5), List.append_nil]; rfl
  · simp only [go_sem, Nat.reduceEqDiff, Nat.reduceBEq, Nat.reduceAdd, Nat.reduceMul, Nat.reduceSub, Nat.reduceLeDiff, Nat.reduceLT, reduceIte, reduceCtorEq, Int.reduceToNat, Int.reduceLE, Int.reduceLT, Int.reduceNeg, Bool.not_not, and_self, Bool.and_eq_false_iff, Int.cast_ofNat_Int, Int.reduceAdd, Int.reduceSub, Int.reduceMul, Int.reduceEq, Int.reduceNe, B67_0, R67_0, show ¬ ((i : Int) < (l.length : Int)) by omega]
    have : i = l.length := by omega
    subst this
    rw [take_len_map, List.take_length]
/-- what rings later, what rings by now -/
def laterT (l : List Tm) (now : Int) : List Tm := l.filter (fun y => decide (now < y.at_))
def rungT (l : List Tm) (now : Int) : List Int := (l.filter (fun y => decide (y.at_ ≤ now))).map (·.id)
theorem rung_snoc {l : List Tm} {now : Int} {i : Nat} (h : i < l.length) : rungT (l.take (i + 1)) now = rungT (l.take i) now ++ if l[i].at_ ≤ now then [l[i].id] else [] := by
  unfold rungT
  rw [filt_snoc h, List.map_append]
  by_cases h2 : l[i].at_ ≤ now <;> simp [h2]
theorem rung_le {l : List Tm} {now : Int} {i : Nat} : (rungT (l.take i) now).length ≤ l.length := by
  unfold rungT; rw [List.length_map]; exact filt_le
theorem fn57 (l : List Tm) (now : Int) (hl : l.length < 100000) : Fn Try.prog 57 [tm l, pI now] (.pv (.tup [tm (laterT l now), us (rungT l now)])) [] := by
  refine Run57 [false, false] (by simp) ?_
  simp only [go_sem, Nat.reduceEqDiff, Nat.reduceBEq, Nat.reduceAdd, Nat.reduceMul, Nat.reduceSub, Nat.reduceLeDiff, Nat.reduceLT, reduceIte, reduceCtorEq, Int.reduceToNat, Int.reduceLE, Int.reduceLT, Int.reduceNeg, Bool.not_not, and_self, Bool.and_eq_false_iff, Int.cast_ofNat_Int, Int.reduceAdd, Int.reduceSub, Int.reduceMul, Int.reduceEq, Int.reduceNe, M57]
  refine run_loop (T := Nat) (fun i => ⟨[(0, .pv (tm l)), (1, .pv (pI now)), (6, .row 2006 0 (laterT (l.take i) now).length), (7, .row 2007 0 (rungT (l.take i) now).length), (8, .pv (pI i))], [(2006, .sl 2 ((laterT (l.take i) now).map Tm.pv)), (2007, .sl 1 ((rungT (l.take i) now).map pU))]⟩) (fun i => i ≤ l.length) (fun i => l.length - i) 0 rfl (Nat.zero_le _) ?_
  intro i hi
  have hle : (laterT (l.take i) now).length ≤ l.length := filt_le
  have hle2 := rung_le (l := l) (now := now) (i := i)
  by_cases hlt : i < l.length
  · have hsn : laterT (l.take (i + 1)) now = laterT (l.take i) now ++ if decide (now < l[i].at_) = true then [l[i]] else [] := filt_snoc hlt
    have hsr := rung_snoc (now := now) hlt
    have tk := take_len_map Tm.pv (laterT (l.take i) now)
    have tk2 := take_len_map pU (rungT (l.take i) now)
    simp only [go_sem, Nat.reduceEqDiff, Nat.reduceBEq, Nat.reduceAdd, Nat.reduceMul, Nat.reduceSub, Nat.reduceLeDiff, Nat.reduceLT, reduceIte, reduceCtorEq, Int.reduceToNat, Int.reduceLE, Int.reduceLT, Int.reduceNeg, Bool.not_not, and_self, Bool.and_eq_false_iff, Int.cast_ofNat_Int, Int.reduceAdd, Int.reduceSub, Int.reduceMul, Int.reduceEq, Int.reduceNe, B57_0, wf_tm, getD_map hlt, show (i : Int) < (l.length : Int) by omega]
    refine ⟨fun h => ⟨⟨wf_us [l[i].id], by omega, by omega⟩, ⟨by omega, by omega⟩, i + 1, ?_, by omega, by omega⟩, fun h => ⟨⟨wf_tm [l[i]], by omega, by omega⟩, ⟨by omega, by omega⟩, i + 1, ?_, by omega, by omega⟩⟩
    · rw [hsn, hsr, if_neg (by simp; omega), if_pos h, tk2, List.append_nil, List.map_append, List.length_append]; rfl
    · rw [hsn, hsr, if_pos (by simp; omega), if_neg h, tk, List.append_nil, List.map_append, List.length_append]; rfl
  · simp only [go_sem, Nat.reduceEqDiff, Nat.reduceBEq, Nat.reduceAdd, Nat.reduceMul, Nat.reduceSub, Nat.reduceLeDiff, Nat.reduceLT, reduceIte, reduceCtorEq, Int.reduceToNat, Int.reduceLE, Int.reduceLT, Int.reduceNeg, Bool.not_not, and_self, Bool.and_eq_false_iff, Int.cast_ofNat_Int, Int.reduceAdd, Int.reduceSub, Int.reduceMul, Int.reduceEq, Int.reduceNe, B57_0, R57_0, show ¬ ((i : Int) < (l.length : Int)) by omega]
    have : i = l.length := by omega
    subst this
    rw [take_len_map, take_len_map, List.take_length]
end Go.Vc
