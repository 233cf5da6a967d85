/- A part of the proofs of the seat Ytcjhccdbgphboaa: the contracts of functions, each proved out of its code. -/
import Derived.Test.YtcjhccdbgphboaaJa
namespace Go.Vc
open Go.Proofs
set_option linter.unusedSimpArgs false

/-! ## The functions of joins -/
abbrev pS (s : ByteArray) : PV := .sc (.string s)
abbrev pI (n : Int) : PV := .sc (.int .i64 n)
abbrev pU (n : Int) : PV := .sc (.int .u64 n)
abbrev pB (b : Bool) : PV := .sc (.bool b)
def sAll : ByteArray := { data := #[97, 108, 108] }
def sAny : ByteArray := { data := #[97, 110, 121] }
def sCount : ByteArray := { data := #[99, 111, 117, 110, 116] }
theorem fAll : ({ data := #[97, 108, 108] } : ByteArray) = sAll := rfl
theorem fAny : ({ data := #[97, 110, 121] } : ByteArray) = sAny := rfl
theorem fCount : ({ data := #[99, 111, 117, 110, 116] } : ByteArray) = sCount := rfl
structure Jn where
  kind : ByteArray
  parts : Int
  need : Int
  window : Int
abbrev Jn.pv (j : Jn) : PV := .agg [pS j.kind, pI j.parts, pI j.need, pI j.window]

def kindOf (j : Jn) : Jn := { j with kind := if 10 < j.kind.size then j.kind.extract 0 10 else j.kind }
theorem fn17 (j : Jn) : Fn Try.prog 17 [j.pv] (.pv (kindOf j).pv) [] := by
  refine Run17 [] (by simp) ?_
  simp only [M17, go_sem, Nat.reduceEqDiff, Nat.reduceBEq, Nat.reduceAdd, Nat.reduceMul, Nat.reduceSub, Nat.reduceLeDiff, Nat.reduceLT, reduceIte, reduceCtorEq]
  refine ⟨fun h => ?_, fun h => ?_⟩
  · have h' : 10 < j.kind.size := by omega
    simp [kindOf, h']
    omega
  · have h' : ¬ 10 < j.kind.size := by omega
    simp [kindOf, h']

def timeB (n : Int) : Bool := decide (0 ≤ n ∧ n ≤ 1099511627775)
theorem fn50 (n : Int) : Fn Try.prog 50 [pI n] (.pv (pB (timeB n))) [] := by
  refine Run50 [] (by simp) ?_
  simp only [M50, go_sem, Nat.reduceEqDiff, Nat.reduceBEq, Nat.reduceAdd, Nat.reduceMul, Nat.reduceSub, Nat.reduceLeDiff, Nat.reduceLT, reduceIte, reduceCtorEq]
  simp [timeB]
def mayJ (j : Jn) : Bool :=
  decide (1 ≤ j.parts ∧ j.parts ≤ 6 ∧ 0 ≤ j.window ∧ j.window ≤ 1073741824) &&
  (if j.kind = sCount then decide (1 ≤ j.need ∧ j.need ≤ 30) else decide (j.kind = sAll ∨ j.kind = sAny) && decide (j.need = 0))
theorem ne_AC : sAll ≠ sCount := by decide
theorem ne_YC : sAny ≠ sCount := by decide
theorem ne_AY : sAll ≠ sAny := by decide
theorem fn22 (j : Jn) : Fn Try.prog 22 [j.pv] (.pv (pB (mayJ j))) [] := by
  refine Run22 [] (by simp) ?_
  simp only [M22, fAll, fAny, fCount, go_sem, Nat.reduceEqDiff, Nat.reduceBEq, Nat.reduceAdd, Nat.reduceMul, Nat.reduceSub, Nat.reduceLeDiff, Nat.reduceLT, reduceIte, reduceCtorEq]
  have h1 := ne_AC
  have h2 := ne_YC
  have h3 := ne_AY
  unfold mayJ
  generalize hA : sAll = A at *
  generalize hY : sAny = Y at *
  generalize hC : sCount = C at *
  by_cases k1 : j.kind = C <;> by_cases k2 : j.kind = A <;> by_cases k3 : j.kind = Y
  all_goals (first | (exfalso; simp_all; done) | simp only [k1, k2, k3, h1, h2, h3, h1.symm, h2.symm, h3.symm, if_true, if_false, true_or, or_true, false_or, or_false, decide_true, decide_false, Bool.true_and, Bool.false_and, Bool.and_false, true_implies, false_implies, not_true, not_false_eq_true, implies_true, false_and, and_false, and_true, true_and, forall_const, forall_false, ite_true, ite_false])
  all_goals (simp only [← Bool.decide_and, ← Bool.decide_or, ← decide_not, decide_eq_decide, false_eq_decide_iff, true_eq_decide_iff]; omega)
theorem fn23 (j : Jn) : Fn Try.prog 23 [j.pv] (.pv (pB (mayJ j))) [] := by
  refine Run23 [] (by simp) ?_
  simp only [M23, fAll, fAny, fCount, go_sem, Nat.reduceEqDiff, Nat.reduceBEq, Nat.reduceAdd, Nat.reduceMul, Nat.reduceSub, Nat.reduceLeDiff, Nat.reduceLT, reduceIte, reduceCtorEq]
  have h1 := ne_AC
  have h2 := ne_YC
  have h3 := ne_AY
  unfold mayJ
  generalize hA : sAll = A at *
  generalize hY : sAny = Y at *
  generalize hC : sCount = C at *
  by_cases k1 : j.kind = C <;> by_cases k2 : j.kind = A <;> by_cases k3 : j.kind = Y
  all_goals (first | (exfalso; simp_all; done) | simp only [k1, k2, k3, h1, h2, h3, h1.symm, h2.symm, h3.symm, if_true, if_false, true_or, or_true, false_or, or_false, decide_true, decide_false, Bool.true_and, Bool.false_and, Bool.and_false, true_implies, false_implies, not_true, not_false_eq_true, implies_true, false_and, and_false, and_true, true_and, forall_const, forall_false, ite_true, ite_false, Bool.not_true, Bool.not_false, Bool.false_eq_true, Bool.true_eq_false])
  all_goals (simp only [← Bool.decide_and, ← Bool.decide_or, ← decide_not, decide_eq_decide, false_eq_decide_iff, true_eq_decide_iff]; omega)
structure Kp where
  part : Int
  id : Int
  at_ : Int
  deriving DecidableEq
abbrev Kp.pv (k : Kp) : PV := .agg [pI k.part, pU k.id, pI k.at_]
abbrev ks (l : List Kp) : PV := .lst (l.map Kp.pv)
theorem wf_ks (l : List Kp) : WfL 3 (l.map Kp.pv) := by
  intro p hp
  obtain ⟨k, _, rfl⟩ := List.mem_map.1 hp
  refine ⟨rfl, fun c hc => ?_⟩
  simp [PV.cells] at hc
  rcases hc with rfl | rfl | rfl <;> rfl

instance : Inhabited Kp := ⟨⟨0, 0, 0⟩⟩
theorem getD_ks {l : List Kp} {i : Nat} (h : i < l.length) : (l.map Kp.pv).getD i default = (l.getD i default).pv := by
  simp [List.getD_eq_getElem?_getD, h]

theorem take_snoc {α : Type} [Inhabited α] {l : List α} {i : Nat} (h : i < l.length) : l.take (i + 1) = l.take i ++ [l.getD i default] := by
  rw [List.take_succ_eq_append_getElem h]; simp [List.getD_eq_getElem?_getD, h]
theorem Kp.ext3 {a b : Kp} (h : a.part = b.part ∧ a.id = b.id ∧ a.at_ = b.at_) : a = b := by
  cases a; cases b; simp_all

theorem fn21 (l m : List Kp) (hl : l.length < 4611686018427387904) (hm : m.length < 4611686018427387904) : Fn Try.prog 21 [ks l, ks m] (.pv (pB (decide (l = m)))) [] := by
  refine Run21 [] (by simp) ?_
  simp only [M21, go_sem, Nat.reduceEqDiff, Nat.reduceBEq, Nat.reduceAdd, Nat.reduceMul, Nat.reduceSub, Nat.reduceLeDiff, Nat.reduceLT, reduceIte, reduceCtorEq, List.length_map]
  refine ⟨fun h => ?_, fun h => run_loop (T := Nat) (fun i => ⟨[(0, .pv (ks l)), (1, .pv (ks m)), (5, .pv (pI i))], []⟩) (fun i => i ≤ l.length ∧ l.take i = m.take i) (fun i => l.length - i) 0 rfl ⟨Nat.zero_le _, rfl⟩ ?_⟩
  · have : l ≠ m := fun hlm => h (by rw [hlm])
    simp [this]
  · intro i ⟨hi, ht⟩
    have hlen : l.length = m.length := by omega
    by_cases hlt : i < l.length
    · have hltm : i < m.length := by omega
      simp only [go_sem, Nat.reduceEqDiff, Nat.reduceBEq, Nat.reduceAdd, Nat.reduceMul, Nat.reduceSub, Nat.reduceLeDiff, Nat.reduceLT, reduceIte, reduceCtorEq, getD_ks hlt, getD_ks hltm, wf_ks]
      refine ⟨fun _ => ⟨by omega, by omega, fun hne => ?_, fun heq => ⟨by omega, i + 1, rfl, ⟨hlt, ?_⟩, by omega⟩⟩, fun hn => absurd hlt (by omega)⟩
      · have : l ≠ m := fun hlm => by subst hlm; simp at hne
        simp [this]
      · rw [take_snoc hlt, take_snoc hltm, ht, Kp.ext3 heq]
    · have hlm : l = m := by
        rw [List.take_of_length_le (by omega), List.take_of_length_le (by omega)] at ht
        exact ht
      simp only [go_sem, Nat.reduceEqDiff, Nat.reduceBEq, Nat.reduceAdd, Nat.reduceMul, Nat.reduceSub, Nat.reduceLeDiff, Nat.reduceLT, reduceIte, reduceCtorEq, wf_ks]
      refine ⟨fun hlt' => absurd hlt' (by omega), fun _ => by simp [hlm]⟩
end Go.Vc

namespace Go.Vc
open Go.Proofs
set_option linter.unusedSimpArgs false

abbrev row0 (n : Nat) : AV := .row 0 0 n
theorem take_map_ks (l : List Kp) (n : Nat) : (l.map Kp.pv).take n = (l.take n).map Kp.pv := by rw [List.map_take]
theorem drop_map_ks (l : List Kp) (n : Nat) : (l.map Kp.pv).drop n = (l.drop n).map Kp.pv := by rw [List.map_drop]
theorem fn18 (l : List Kp) (hl : l.length ≤ 9223372036854775807) : Fn Try.prog 18 [ks l] (.pv (ks (l.take 31))) [] := by
  refine Run18 [] (by simp) ?_
  simp only [go_sem, Nat.reduceEqDiff, Nat.reduceBEq, Nat.reduceAdd, Nat.reduceMul, Nat.reduceSub, Nat.reduceLeDiff, Nat.reduceLT, reduceIte, reduceCtorEq, Int.reduceToNat, Int.reduceLE, Int.reduceLT, Int.reduceNeg, M18, wf_ks, take_map_ks, drop_map_ks]
  refine ⟨fun h => ⟨by omega, ?_, ?_⟩, fun h => ⟨by omega, ?_⟩⟩
  · simp only [List.drop_zero, List.length_take]; omega
  · simp; omega
  · rw [List.take_of_length_le (l := l) (by omega)]
theorem fn51 (l : List Kp) (hl : l.length < 100000) : Fn Try.prog 51 [ks l] (row0 l.length) [(3, l.map Kp.pv)] := by
  refine Run51 [true] (by simp) ?_
  simp only [go_sem, Nat.reduceEqDiff, Nat.reduceBEq, Nat.reduceAdd, Nat.reduceMul, Nat.reduceSub, Nat.reduceLeDiff, Nat.reduceLT, reduceIte, reduceCtorEq, Int.reduceToNat, Int.reduceLE, Int.reduceLT, Int.reduceNeg, M51, wf_ks]
  refine runR_isnil rfl rfl ?_
  intro b hb
  simp only [go_sem, Nat.reduceEqDiff, Nat.reduceBEq, Nat.reduceAdd, Nat.reduceMul, Nat.reduceSub, Nat.reduceLeDiff, Nat.reduceLT, reduceIte, reduceCtorEq, Int.reduceToNat, Int.reduceLE, Int.reduceLT, Int.reduceNeg, wf_ks]
  refine ⟨fun h => ?_, fun h => ⟨by omega, ?_⟩⟩
  · have : l = [] := by simpa using hb h
    subst this
    simp
  · simp
def fitsK (j : Jn) (k : Kp) : Bool := decide (0 ≤ k.part ∧ k.part < j.parts) && timeB k.at_
theorem fn45 (j : Jn) (k : Kp) : Fn Try.prog 45 [j.pv, k.pv] (.pv (pB (fitsK j k))) [] := by
  refine Run45 [] (by simp) ?_
  simp only [go_sem, Nat.reduceEqDiff, Nat.reduceBEq, Nat.reduceAdd, Nat.reduceMul, Nat.reduceSub, Nat.reduceLeDiff, Nat.reduceLT, reduceIte, reduceCtorEq, Int.reduceToNat, Int.reduceLE, Int.reduceLT, Int.reduceNeg, M45]
  refine ⟨by omega, runR_callg (by simp only [go_sem, Nat.reduceEqDiff]) (by simp only [go_sem, Nat.reduceEqDiff]) rfl (fun _ => fn50 _) (.inr rfl) ?_⟩
  simp only [go_sem, Nat.reduceEqDiff, Nat.reduceBEq, Nat.reduceAdd, Nat.reduceMul, Nat.reduceSub, Nat.reduceLeDiff, Nat.reduceLT, reduceIte, reduceCtorEq, Int.reduceToNat, Int.reduceLE, Int.reduceLT, Int.reduceNeg]
  simp [fitsK]
def earlyK (l : List Kp) (at_ : Int) : Bool := decide (0 < l.length) && decide (at_ < (l.getD (l.length - 1) default).at_)
theorem fn46 (l : List Kp) (n : Int) (hl : l.length < 4611686018427387904) : Fn Try.prog 46 [ks l, pI n] (.pv (pB (earlyK l n))) [] := by
  refine Run46 [] (by simp) ?_
  by_cases h0 : 0 < l.length
  · have e1 : ((l.length : Int) - 1).toNat = l.length - 1 := by omega
    simp only [go_sem, Nat.reduceEqDiff, Nat.reduceBEq, Nat.reduceAdd, Nat.reduceMul, Nat.reduceSub, Nat.reduceLeDiff, Nat.reduceLT, reduceIte, reduceCtorEq, Int.reduceToNat, Int.reduceLE, Int.reduceLT, Int.reduceNeg, M46, wf_ks, e1, getD_ks (show l.length - 1 < l.length by omega)]
    refine ⟨by omega, by omega, by omega, ?_⟩
    simp [earlyK]
  · have : l = [] := List.eq_nil_of_length_eq_zero (by omega)
    subst this
    simp only [go_sem, Nat.reduceEqDiff, Nat.reduceBEq, Nat.reduceAdd, Nat.reduceMul, Nat.reduceSub, Nat.reduceLeDiff, Nat.reduceLT, reduceIte, reduceCtorEq, Int.reduceToNat, Int.reduceLE, Int.reduceLT, Int.reduceNeg, M46, wf_ks, List.map_nil, List.length_nil]
    simp [earlyK]
theorem fn60 (k : Kp) (n : Int) : Fn Try.prog 60 [k.pv, .pt [pU n]] (.pv (pB (decide (k.id = n)))) [] := by
  refine Run60 [] (by simp) ?_
  simp only [go_sem, Nat.reduceEqDiff, Nat.reduceBEq, Nat.reduceAdd, Nat.reduceMul, Nat.reduceSub, Nat.reduceLeDiff, Nat.reduceLT, reduceIte, reduceCtorEq, Int.reduceToNat, Int.reduceLE, Int.reduceLT, Int.reduceNeg, M60]
def idxI (q : Kp → Bool) (l : List Kp) : Int := if l.any q then (l.findIdx q : Int) else -1
theorem getD_get {l : List Kp} {i : Nat} (h : i < l.length) : l.getD i default = l[i] := by simp [List.getD_eq_getElem?_getD, h]
theorem fn70 (l : List Kp) (g : Nat) (caps : List PV) (q : Kp → Bool) (hl : l.length < 100000) (hg : ∀ k ∈ l, Fn Try.prog g (k.pv :: caps) (.pv (pB (q k))) []) :
    Fn Try.prog 70 [ks l, .fn g caps] (.pv (pI (idxI q l))) [] := by
  refine Run70 [] (by simp) ?_
  simp only [go_sem, Nat.reduceEqDiff, Nat.reduceBEq, Nat.reduceAdd, Nat.reduceMul, Nat.reduceSub, Nat.reduceLeDiff, Nat.reduceLT, reduceIte, reduceCtorEq, Int.reduceToNat, Int.reduceLE, Int.reduceLT, Int.reduceNeg, M70]
  refine run_loop (T := Nat) (fun i => ⟨[(0, .pv (ks l)), (1, .pv (.fn g caps)), (7, .pv (pI l.length)), (8, .pv (pI i))], []⟩) (fun i => i ≤ l.length ∧ ∀ j (h : j < l.length), j < i → q l[j] = false) (fun i => l.length - i) 0 rfl ⟨Nat.zero_le _, fun j _ h => absurd h (by omega)⟩ ?_
  intro i ⟨hi, hq⟩
  by_cases hlt : i < l.length
  · simp only [go_sem, Nat.reduceEqDiff, Nat.reduceBEq, Nat.reduceAdd, Nat.reduceMul, Nat.reduceSub, Nat.reduceLeDiff, Nat.reduceLT, reduceIte, reduceCtorEq, Int.reduceToNat, Int.reduceLE, Int.reduceLT, Int.reduceNeg, wf_ks, getD_ks hlt, getD_get hlt]
    refine ⟨fun _ => ⟨by omega, runR_callf (by simp only [go_sem, Nat.reduceEqDiff, Nat.reduceBEq, Nat.reduceAdd, Nat.reduceMul, Nat.reduceSub, Nat.reduceLeDiff, Nat.reduceLT, reduceIte, reduceCtorEq, Int.reduceToNat, Int.reduceLE, Int.reduceLT, Int.reduceNeg]) (by simp only [go_sem, Nat.reduceEqDiff, Nat.reduceBEq, Nat.reduceAdd, Nat.reduceMul, Nat.reduceSub, Nat.reduceLeDiff, Nat.reduceLT, reduceIte, reduceCtorEq, Int.reduceToNat, Int.reduceLE, Int.reduceLT, Int.reduceNeg, snapL_pv _ 3]) (hg _ (List.getElem_mem hlt)) ⟨rfl, trivial⟩ trivial ?_⟩, fun h => absurd hlt (by omega)⟩
    simp only [go_sem, Nat.reduceEqDiff, Nat.reduceBEq, Nat.reduceAdd, Nat.reduceMul, Nat.reduceSub, Nat.reduceLeDiff, Nat.reduceLT, reduceIte, reduceCtorEq, Int.reduceToNat, Int.reduceLE, Int.reduceLT, Int.reduceNeg]
    refine ⟨fun hq1 => ?_, fun hq0 => ⟨by omega, i + 1, rfl, ⟨hlt, fun j hj hji => ?_⟩, by omega⟩⟩
    · have h1 : l.any q = true := List.any_eq_true.2 ⟨_, List.getElem_mem hlt, hq1⟩
      have h2 : l.findIdx q = i := (List.findIdx_eq hlt).2 ⟨hq1, fun j hji => hq j (by omega) hji⟩
      simp [idxI, h1, h2]
    · by_cases hj2 : j = i
      · subst hj2; exact hq0
      · exact hq j hj (by omega)
  · simp only [go_sem, Nat.reduceEqDiff, Nat.reduceBEq, Nat.reduceAdd, Nat.reduceMul, Nat.reduceSub, Nat.reduceLeDiff, Nat.reduceLT, reduceIte, reduceCtorEq, Int.reduceToNat, Int.reduceLE, Int.reduceLT, Int.reduceNeg, show ¬ ((i : Int) < (l.length : Int)) by omega]
    have h1 : l.any q = false := by
      rw [List.any_eq_false]
      intro k hk
      obtain ⟨j, hj, rfl⟩ := List.getElem_of_mem hk
      simp [hq j hj (by omega)]
    simp [idxI, h1]
theorem fn59 (l : List Kp) (g : Nat) (caps : List PV) (q : Kp → Bool) (hl : l.length < 100000) (hg : ∀ k ∈ l, Fn Try.prog g (k.pv :: caps) (.pv (pB (q k))) []) :
    Fn Try.prog 59 [ks l, .fn g caps] (.pv (pB (l.any q))) [] := by
  refine Run59 [] (by simp) ?_
  simp only [go_sem, Nat.reduceEqDiff, Nat.reduceBEq, Nat.reduceAdd, Nat.reduceMul, Nat.reduceSub, Nat.reduceLeDiff, Nat.reduceLT, reduceIte, reduceCtorEq, Int.reduceToNat, Int.reduceLE, Int.reduceLT, Int.reduceNeg, M59]
  refine runR_callf (by simp only [go_sem, Nat.reduceEqDiff, Nat.reduceBEq, Nat.reduceAdd, Nat.reduceMul, Nat.reduceSub, Nat.reduceLeDiff, Nat.reduceLT, reduceIte, reduceCtorEq, Int.reduceToNat, Int.reduceLE, Int.reduceLT, Int.reduceNeg]) (by simp only [go_sem, Nat.reduceEqDiff, Nat.reduceBEq, Nat.reduceAdd, Nat.reduceMul, Nat.reduceSub, Nat.reduceLeDiff, Nat.reduceLT, reduceIte, reduceCtorEq, Int.reduceToNat, Int.reduceLE, Int.reduceLT, Int.reduceNeg]) (fn70 l g caps q hl hg) ⟨rfl, trivial⟩ trivial ?_
  simp only [go_sem, Nat.reduceEqDiff, Nat.reduceBEq, Nat.reduceAdd, Nat.reduceMul, Nat.reduceSub, Nat.reduceLeDiff, Nat.reduceLT, reduceIte, reduceCtorEq, Int.reduceToNat, Int.reduceLE, Int.reduceLT, Int.reduceNeg]
  unfold idxI
  split
  · rename_i h; simp [h]
  · rename_i h; simp [h]
theorem fn47 (l : List Kp) (n : Int) (hl : l.length < 100000) : Fn Try.prog 47 [ks l, pU n] (.pv (pB (l.any fun k => decide (k.id = n)))) [] := by
  refine Run47 [] (by simp) ?_
  simp only [go_sem, Nat.reduceEqDiff, Nat.reduceBEq, Nat.reduceAdd, Nat.reduceMul, Nat.reduceSub, Nat.reduceLeDiff, Nat.reduceLT, reduceIte, reduceCtorEq, Int.reduceToNat, Int.reduceLE, Int.reduceLT, Int.reduceNeg, M47]
  refine runR_callf (by simp only [go_sem, Nat.reduceEqDiff, Nat.reduceBEq, Nat.reduceAdd, Nat.reduceMul, Nat.reduceSub, Nat.reduceLeDiff, Nat.reduceLT, reduceIte, reduceCtorEq, Int.reduceToNat, Int.reduceLE, Int.reduceLT, Int.reduceNeg]) (by simp only [go_sem, Nat.reduceEqDiff, Nat.reduceBEq, Nat.reduceAdd, Nat.reduceMul, Nat.reduceSub, Nat.reduceLeDiff, Nat.reduceLT, reduceIte, reduceCtorEq, Int.reduceToNat, Int.reduceLE, Int.reduceLT, Int.reduceNeg]) (fn59 l 60 [.pt [pU n]] (fun k => decide (k.id = n)) hl fun k _ => fn60 k n) ⟨rfl, trivial⟩ trivial ?_
  simp only [go_sem, Nat.reduceEqDiff, Nat.reduceBEq, Nat.reduceAdd, Nat.reduceMul, Nat.reduceSub, Nat.reduceLeDiff, Nat.reduceLT, reduceIte, reduceCtorEq, Int.reduceToNat, Int.reduceLE, Int.reduceLT, Int.reduceNeg]
end Go.Vc

namespace Go.Vc
open Go.Proofs
set_option linter.unusedSimpArgs false

abbrev pN (n : Nat) : PV := pI n
abbrev ns (l : List Nat) : PV := .lst (l.map pN)
def upto (n len : Nat) : List Nat := if len < n then [] else List.range n
def fillTo (n i : Nat) : List PV := (List.range i).map pN ++ List.replicate (n - i) (pI 0)
theorem fillTo_len {n i : Nat} (h : i ≤ n) : (fillTo n i).length = n := by simp [fillTo]; omega
theorem fillTo_get {n i : Nat} (h : i < n) : (fillTo n i).getD i default = pI 0 := by
  have h2 : 0 < n - i := by omega
  simp [fillTo, List.getD_eq_getElem?_getD, List.getElem?_append_right, List.getElem?_replicate, h2]
theorem fillTo_set {n i : Nat} (h : i < n) : (fillTo n i).set i (pI i) = fillTo n (i + 1) := by
  have e : n - i = (n - (i + 1)) + 1 := by omega
  simp [fillTo, List.set_append, List.range_succ, e, List.replicate_succ]
theorem fillTo_all (n : Nat) : fillTo n n = (List.range n).map pN := by simp [fillTo]
theorem fn63 (n len : Nat) (hn : n ≤ 1000) (hl : len < 100000) : Fn Try.prog 63 [pI n, pI len] (.pv (ns (upto n len))) [] := by
  refine Run63 [] (by simp) ?_
  simp only [go_sem, Nat.reduceEqDiff, Nat.reduceBEq, Nat.reduceAdd, Nat.reduceMul, Nat.reduceSub, Nat.reduceLeDiff, Nat.reduceLT, reduceIte, reduceCtorEq, Int.reduceToNat, Int.reduceLE, Int.reduceLT, Int.reduceNeg, M63]
  refine ⟨fun h => ?_, fun h => ⟨by omega, run_loop (T := Nat) (fun i => ⟨[(5, .row 11 0 n), (13, .pv (pI n)), (14, .pv (pI i))], [(11, .sl 1 (fillTo n i))]⟩) (fun i => i ≤ n) (fun i => n - i) 0 ?_ (Nat.zero_le _) ?_⟩⟩
  · have : len < n := by omega
    simp [upto, this]
  · simp [fillTo]
  · intro i hi
    by_cases hlt : i < n
    · simp only [go_sem, Nat.reduceEqDiff, Nat.reduceBEq, Nat.reduceAdd, Nat.reduceMul, Nat.reduceSub, Nat.reduceLeDiff, Nat.reduceLT, reduceIte, reduceCtorEq, Int.reduceToNat, Int.reduceLE, Int.reduceLT, Int.reduceNeg, show (i : Int) < (n : Int) by omega, fillTo_len hi, fillTo_get hlt, fillTo_set hlt]
      exact ⟨hlt, by omega, i + 1, rfl, hlt, by omega⟩
    · have e : i = n := by omega
      subst e
      simp only [go_sem, Nat.reduceEqDiff, Nat.reduceBEq, Nat.reduceAdd, Nat.reduceMul, Nat.reduceSub, Nat.reduceLeDiff, Nat.reduceLT, reduceIte, reduceCtorEq, Int.reduceToNat, Int.reduceLE, Int.reduceLT, Int.reduceNeg, show ¬ (i : Int) < (i : Int) by omega, fillTo_len hi, fillTo_all]
      rw [List.take_of_length_le (by simp)]
      simp [upto, show ¬ len < i by omega]
theorem fn62 (l : List Kp) (hl : l.length < 100000) : Fn Try.prog 62 [.pt [ks l]] (.pv (ns (upto 1 l.length))) [] := by
  refine Run62 [] (by simp) ?_
  simp only [go_sem, Nat.reduceEqDiff, Nat.reduceBEq, Nat.reduceAdd, Nat.reduceMul, Nat.reduceSub, Nat.reduceLeDiff, Nat.reduceLT, reduceIte, reduceCtorEq, Int.reduceToNat, Int.reduceLE, Int.reduceLT, Int.reduceNeg, M62]
  refine runR_call (by simp only [go_sem, Nat.reduceEqDiff, Nat.reduceBEq, Nat.reduceAdd, Nat.reduceMul, Nat.reduceSub, Nat.reduceLeDiff, Nat.reduceLT, reduceIte, reduceCtorEq, Int.reduceToNat, Int.reduceLE, Int.reduceLT, Int.reduceNeg]) (by simp only [go_sem, Nat.reduceEqDiff, Nat.reduceBEq, Nat.reduceAdd, Nat.reduceMul, Nat.reduceSub, Nat.reduceLeDiff, Nat.reduceLT, reduceIte, reduceCtorEq, Int.reduceToNat, Int.reduceLE, Int.reduceLT, Int.reduceNeg]; rfl) (fn63 1 l.length (by omega) hl) (.inl rfl) trivial ?_
  simp only [go_sem, Nat.reduceEqDiff, Nat.reduceBEq, Nat.reduceAdd, Nat.reduceMul, Nat.reduceSub, Nat.reduceLeDiff, Nat.reduceLT, reduceIte, reduceCtorEq, Int.reduceToNat, Int.reduceLE, Int.reduceLT, Int.reduceNeg]
theorem fn64 (j : Jn) (l : List Kp) (n : Nat) (hj : j.need = n) (hn : n ≤ 1000) (hl : l.length < 100000) : Fn Try.prog 64 [.pt [pS j.kind, pI j.parts, pI j.need, pI j.window], .pt [ks l]] (.pv (ns (upto n l.length))) [] := by
  refine Run64 [] (by simp) ?_
  simp only [go_sem, Nat.reduceEqDiff, Nat.reduceBEq, Nat.reduceAdd, Nat.reduceMul, Nat.reduceSub, Nat.reduceLeDiff, Nat.reduceLT, reduceIte, reduceCtorEq, Int.reduceToNat, Int.reduceLE, Int.reduceLT, Int.reduceNeg, M64, hj]
  refine runR_call (by simp only [go_sem, Nat.reduceEqDiff, Nat.reduceBEq, Nat.reduceAdd, Nat.reduceMul, Nat.reduceSub, Nat.reduceLeDiff, Nat.reduceLT, reduceIte, reduceCtorEq, Int.reduceToNat, Int.reduceLE, Int.reduceLT, Int.reduceNeg]) rfl (fn63 n l.length hn hl) (.inl rfl) trivial ?_
  simp only [go_sem, Nat.reduceEqDiff, Nat.reduceBEq, Nat.reduceAdd, Nat.reduceMul, Nat.reduceSub, Nat.reduceLeDiff, Nat.reduceLT, reduceIte, reduceCtorEq, Int.reduceToNat, Int.reduceLE, Int.reduceLT, Int.reduceNeg]
end Go.Vc

namespace Go.Vc
open Go.Proofs
set_option linter.unusedSimpArgs false

def hasPart (l : List Kp) (p : Int) : Bool := l.any fun x => decide (x.part = p)
def isFirst (l : List Kp) (k : Nat) : Bool := !hasPart (l.take k) (l.getD k default).part
def firstsTo (l : List Kp) (i : Nat) : List Nat := (List.range i).filter (isFirst l)
def hadTo (l : List Kp) (i : Nat) : List AV := (List.range 6).map fun p : Nat => .pv (pB (hasPart (l.take i) p))
theorem hadTo_len (l : List Kp) (i : Nat) : (hadTo l i).length = 6 := by simp [hadTo]
theorem hasPart_succ {l : List Kp} {i : Nat} (h : i < l.length) (p : Int) : hasPart (l.take (i + 1)) p = (hasPart (l.take i) p || decide (l[i].part = p)) := by
  simp only [hasPart]; rw [take_snoc h, getD_get h, List.any_append]; simp
theorem hadTo_get {l : List Kp} {i : Nat} {p : Int} (h0 : 0 ≤ p) (h6 : p < 6) : (hadTo l i).getD p.toNat .un = .pv (pB (hasPart (l.take i) p)) := by
  have h : p.toNat < 6 := by omega
  have e : ((p.toNat : Nat) : Int) = p := by omega
  simp [hadTo, List.getD_eq_getElem?_getD, h, e]
theorem hadTo_set {l : List Kp} {i : Nat} (h : i < l.length) (h0 : 0 ≤ l[i].part) (h6 : l[i].part < 6) : (hadTo l i).set l[i].part.toNat (.pv (pB true)) = hadTo l (i + 1) := by
  apply List.ext_getElem
  · simp [hadTo]
  · intro n h1 h2
    have hn : n < 6 := by simpa [hadTo] using h2
    rw [List.getElem_set]
    simp only [hadTo, List.getElem_map, List.getElem_range, hasPart_succ h]
    by_cases he : l[i].part.toNat = n
    · have : l[i].part = (n : Int) := by omega
      simp [he, this]
    · have : ¬ l[i].part = (n : Int) := by omega
      simp [he, this]
theorem hadTo_same {l : List Kp} {i : Nat} (h : i < l.length) (hh : hasPart (l.take i) l[i].part = true) : hadTo l (i + 1) = hadTo l i := by
  simp only [hadTo]
  apply List.map_congr_left
  intro p _
  rw [hasPart_succ h]
  by_cases he : l[i].part = (p : Int)
  · rw [← he, hh]; rfl
  · simp [he]
theorem firstsTo_yes {l : List Kp} {i : Nat} (h : i < l.length) (hh : hasPart (l.take i) l[i].part = false) : firstsTo l (i + 1) = firstsTo l i ++ [i] := by
  have h1 : isFirst l i = true := by rw [isFirst, getD_get h, hh]; rfl
  simp [firstsTo, List.range_succ, h1]
theorem firstsTo_no {l : List Kp} {i : Nat} (h : i < l.length) (hh : hasPart (l.take i) l[i].part = true) : firstsTo l (i + 1) = firstsTo l i := by
  have h1 : isFirst l i = false := by rw [isFirst, getD_get h, hh]; rfl
  simp [firstsTo, List.range_succ, h1]
theorem firstsTo_len (l : List Kp) (i : Nat) : (firstsTo l i).length ≤ i := by
  have := List.length_filter_le (isFirst l) (List.range i)
  simpa [firstsTo] using this
theorem clips_had (D : Nat → Bool) (l : List Kp) (i : Nat) : AV.clips D (hadTo l i) = hadTo l i := rfl
theorem wf_pI (n : Int) : WfL 1 [pI n] := by
  intro p hp
  simp only [List.mem_singleton] at hp
  subst hp
  refine ⟨rfl, fun c hc => ?_⟩
  simp only [PV.cells, List.mem_singleton] at hc
  subst hc
  rfl
theorem fn61 (j : Jn) (l : List Kp) (hl : l.length < 100000) (hp : ∀ k ∈ l, 0 ≤ k.part ∧ k.part < 6) :
    Fn Try.prog 61 [.pt [ks l], .pt [pS j.kind, pI j.parts, pI j.need, pI j.window]] (.pv (ns (if ((firstsTo l l.length).length : Int) < j.parts then [] else firstsTo l l.length))) [] := by
  refine Run61 [] (by simp) ?_
  simp only [go_sem, Nat.reduceEqDiff, Nat.reduceBEq, Nat.reduceAdd, Nat.reduceMul, Nat.reduceSub, Nat.reduceLeDiff, Nat.reduceLT, reduceIte, reduceCtorEq, Int.reduceToNat, Int.reduceLE, Int.reduceLT, Int.reduceNeg, M61]
  refine run_loop (T := Nat) (fun i => ⟨[(1, .pv (.pt [pS j.kind, pI j.parts, pI j.need, pI j.window])), (3, .ptr 3 0), (4, .row 2004 0 (firstsTo l i).length), (7, .pv (ks l)), (8, .pv (pI l.length)), (9, .pv (pI i))],
    [(3, .box (hadTo l i)), (2004, .sl 1 ((firstsTo l i).map pN))]⟩) (fun i => i ≤ l.length) (fun i => l.length - i) 0 rfl (Nat.zero_le _) ?_
  intro i hi
  by_cases hlt : i < l.length
  · obtain ⟨p0, p6⟩ := hp _ (List.getElem_mem hlt)
    have hfl := firstsTo_len l i
    simp only [go_sem, Nat.reduceEqDiff, Nat.reduceBEq, Nat.reduceAdd, Nat.reduceMul, Nat.reduceSub, Nat.reduceLeDiff, Nat.reduceLT, reduceIte, reduceCtorEq, Int.reduceToNat, Int.reduceLE, Int.reduceLT, Int.reduceNeg, wf_ks, getD_ks hlt, getD_get hlt, show (i : Int) < (l.length : Int) by omega, hadTo_get p0 p6, hadTo_len, clips_had, hadTo_set hlt p0 p6, wf_pI]
    refine ⟨by omega, by omega, fun hh => ⟨by omega, by omega, ⟨by omega, by omega⟩, by omega, i + 1, ?_, hlt, by omega⟩, fun hh => ⟨by omega, i + 1, ?_, hlt, by omega⟩⟩
    · rw [firstsTo_yes hlt hh, List.take_of_length_le (by simp)]
      simp [pN]
    · rw [firstsTo_no hlt hh, hadTo_same hlt hh]
      rfl
  · have e : i = l.length := by omega
    subst e
    simp only [go_sem, Nat.reduceEqDiff, Nat.reduceBEq, Nat.reduceAdd, Nat.reduceMul, Nat.reduceSub, Nat.reduceLeDiff, Nat.reduceLT, reduceIte, reduceCtorEq, Int.reduceToNat, Int.reduceLE, Int.reduceLT, Int.reduceNeg, show ¬ (l.length : Int) < (l.length : Int) by omega]
    refine ⟨fun h => by rw [if_pos h]; rfl, fun h => by rw [if_neg h, List.take_of_length_le (by simp)]⟩
end Go.Vc

namespace Go.Vc
open Go.Proofs
set_option linter.unusedSimpArgs false

/-- the places of those that meet a pattern -/
def places (j : Jn) (l : List Kp) : List Nat :=
  if j.kind = sAll then (if ((firstsTo l l.length).length : Int) < j.parts then [] else firstsTo l l.length)
  else if j.kind = sAny then upto 1 l.length
  else if j.kind = sCount then upto j.need.toNat l.length
  else []
theorem fn48 (j : Jn) (l : List Kp) (hl : l.length < 100000) (hj : mayJ j = true) (hp : ∀ k ∈ l, 0 ≤ k.part ∧ k.part < 6) :
    Fn Try.prog 48 [j.pv, ks l] (.pv (ns (places j l))) [] := by
  refine Run48 [] (by simp) ?_
  have h1 := ne_AC
  have h2 := ne_YC
  have h3 := ne_AY
  have hk : j.kind = sAll ∨ j.kind = sAny ∨ j.kind = sCount ∧ 1 ≤ j.need ∧ j.need ≤ 30 := by
    unfold mayJ at hj
    by_cases k1 : j.kind = sCount
    · simp [k1] at hj; exact .inr (.inr ⟨k1, by omega, by omega⟩)
    · simp [k1] at hj
      rcases hj.2.1 with h | h
      · exact .inl h
      · exact .inr (.inl h)
  rcases hk with hk | hk | ⟨hk, hn1, hn2⟩
  · simp only [go_sem, Nat.reduceEqDiff, Nat.reduceBEq, Nat.reduceAdd, Nat.reduceMul, Nat.reduceSub, Nat.reduceLeDiff, Nat.reduceLT, reduceIte, reduceCtorEq, Int.reduceToNat, Int.reduceLE, Int.reduceLT, Int.reduceNeg, M48, fAll, fAny, fCount, h1, h2, h3, h1.symm, h2.symm, h3.symm, hk]
    have hf := fn61 j l hl hp
    rw [hk] at hf
    refine runR_call (by simp only [go_sem, Nat.reduceEqDiff, Nat.reduceBEq, Nat.reduceAdd, Nat.reduceMul, Nat.reduceSub, Nat.reduceLeDiff, Nat.reduceLT, reduceIte, reduceCtorEq, Int.reduceToNat, Int.reduceLE, Int.reduceLT, Int.reduceNeg]) rfl hf (.inl rfl) trivial ?_
    simp only [go_sem, Nat.reduceEqDiff, Nat.reduceBEq, Nat.reduceAdd, Nat.reduceMul, Nat.reduceSub, Nat.reduceLeDiff, Nat.reduceLT, reduceIte, reduceCtorEq, Int.reduceToNat, Int.reduceLE, Int.reduceLT, Int.reduceNeg]
    simp [places, hk]
  · simp only [go_sem, Nat.reduceEqDiff, Nat.reduceBEq, Nat.reduceAdd, Nat.reduceMul, Nat.reduceSub, Nat.reduceLeDiff, Nat.reduceLT, reduceIte, reduceCtorEq, Int.reduceToNat, Int.reduceLE, Int.reduceLT, Int.reduceNeg, M48, fAll, fAny, fCount, h1, h2, h3, h1.symm, h2.symm, h3.symm, hk]
    refine runR_call (by simp only [go_sem, Nat.reduceEqDiff, Nat.reduceBEq, Nat.reduceAdd, Nat.reduceMul, Nat.reduceSub, Nat.reduceLeDiff, Nat.reduceLT, reduceIte, reduceCtorEq, Int.reduceToNat, Int.reduceLE, Int.reduceLT, Int.reduceNeg]) rfl (fn62 l hl) (.inl rfl) trivial ?_
    simp only [go_sem, Nat.reduceEqDiff, Nat.reduceBEq, Nat.reduceAdd, Nat.reduceMul, Nat.reduceSub, Nat.reduceLeDiff, Nat.reduceLT, reduceIte, reduceCtorEq, Int.reduceToNat, Int.reduceLE, Int.reduceLT, Int.reduceNeg]
    simp [places, hk, h3.symm]
  · simp only [go_sem, Nat.reduceEqDiff, Nat.reduceBEq, Nat.reduceAdd, Nat.reduceMul, Nat.reduceSub, Nat.reduceLeDiff, Nat.reduceLT, reduceIte, reduceCtorEq, Int.reduceToNat, Int.reduceLE, Int.reduceLT, Int.reduceNeg, M48, fAll, fAny, fCount, h1, h2, h3, h1.symm, h2.symm, h3.symm, hk]
    have hn : j.need = (j.need.toNat : Int) := by omega
    have hf := fn64 j l j.need.toNat hn (by omega) hl
    rw [hk] at hf
    refine runR_call (by simp only [go_sem, Nat.reduceEqDiff, Nat.reduceBEq, Nat.reduceAdd, Nat.reduceMul, Nat.reduceSub, Nat.reduceLeDiff, Nat.reduceLT, reduceIte, reduceCtorEq, Int.reduceToNat, Int.reduceLE, Int.reduceLT, Int.reduceNeg]) rfl hf (.inl rfl) trivial ?_
    simp only [go_sem, Nat.reduceEqDiff, Nat.reduceBEq, Nat.reduceAdd, Nat.reduceMul, Nat.reduceSub, Nat.reduceLeDiff, Nat.reduceLT, reduceIte, reduceCtorEq, Int.reduceToNat, Int.reduceLE, Int.reduceLT, Int.reduceNeg]
    simp [places, hk, h1.symm, h2.symm]
end Go.Vc

namespace Go.Vc
open Go.Proofs
set_option linter.unusedSimpArgs false

def okAt (j : Jn) (l : List Kp) (k : Nat) : Bool :=
  fitsK j (l.getD k default) && !earlyK (l.take k) (l.getD k default).at_ && !(l.take k).any fun y => decide (y.id = (l.getD k default).id)
def okTo (j : Jn) (l : List Kp) (i : Nat) : Bool := (List.range i).all (okAt j l)
def checkJ (j : Jn) (l : List Kp) : Bool := mayJ j && decide (l.length < 30) && okTo j l l.length && decide (places j l = [])
def errN (b : Bool) : Int := if b then 0 else 1
theorem okTo_succ (j : Jn) (l : List Kp) (i : Nat) : okTo j l (i + 1) = (okTo j l i && okAt j l i) := by
  simp [okTo, List.range_succ]
theorem okTo_at {j : Jn} {l : List Kp} {i k : Nat} (h : okTo j l i = true) (hk : k < i) : okAt j l k = true := by
  simp only [okTo, List.all_eq_true, List.mem_range] at h
  exact h k hk
theorem okTo_le {j : Jn} {l : List Kp} {i k : Nat} (h : okTo j l i = true) (hk : k ≤ i) : okTo j l k = true := by
  simp only [okTo, List.all_eq_true, List.mem_range] at h ⊢
  exact fun n hn => h n (by omega)
theorem okTo_fits {j : Jn} {l : List Kp} (h : okTo j l l.length = true) : ∀ k ∈ l, fitsK j k = true := by
  intro k hk
  obtain ⟨n, hn, rfl⟩ := List.getElem_of_mem hk
  have := okTo_at h hn
  rw [okAt, getD_get hn] at this
  simp at this
  exact this.1.1
theorem fits_part {j : Jn} {k : Kp} (hj : mayJ j = true) (h : fitsK j k = true) : 0 ≤ k.part ∧ k.part < 6 := by
  simp [fitsK, mayJ] at h hj
  omega
theorem fn24 (j : Jn) (l : List Kp) (hl : l.length < 100000) : Fn Try.prog 24 [j.pv, ks l] (.pv (pI (errN (checkJ j l)))) [] := by
  refine Run24 [] (by simp) ?_
  simp only [go_sem, Nat.reduceEqDiff, Nat.reduceBEq, Nat.reduceAdd, Nat.reduceMul, Nat.reduceSub, Nat.reduceLeDiff, Nat.reduceLT, reduceIte, reduceCtorEq, Int.reduceToNat, Int.reduceLE, Int.reduceLT, Int.reduceNeg, Bool.not_not, and_self, M24]
  refine runR_callf (by simp only [go_sem, Nat.reduceEqDiff, Nat.reduceBEq, Nat.reduceAdd, Nat.reduceMul, Nat.reduceSub, Nat.reduceLeDiff, Nat.reduceLT, reduceIte, reduceCtorEq, Int.reduceToNat, Int.reduceLE, Int.reduceLT, Int.reduceNeg, Bool.not_not, and_self]) (by simp only [go_sem, Nat.reduceEqDiff, Nat.reduceBEq, Nat.reduceAdd, Nat.reduceMul, Nat.reduceSub, Nat.reduceLeDiff, Nat.reduceLT, reduceIte, reduceCtorEq, Int.reduceToNat, Int.reduceLE, Int.reduceLT, Int.reduceNeg, Bool.not_not, and_self]) (fn22 j) ⟨rfl, trivial⟩ trivial ?_
  simp only [go_sem, Nat.reduceEqDiff, Nat.reduceBEq, Nat.reduceAdd, Nat.reduceMul, Nat.reduceSub, Nat.reduceLeDiff, Nat.reduceLT, reduceIte, reduceCtorEq, Int.reduceToNat, Int.reduceLE, Int.reduceLT, Int.reduceNeg, Bool.not_not, and_self]
  refine ⟨fun h => ?_, fun ⟨hm, h30⟩ => run_loop (T := Nat) (fun i => ⟨[(1, .pv (ks l)), (2, .ptr 2 0), (15, .pv (ks l)), (16, .pv (pI l.length)), (17, .pv (pI i))], [(2, .box [.pv (pS j.kind), .pv (pI j.parts), .pv (pI j.need), .pv (pI j.window)])]⟩)
    (fun i => i ≤ l.length ∧ okTo j l i = true) (fun i => l.length - i) 0 rfl ⟨Nat.zero_le _, rfl⟩ ?_⟩
  · have : checkJ j l = false := by
      rcases h with h | h
      · simp [checkJ, h]
      · simp [checkJ, show ¬ l.length < 30 by omega]
    rw [this]; rfl
  intro i ⟨hi, hok⟩
  by_cases hlt : i < l.length
  · simp only [go_sem, Nat.reduceEqDiff, Nat.reduceBEq, Nat.reduceAdd, Nat.reduceMul, Nat.reduceSub, Nat.reduceLeDiff, Nat.reduceLT, reduceIte, reduceCtorEq, Int.reduceToNat, Int.reduceLE, Int.reduceLT, Int.reduceNeg, Bool.not_not, and_self, wf_ks, getD_ks hlt, show (i : Int) < (l.length : Int) by omega, take_map_ks]
    refine runR_callf (by simp only [go_sem, Nat.reduceEqDiff, Nat.reduceBEq, Nat.reduceAdd, Nat.reduceMul, Nat.reduceSub, Nat.reduceLeDiff, Nat.reduceLT, reduceIte, reduceCtorEq, Int.reduceToNat, Int.reduceLE, Int.reduceLT, Int.reduceNeg, Bool.not_not, and_self]) (by simp only [go_sem, Nat.reduceEqDiff, Nat.reduceBEq, Nat.reduceAdd, Nat.reduceMul, Nat.reduceSub, Nat.reduceLeDiff, Nat.reduceLT, reduceIte, reduceCtorEq, Int.reduceToNat, Int.reduceLE, Int.reduceLT, Int.reduceNeg, Bool.not_not, and_self]) (fn45 j (l.getD i default)) ⟨rfl, trivial⟩ trivial ?_
    simp only [go_sem, Nat.reduceEqDiff, Nat.reduceBEq, Nat.reduceAdd, Nat.reduceMul, Nat.reduceSub, Nat.reduceLeDiff, Nat.reduceLT, reduceIte, reduceCtorEq, Int.reduceToNat, Int.reduceLE, Int.reduceLT, Int.reduceNeg, Bool.not_not, and_self, wf_ks, take_map_ks]
    refine ⟨(by (repeat' (first | intro _ | apply And.intro)) <;> (first | assumption | omega | (simp_all; done) | (simp_all; omega))), runR_callgf (by simp only [go_sem, Nat.reduceEqDiff, Nat.reduceBEq, Nat.reduceAdd, Nat.reduceMul, Nat.reduceSub, Nat.reduceLeDiff, Nat.reduceLT, reduceIte, reduceCtorEq, Int.reduceToNat, Int.reduceLE, Int.reduceLT, Int.reduceNeg, Bool.not_not, and_self]) (by simp only [go_sem, Nat.reduceEqDiff, Nat.reduceBEq, Nat.reduceAdd, Nat.reduceMul, Nat.reduceSub, Nat.reduceLeDiff, Nat.reduceLT, reduceIte, reduceCtorEq, Int.reduceToNat, Int.reduceLE, Int.reduceLT, Int.reduceNeg, Bool.not_not, and_self]) (by simp only [go_sem, Nat.reduceEqDiff, Nat.reduceBEq, Nat.reduceAdd, Nat.reduceMul, Nat.reduceSub, Nat.reduceLeDiff, Nat.reduceLT, reduceIte, reduceCtorEq, Int.reduceToNat, Int.reduceLE, Int.reduceLT, Int.reduceNeg, Bool.not_not, and_self]) (fun _ => fn46 (l.take i) (l.getD i default).at_ (by simp; omega)) rfl ?_⟩
    simp only [go_sem, Nat.reduceEqDiff, Nat.reduceBEq, Nat.reduceAdd, Nat.reduceMul, Nat.reduceSub, Nat.reduceLeDiff, Nat.reduceLT, reduceIte, reduceCtorEq, Int.reduceToNat, Int.reduceLE, Int.reduceLT, Int.reduceNeg, Bool.not_not, and_self, wf_ks, take_map_ks]
    refine ⟨(by (repeat' (first | intro _ | apply And.intro)) <;> (first | assumption | omega | (simp_all; done) | (simp_all; omega))), runR_callgf (by simp only [go_sem, Nat.reduceEqDiff, Nat.reduceBEq, Nat.reduceAdd, Nat.reduceMul, Nat.reduceSub, Nat.reduceLeDiff, Nat.reduceLT, reduceIte, reduceCtorEq, Int.reduceToNat, Int.reduceLE, Int.reduceLT, Int.reduceNeg, Bool.not_not, and_self]) (by simp only [go_sem, Nat.reduceEqDiff, Nat.reduceBEq, Nat.reduceAdd, Nat.reduceMul, Nat.reduceSub, Nat.reduceLeDiff, Nat.reduceLT, reduceIte, reduceCtorEq, Int.reduceToNat, Int.reduceLE, Int.reduceLT, Int.reduceNeg, Bool.not_not, and_self]) (by simp only [go_sem, Nat.reduceEqDiff, Nat.reduceBEq, Nat.reduceAdd, Nat.reduceMul, Nat.reduceSub, Nat.reduceLeDiff, Nat.reduceLT, reduceIte, reduceCtorEq, Int.reduceToNat, Int.reduceLE, Int.reduceLT, Int.reduceNeg, Bool.not_not, and_self]) (fun _ => fn47 (l.take i) (l.getD i default).id (by simp; omega)) rfl ?_⟩
    simp only [go_sem, Nat.reduceEqDiff, Nat.reduceBEq, Nat.reduceAdd, Nat.reduceMul, Nat.reduceSub, Nat.reduceLeDiff, Nat.reduceLT, reduceIte, reduceCtorEq, Int.reduceToNat, Int.reduceLE, Int.reduceLT, Int.reduceNeg, Bool.not_not, and_self, wf_ks, take_map_ks]
    have hs : okTo j l (i + 1) = okAt j l i := by rw [okTo_succ, hok]; rfl
    refine ⟨fun h => ?_, fun h => ⟨by omega, i + 1, rfl, ⟨hlt, ?_⟩, by omega⟩⟩
    · have h1 : okTo j l l.length = false := by
        rw [Bool.eq_false_iff]
        intro ht
        have := okTo_at ht hlt
        simp only [okAt] at this
        rcases h with (h | h) | h <;> rw [h] at this <;> simp at this
      simp [checkJ, h1, errN]
    · rw [hs, okAt, h.1.1, h.1.2, h.2]; rfl
  · have e : i = l.length := by omega
    subst e
    simp only [go_sem, Nat.reduceEqDiff, Nat.reduceBEq, Nat.reduceAdd, Nat.reduceMul, Nat.reduceSub, Nat.reduceLeDiff, Nat.reduceLT, reduceIte, reduceCtorEq, Int.reduceToNat, Int.reduceLE, Int.reduceLT, Int.reduceNeg, Bool.not_not, and_self, show ¬ (l.length : Int) < (l.length : Int) by omega]
    refine runR_call (by simp only [go_sem, Nat.reduceEqDiff, Nat.reduceBEq, Nat.reduceAdd, Nat.reduceMul, Nat.reduceSub, Nat.reduceLeDiff, Nat.reduceLT, reduceIte, reduceCtorEq, Int.reduceToNat, Int.reduceLE, Int.reduceLT, Int.reduceNeg, Bool.not_not, and_self]) rfl (fn48 j l hl hm fun k hk => fits_part hm (okTo_fits hok k hk)) (.inl rfl) trivial ?_
    simp only [go_sem, Nat.reduceEqDiff, Nat.reduceBEq, Nat.reduceAdd, Nat.reduceMul, Nat.reduceSub, Nat.reduceLeDiff, Nat.reduceLT, reduceIte, reduceCtorEq, Int.reduceToNat, Int.reduceLE, Int.reduceLT, Int.reduceNeg, Bool.not_not, and_self]
    have hc : checkJ j l = decide (places j l = []) := by simp [checkJ, hm, hok]; omega
    rw [hc]
    by_cases hp : places j l = []
    · simp [hp, errN]
    · have : 0 < (places j l).length := List.length_pos_iff.2 hp
      simp [hp, errN]
end Go.Vc
