/- A part of the proofs of the seat Ytcjhccdbgphboaa: the contracts of functions, each proved out of its code. -/
import Derived.Test.YtcjhccdbgphboaaIb
namespace Go.Vc
open Go.Proofs
set_option linter.unusedSimpArgs false
set_option linter.unusedVariables false

def fewOne (x : In) : In := ⟨vfew x.key, x.l.take 31⟩
def fewI (l : List In) : List In := (l.take 41).map fewOne
theorem fn34 (l : List In) (hl : l.length ≤ 9223372036854775807) (hk : ∀ x ∈ l, x.l.length ≤ 9223372036854775807) : Fn Try.prog 34 [ins l] (.pv (ins (fewI l))) [] := by
  refine Run34 [false] (by simp) ?_
  simp only [go_sem, Nat.reduceEqDiff, Nat.reduceBEq, Nat.reduceAdd, Nat.reduceMul, Nat.reduceSub, Nat.reduceLeDiff, Nat.reduceLT, reduceIte, reduceCtorEq, Int.reduceToNat, Int.reduceLE, Int.reduceLT, Int.reduceNeg, Bool.not_not, and_self, Bool.and_eq_false_iff, Int.cast_ofNat_Int, Int.reduceAdd, Int.reduceSub, Int.reduceMul, Int.reduceEq, Int.reduceNe, M34]
  refine run_loop (T := Nat) (fun i => ⟨[(0, .pv (ins l)), (3, .row 2003 0 i), (4, .pv (pI i))], [(2003, .sl 4 (((l.take i).map fewOne).map In.pv))]⟩) (fun i => i ≤ l.length ∧ i ≤ 41) (fun i => l.length - i) 0 rfl ⟨Nat.zero_le _, Nat.zero_le _⟩ ?_
  intro i ⟨hi, h41⟩
  have fin : (i = l.length ∨ i = 41) → fewI l = (l.take i).map fewOne := fun h => by
    unfold fewI
    rcases h with h | h
    · rw [h, List.take_length, List.take_of_length_le (by omega)]
    · rw [h]
  have tk : List.take i (List.map In.pv (List.map fewOne (List.take i l))) = List.map In.pv (List.map fewOne (List.take i l)) := List.take_of_length_le (by simp; omega)
  by_cases hlt : i < l.length
  · by_cases h4 : i < 41
    · have hx := hk _ (List.getElem_mem hlt)
      simp only [go_sem, Nat.reduceEqDiff, Nat.reduceBEq, Nat.reduceAdd, Nat.reduceMul, Nat.reduceSub, Nat.reduceLeDiff, Nat.reduceLT, reduceIte, reduceCtorEq, Int.reduceToNat, Int.reduceLE, Int.reduceLT, Int.reduceNeg, Bool.not_not, and_self, Bool.and_eq_false_iff, Int.cast_ofNat_Int, Int.reduceAdd, Int.reduceSub, Int.reduceMul, Int.reduceEq, Int.reduceNe, B34_0, wf_ins, getD_ins hlt, getI hlt, show (i : Int) < (l.length : Int) by omega, show (i : Int) < 41 by omega]
      refine runR_callf (by simp only [go_sem, Nat.reduceEqDiff, Nat.reduceBEq, Nat.reduceAdd, Nat.reduceMul, Nat.reduceSub, Nat.reduceLeDiff, Nat.reduceLT, reduceIte, reduceCtorEq, Int.reduceToNat, Int.reduceLE, Int.reduceLT, Int.reduceNeg, Bool.not_not, and_self, Bool.and_eq_false_iff, Int.cast_ofNat_Int, Int.reduceAdd, Int.reduceSub, Int.reduceMul, Int.reduceEq, Int.reduceNe]) (by simp only [go_sem, Nat.reduceEqDiff, Nat.reduceBEq, Nat.reduceAdd, Nat.reduceMul, Nat.reduceSub, Nat.reduceLeDiff, Nat.reduceLT, reduceIte, reduceCtorEq, Int.reduceToNat, Int.reduceLE, Int.reduceLT, Int.reduceNeg, Bool.not_not, and_self, Bool.and_eq_false_iff, Int.cast_ofNat_Int, Int.reduceAdd, Int.reduceSub, Int.reduceMul, Int.reduceEq, Int.reduceNe]) (fn29 l[i].key) ⟨rfl, trivial⟩ trivial ?_
      simp only [go_sem, Nat.reduceEqDiff, Nat.reduceBEq, Nat.reduceAdd, Nat.reduceMul, Nat.reduceSub, Nat.reduceLeDiff, Nat.reduceLT, reduceIte, reduceCtorEq, Int.reduceToNat, Int.reduceLE, Int.reduceLT, Int.reduceNeg, Bool.not_not, and_self, Bool.and_eq_false_iff, Int.cast_ofNat_Int, Int.reduceAdd, Int.reduceSub, Int.reduceMul, Int.reduceEq, Int.reduceNe, wf_ins, getD_ins hlt, getI hlt, show (i : Int) < (l.length : Int) by omega]
      refine runR_call (by simp only [go_sem, Nat.reduceEqDiff, Nat.reduceBEq, Nat.reduceAdd, Nat.reduceMul, Nat.reduceSub, Nat.reduceLeDiff, Nat.reduceLT, reduceIte, reduceCtorEq, Int.reduceToNat, Int.reduceLE, Int.reduceLT, Int.reduceNeg, Bool.not_not, and_self, Bool.and_eq_false_iff, Int.cast_ofNat_Int, Int.reduceAdd, Int.reduceSub, Int.reduceMul, Int.reduceEq, Int.reduceNe]) rfl (fn18 l[i].l hx) (.inl rfl) trivial ?_
      simp only [go_sem, Nat.reduceEqDiff, Nat.reduceBEq, Nat.reduceAdd, Nat.reduceMul, Nat.reduceSub, Nat.reduceLeDiff, Nat.reduceLT, reduceIte, reduceCtorEq, Int.reduceToNat, Int.reduceLE, Int.reduceLT, Int.reduceNeg, Bool.not_not, and_self, Bool.and_eq_false_iff, Int.cast_ofNat_Int, Int.reduceAdd, Int.reduceSub, Int.reduceMul, Int.reduceEq, Int.reduceNe]
      refine ⟨⟨wf_ins [fewOne l[i]], by omega, by omega⟩, ⟨by omega, by omega⟩, i + 1, ?_, ⟨by omega, by omega⟩, by omega⟩
      rw [tk, take_snoc hlt, getI hlt, List.map_append, List.map_append]
      rfl
    · simp only [go_sem, Nat.reduceEqDiff, Nat.reduceBEq, Nat.reduceAdd, Nat.reduceMul, Nat.reduceSub, Nat.reduceLeDiff, Nat.reduceLT, reduceIte, reduceCtorEq, Int.reduceToNat, Int.reduceLE, Int.reduceLT, Int.reduceNeg, Bool.not_not, and_self, Bool.and_eq_false_iff, Int.cast_ofNat_Int, Int.reduceAdd, Int.reduceSub, Int.reduceMul, Int.reduceEq, Int.reduceNe, B34_0, R34_0, show (i : Int) < (l.length : Int) by omega, show ¬ (i : Int) < 41 by omega]
      rw [tk, fin (by omega)]
  · simp only [go_sem, Nat.reduceEqDiff, Nat.reduceBEq, Nat.reduceAdd, Nat.reduceMul, Nat.reduceSub, Nat.reduceLeDiff, Nat.reduceLT, reduceIte, reduceCtorEq, Int.reduceToNat, Int.reduceLE, Int.reduceLT, Int.reduceNeg, Bool.not_not, and_self, Bool.and_eq_false_iff, Int.cast_ofNat_Int, Int.reduceAdd, Int.reduceSub, Int.reduceMul, Int.reduceEq, Int.reduceNe, B34_0, R34_0, show ¬ (i : Int) < (l.length : Int) by omega]
    rw [tk, fin (by omega)]
theorem fn35 (l m : List In) (hl : l.length < 100000) (hm : m.length < 100000) (hk : ∀ x ∈ l, x.l.length < 100000) (hk' : ∀ x ∈ m, x.l.length < 100000) : Fn Try.prog 35 [ins l, ins m] (.pv (pB (decide (l = m)))) [] := by
  refine Run35 [] (by simp) ?_
  simp only [go_sem, Nat.reduceEqDiff, Nat.reduceBEq, Nat.reduceAdd, Nat.reduceMul, Nat.reduceSub, Nat.reduceLeDiff, Nat.reduceLT, reduceIte, reduceCtorEq, Int.reduceToNat, Int.reduceLE, Int.reduceLT, Int.reduceNeg, Bool.not_not, and_self, Bool.and_eq_false_iff, Int.cast_ofNat_Int, Int.reduceAdd, Int.reduceSub, Int.reduceMul, Int.reduceEq, Int.reduceNe, M35]
  refine ⟨fun h => ?_, fun h => ?_⟩
  · have : l ≠ m := fun e => h (by rw [e])
    simp [this]
  · have hlm : m.length = l.length := by omega
    refine run_loop (T := Nat) (fun i => ⟨[(0, .pv (ins l)), (1, .pv (ins m)), (5, .pv (pI i))], []⟩) (fun i => i ≤ l.length ∧ l.take i = m.take i) (fun i => l.length - i) 0 rfl ⟨Nat.zero_le _, rfl⟩ ?_
    intro i ⟨hi, hq⟩
    by_cases hlt : i < l.length
    · have hx := hk _ (List.getElem_mem hlt)
      have hy := hk' _ (List.getElem_mem (show i < m.length by omega))
      have hkey : (decide (l[i].key.num = m[i].key.num) && (decide (l[i].key.n = m[i].key.n) && decide (l[i].key.s = m[i].key.s))) = decide (l[i].key = m[i].key) := by
        obtain ⟨⟨a, b, c⟩, ll⟩ := l[i]
        obtain ⟨⟨a', b', c'⟩, ll'⟩ := m[i]
        simp
      simp only [go_sem, Nat.reduceEqDiff, Nat.reduceBEq, Nat.reduceAdd, Nat.reduceMul, Nat.reduceSub, Nat.reduceLeDiff, Nat.reduceLT, reduceIte, reduceCtorEq, Int.reduceToNat, Int.reduceLE, Int.reduceLT, Int.reduceNeg, Bool.not_not, and_self, Bool.and_eq_false_iff, Int.cast_ofNat_Int, Int.reduceAdd, Int.reduceSub, Int.reduceMul, Int.reduceEq, Int.reduceNe, B35_0, wf_ins, getD_ins hlt, getI hlt, getD_ins (show i < m.length by omega), getI (show i < m.length by omega), show (i : Int) < (l.length : Int) by omega, show (i : Int) < (m.length : Int) by omega, hkey]
      refine runR_callgf (by simp only [go_sem, Nat.reduceEqDiff, Nat.reduceBEq, Nat.reduceAdd, Nat.reduceMul, Nat.reduceSub, Nat.reduceLeDiff, Nat.reduceLT, reduceIte, reduceCtorEq, Int.reduceToNat, Int.reduceLE, Int.reduceLT, Int.reduceNeg, Bool.not_not, and_self, Bool.and_eq_false_iff, Int.cast_ofNat_Int, Int.reduceAdd, Int.reduceSub, Int.reduceMul, Int.reduceEq, Int.reduceNe]) (by simp only [go_sem, Nat.reduceEqDiff, Nat.reduceBEq, Nat.reduceAdd, Nat.reduceMul, Nat.reduceSub, Nat.reduceLeDiff, Nat.reduceLT, reduceIte, reduceCtorEq, Int.reduceToNat, Int.reduceLE, Int.reduceLT, Int.reduceNeg, Bool.not_not, and_self, Bool.and_eq_false_iff, Int.cast_ofNat_Int, Int.reduceAdd, Int.reduceSub, Int.reduceMul, Int.reduceEq, Int.reduceNe]) (by simp only [go_sem, Nat.reduceEqDiff, Nat.reduceBEq, Nat.reduceAdd, Nat.reduceMul, Nat.reduceSub, Nat.reduceLeDiff, Nat.reduceLT, reduceIte, reduceCtorEq, Int.reduceToNat, Int.reduceLE, Int.reduceLT, Int.reduceNeg, Bool.not_not, and_self, Bool.and_eq_false_iff, Int.cast_ofNat_Int, Int.reduceAdd, Int.reduceSub, Int.reduceMul, Int.reduceEq, Int.reduceNe]; rfl) (fun _ => fn21 l[i].l m[i].l (by omega) (by omega)) rfl ?_
      simp only [go_sem, Nat.reduceEqDiff, Nat.reduceBEq, Nat.reduceAdd, Nat.reduceMul, Nat.reduceSub, Nat.reduceLeDiff, Nat.reduceLT, reduceIte, reduceCtorEq, Int.reduceToNat, Int.reduceLE, Int.reduceLT, Int.reduceNeg, Bool.not_not, and_self, Bool.and_eq_false_iff, Int.cast_ofNat_Int, Int.reduceAdd, Int.reduceSub, Int.reduceMul, Int.reduceEq, Int.reduceNe]
      have hne : (¬ l[i].key = m[i].key ∨ ¬ l[i].l = m[i].l) → l ≠ m := fun hd e => by
        subst e
        rcases hd with hd | hd <;> exact hd rfl
      refine ⟨fun hd => ?_, fun hd => ?_⟩
      · simp [hne hd]
      · refine ⟨⟨by omega, by omega⟩, i + 1, rfl, ⟨hlt, ?_⟩, by omega⟩
        rw [take_snoc hlt, take_snoc (show i < m.length by omega), hq, getI hlt, getI (show i < m.length by omega)]
        have : l[i] = m[i] := by
          obtain ⟨h1, h2⟩ := hd
          generalize l[i] = a at *
          generalize m[i] = b at *
          obtain ⟨a1, a2⟩ := a
          obtain ⟨b1, b2⟩ := b
          simp only at h1 h2
          rw [h1, h2]
        rw [this]
    · simp only [go_sem, Nat.reduceEqDiff, Nat.reduceBEq, Nat.reduceAdd, Nat.reduceMul, Nat.reduceSub, Nat.reduceLeDiff, Nat.reduceLT, reduceIte, reduceCtorEq, Int.reduceToNat, Int.reduceLE, Int.reduceLT, Int.reduceNeg, Bool.not_not, and_self, Bool.and_eq_false_iff, Int.cast_ofNat_Int, Int.reduceAdd, Int.reduceSub, Int.reduceMul, Int.reduceEq, Int.reduceNe, B35_0, R35_0, show ¬ (i : Int) < (l.length : Int) by omega]
      have hie : i = l.length := by omega
      subst hie
      rw [List.take_length, ← hlm, List.take_length] at hq
      simp [hq]

/-! 'with': what waits, laid into its place -/
def withStep (key : Vl) (left : List Kp) (s : List In × Bool) (x : In) : List In × Bool :=
  ((if s.2 = false ∧ 0 ≤ ordV x.key key then s.1 ++ [⟨key, left⟩] else s.1) ++ (if x.key = key then [] else [x]), s.2 || decide (0 ≤ ordV x.key key))
def withTo (key : Vl) (left : List Kp) (l : List In) (i : Nat) : List In × Bool := (l.take i).foldl (withStep key left) ([], decide (left = []))
def withI (l : List In) (key : Vl) (left : List Kp) : List In := (withTo key left l l.length).1 ++ if (withTo key left l l.length).2 = false then [⟨key, left⟩] else []
theorem withTo_succ {key : Vl} {left : List Kp} {l : List In} {i : Nat} (h : i < l.length) : withTo key left l (i + 1) = withStep key left (withTo key left l i) l[i] := by
  unfold withTo
  rw [take_snoc h, getI h, List.foldl_append]
  rfl
theorem fn54 (l : List In) (key : Vl) (left : List Kp) (hl : l.length ≤ 1000) (hk : ∀ x ∈ l, x.l.length < 100000) (hf : left.length < 1000000) : Fn Try.prog 54 [ins l, key.pv, ks left] (.pv (ins (withI l key left))) [] := by
  refine Run54 [false] (by simp) ?_
  simp only [go_sem, Nat.reduceEqDiff, Nat.reduceBEq, Nat.reduceAdd, Nat.reduceMul, Nat.reduceSub, Nat.reduceLeDiff, Nat.reduceLT, reduceIte, reduceCtorEq, Int.reduceToNat, Int.reduceLE, Int.reduceLT, Int.reduceNeg, Bool.not_not, and_self, Bool.and_eq_false_iff, Int.cast_ofNat_Int, Int.reduceAdd, Int.reduceSub, Int.reduceMul, Int.reduceEq, Int.reduceNe, M54]
  refine ⟨⟨by omega, by omega⟩, ⟨by omega, by omega, by omega⟩, ?_⟩
  refine run_loop (T := Nat) (fun i => ⟨[(2, .pv (ks left)), (4, .ptr 4 0), (7, .row 14 0 (withTo key left l i).1.length), (8, .pv (pB (withTo key left l i).2)), (18, .pv (ins l)), (19, .pv (pI l.length)), (20, .pv (pI i))],
    [(4, .box [.pv (pB key.num), .pv (pI key.n), .pv (pS key.s)]), (14, .sl 4 ((withTo key left l i).1.map In.pv))]⟩) (fun i => i ≤ l.length ∧ (withTo key left l i).1.length ≤ 2 * i) (fun i => l.length - i) 0 ?_ ⟨Nat.zero_le _, by simp [withTo]⟩ ?_
  · have : decide ((left.length : Int) = 0) = decide (left = []) := decide_eq_decide.2 (by
      constructor
      · intro h; exact List.eq_nil_of_length_eq_zero (by omega)
      · intro h; rw [h]; rfl)
    rw [this]; rfl
  intro i ⟨hi, hlen⟩
  by_cases hlt : i < l.length
  · have hx := hk _ (List.getElem_mem hlt)
    have hs := withTo_succ (key := key) (left := left) hlt
    have hkey : (decide (l[i].key.num = key.num) && (decide (l[i].key.n = key.n) && decide (l[i].key.s = key.s))) = decide (l[i].key = key) := by
      obtain ⟨⟨a, b, c⟩, ll⟩ := l[i]
      obtain ⟨a', b', c'⟩ := key
      simp
    generalize withTo key left l i = o at *
    obtain ⟨out, placed⟩ := o
    have hdiff : (¬ l[i].key.num = key.num ∨ ¬ l[i].key.n = key.n ∨ ¬ l[i].key.s = key.s) → ¬ l[i].key = key := fun h e => by
      rw [e] at h
      rcases h with h | h | h <;> exact h rfl
    have hsame : (l[i].key.num = key.num ∧ l[i].key.n = key.n ∧ l[i].key.s = key.s) → l[i].key = key := fun ⟨h1, h2, h3⟩ => by
      generalize l[i].key = a at *
      obtain ⟨a1, a2, a3⟩ := a
      obtain ⟨b1, b2, b3⟩ := key
      simp only at h1 h2 h3
      rw [h1, h2, h3]
    simp only at hlen
    simp only [go_sem, Nat.reduceEqDiff, Nat.reduceBEq, Nat.reduceAdd, Nat.reduceMul, Nat.reduceSub, Nat.reduceLeDiff, Nat.reduceLT, reduceIte, reduceCtorEq, Int.reduceToNat, Int.reduceLE, Int.reduceLT, Int.reduceNeg, Bool.not_not, and_self, Bool.and_eq_false_iff, Int.cast_ofNat_Int, Int.reduceAdd, Int.reduceSub, Int.reduceMul, Int.reduceEq, Int.reduceNe, B54_0, wf_ins, getD_ins hlt, getI hlt, show (i : Int) < (l.length : Int) by omega]
    refine runR_callgf (by simp only [go_sem, Nat.reduceEqDiff, Nat.reduceBEq, Nat.reduceAdd, Nat.reduceMul, Nat.reduceSub, Nat.reduceLeDiff, Nat.reduceLT, reduceIte, reduceCtorEq, Int.reduceToNat, Int.reduceLE, Int.reduceLT, Int.reduceNeg, Bool.not_not, and_self, Bool.and_eq_false_iff, Int.cast_ofNat_Int, Int.reduceAdd, Int.reduceSub, Int.reduceMul, Int.reduceEq, Int.reduceNe]) (by simp only [go_sem, Nat.reduceEqDiff, Nat.reduceBEq, Nat.reduceAdd, Nat.reduceMul, Nat.reduceSub, Nat.reduceLeDiff, Nat.reduceLT, reduceIte, reduceCtorEq, Int.reduceToNat, Int.reduceLE, Int.reduceLT, Int.reduceNeg, Bool.not_not, and_self, Bool.and_eq_false_iff, Int.cast_ofNat_Int, Int.reduceAdd, Int.reduceSub, Int.reduceMul, Int.reduceEq, Int.reduceNe]) (by simp only [go_sem, Nat.reduceEqDiff, Nat.reduceBEq, Nat.reduceAdd, Nat.reduceMul, Nat.reduceSub, Nat.reduceLeDiff, Nat.reduceLT, reduceIte, reduceCtorEq, Int.reduceToNat, Int.reduceLE, Int.reduceLT, Int.reduceNeg, Bool.not_not, and_self, Bool.and_eq_false_iff, Int.cast_ofNat_Int, Int.reduceAdd, Int.reduceSub, Int.reduceMul, Int.reduceEq, Int.reduceNe]; rfl) (fun _ => fn56 l[i].key key) rfl ?_
    simp only [go_sem, Nat.reduceEqDiff, Nat.reduceBEq, Nat.reduceAdd, Nat.reduceMul, Nat.reduceSub, Nat.reduceLeDiff, Nat.reduceLT, reduceIte, reduceCtorEq, Int.reduceToNat, Int.reduceLE, Int.reduceLT, Int.reduceNeg, Bool.not_not, and_self, Bool.and_eq_false_iff, Int.cast_ofNat_Int, Int.reduceAdd, Int.reduceSub, Int.reduceMul, Int.reduceEq, Int.reduceNe, take_len_map]
    refine ⟨fun ⟨hp, ho⟩ => ⟨⟨wf_ins [⟨key, left⟩], by omega, by omega⟩, fun hd => ?_, fun he => ?_⟩, fun hpo => ⟨fun hd => ?_, fun he => ?_⟩⟩
    · have h1 : withTo key left l (i + 1) = (out ++ [⟨key, left⟩] ++ [l[i]], true) := by
        rw [hs]; simp [withStep, hp, ho, hdiff hd]
      refine runR_call (by simp only [go_sem, Nat.reduceEqDiff, Nat.reduceBEq, Nat.reduceAdd, Nat.reduceMul, Nat.reduceSub, Nat.reduceLeDiff, Nat.reduceLT, reduceIte, reduceCtorEq, Int.reduceToNat, Int.reduceLE, Int.reduceLT, Int.reduceNeg, Bool.not_not, and_self, Bool.and_eq_false_iff, Int.cast_ofNat_Int, Int.reduceAdd, Int.reduceSub, Int.reduceMul, Int.reduceEq, Int.reduceNe]) rfl (fn51p l[i].l hx) (.inl rfl) trivial ?_
      simp only [go_sem, Nat.reduceEqDiff, Nat.reduceBEq, Nat.reduceAdd, Nat.reduceMul, Nat.reduceSub, Nat.reduceLeDiff, Nat.reduceLT, reduceIte, reduceCtorEq, Int.reduceToNat, Int.reduceLE, Int.reduceLT, Int.reduceNeg, Bool.not_not, and_self, Bool.and_eq_false_iff, Int.cast_ofNat_Int, Int.reduceAdd, Int.reduceSub, Int.reduceMul, Int.reduceEq, Int.reduceNe]
      refine ⟨⟨wf_ins [l[i]], by omega, by omega⟩, ⟨by omega, by omega⟩, i + 1, ?_, ⟨hlt, by rw [h1]; simp; omega⟩, by omega⟩
      rw [h1, List.take_of_length_le (by simp)]
      simp
    · have h1 : withTo key left l (i + 1) = (out ++ [⟨key, left⟩], true) := by
        rw [hs]; simp [withStep, hp, ho, eq_true (hsame he)]
      refine ⟨⟨by omega, by omega⟩, i + 1, ?_, ⟨hlt, by rw [h1]; simp; omega⟩, by omega⟩
      rw [h1]
      simp
    · have h1 : withTo key left l (i + 1) = (out ++ [l[i]], placed) := by
        rw [hs]
        rcases hpo with h | h <;> simp [withStep, h, hdiff hd]
      refine runR_call (by simp only [go_sem, Nat.reduceEqDiff, Nat.reduceBEq, Nat.reduceAdd, Nat.reduceMul, Nat.reduceSub, Nat.reduceLeDiff, Nat.reduceLT, reduceIte, reduceCtorEq, Int.reduceToNat, Int.reduceLE, Int.reduceLT, Int.reduceNeg, Bool.not_not, and_self, Bool.and_eq_false_iff, Int.cast_ofNat_Int, Int.reduceAdd, Int.reduceSub, Int.reduceMul, Int.reduceEq, Int.reduceNe]) rfl (fn51p l[i].l hx) (.inl rfl) trivial ?_
      simp only [go_sem, Nat.reduceEqDiff, Nat.reduceBEq, Nat.reduceAdd, Nat.reduceMul, Nat.reduceSub, Nat.reduceLeDiff, Nat.reduceLT, reduceIte, reduceCtorEq, Int.reduceToNat, Int.reduceLE, Int.reduceLT, Int.reduceNeg, Bool.not_not, and_self, Bool.and_eq_false_iff, Int.cast_ofNat_Int, Int.reduceAdd, Int.reduceSub, Int.reduceMul, Int.reduceEq, Int.reduceNe]
      refine ⟨⟨wf_ins [l[i]], by omega, by omega⟩, ⟨by omega, by omega⟩, i + 1, ?_, ⟨hlt, by rw [h1]; simp; omega⟩, by omega⟩
      rw [h1, take_len_map]
      simp
    · have h1 : withTo key left l (i + 1) = (out, placed) := by
        rw [hs]
        rcases hpo with h | h <;> simp [withStep, h, eq_true (hsame he)]
      refine ⟨⟨by omega, by omega⟩, i + 1, ?_, ⟨hlt, by rw [h1]; simp; omega⟩, by omega⟩
      rw [h1]
      rfl
  · have hie : i = l.length := by omega
    subst hie
    simp only [go_sem, Nat.reduceEqDiff, Nat.reduceBEq, Nat.reduceAdd, Nat.reduceMul, Nat.reduceSub, Nat.reduceLeDiff, Nat.reduceLT, reduceIte, reduceCtorEq, Int.reduceToNat, Int.reduceLE, Int.reduceLT, Int.reduceNeg, Bool.not_not, and_self, Bool.and_eq_false_iff, Int.cast_ofNat_Int, Int.reduceAdd, Int.reduceSub, Int.reduceMul, Int.reduceEq, Int.reduceNe, B54_0, R54_0, show ¬ ((l.length : Int) < (l.length : Int)) by omega, take_len_map]
    unfold withI
    generalize withTo key left l l.length = o at *
    obtain ⟨out, placed⟩ := o
    refine ⟨fun h => ⟨⟨wf_ins [⟨key, left⟩], by omega, by omega⟩, ?_⟩, fun h => ?_⟩
    · simp only at h
      rw [List.take_of_length_le (by simp)]
      simp [h]
    · simp only at h
      simp [h]
end Go.Vc

namespace Go.Vc
open Go.Proofs
set_option linter.unusedSimpArgs false
set_option linter.unusedVariables false

/-! 'Check' -/
def okOne (j : Jn) (l : List In) (i : Nat) : Bool :=
  mayV (l.getD i default).key && (decide (i = 0) || decide (ordV (l.getD (i - 1) default).key (l.getD i default).key < 0)) && decide ((l.getD i default).l ≠ []) && checkJ j (l.getD i default).l
def idsI (l : List In) : List Int := (allI l).map (·.id)
def checkI (j : Jn) (l : List In) : Bool := mayJ j && decide (l.length ≤ 40) && (List.range l.length).all (okOne j l) && decide ((idsI l).Nodup)
def pmE (es : List (Int × Int)) : List (PV × PV) := es.map fun e => (pU e.1, pI e.2)
theorem lkp_pmE {n : Int} : ∀ {es : List (Int × Int)}, (lkp (pU n) (pmE es)).isSome = decide (n ∈ es.map (·.1))
  | [] => rfl
  | e :: es => by
    have ih := lkp_pmE (n := n) (es := es)
    simp only [pmE] at ih
    by_cases h : n = e.1
    · simp [pmE, lkp, keyEq, h]
    · simp only [pmE, List.map_cons, lkp, keyEq, h, decide_false, Bool.false_eq_true, if_false, ih, List.mem_cons, false_or]
theorem like_pmE (n : Int) : ∀ es : List (Int × Int), keysLike .int (pU n) (pmE es)
  | [] => trivial
  | k :: es => ⟨rfl, like_pmE n es⟩
theorem mput_pmE {n v : Int} : ∀ {es : List (Int × Int)}, n ∉ es.map (·.1) → mput (pU n) (pI v) (pmE es) = pmE (es ++ [(n, v)])
  | [], _ => rfl
  | e :: es, h => by
    simp only [List.map_cons, List.mem_cons, not_or] at h
    have ih := mput_pmE (v := v) h.2
    simp only [pmE] at ih
    simp [pmE, mput, keyEq, h.1, ih]
theorem lkp_some {n : Int} {es : List (Int × Int)} (h : n ∈ es.map (·.1)) : ∃ v, lkp (pU n) (pmE es) = some (pI v) := by
  induction es with
  | nil => cases h
  | cons e es ih =>
    by_cases hn : n = e.1
    · exact ⟨e.2, by simp [pmE, lkp, keyEq, hn]⟩
    · obtain ⟨v, hv⟩ := ih (by simpa [hn] using h)
      exact ⟨v, by simp only [pmE] at hv; simp [pmE, lkp, keyEq, hn, hv]⟩
theorem lkp_none {n : Int} {es : List (Int × Int)} (h : n ∉ es.map (·.1)) : lkp (pU n) (pmE es) = none := by
  have := lkp_pmE (n := n) (es := es)
  rw [decide_eq_false h] at this
  cases hl : lkp (pU n) (pmE es) with
  | none => rfl
  | some v => rw [hl] at this; cases this
theorem ids_sub {l : List In} {i : Nat} (h : i < l.length) (m : Nat) : (idsI (l.take i) ++ (l[i].l.take m).map (·.id)).Sublist (idsI l) := by
  have e1 : idsI (l.take (i + 1)) = idsI (l.take i) ++ l[i].l.map (·.id) := by simp only [idsI]; rw [allI_succ h, List.map_append]
  have e2 : idsI l = idsI (l.take (i + 1)) ++ idsI (l.drop (i + 1)) := by
    simp only [idsI, allI]
    rw [← List.map_append, ← List.flatten_append, ← List.map_append, List.take_append_drop]
  rw [e2, e1]
  refine List.Sublist.trans ?_ (List.sublist_append_left _ _)
  exact List.Sublist.append (List.Sublist.refl _) ((List.take_sublist _ _).map _)
theorem nodup_snoc {l : List Int} {a : Int} : (l ++ [a]).Nodup ↔ l.Nodup ∧ a ∉ l := by
  rw [List.nodup_append]
  constructor
  · rintro ⟨h1, _, h3⟩
    exact ⟨h1, fun hm => h3 a hm a (by simp) rfl⟩
  · rintro ⟨h1, h2⟩
    exact ⟨h1, by simp, fun b hb c hc e => by simp only [List.mem_singleton] at hc; subst hc; subst e; exact h2 hb⟩
theorem fn37 (j : Jn) (l : List In) (hl : l.length < 100000) (hk : ∀ x ∈ l, x.l.length < 100000) : Fn Try.prog 37 [j.pv, ins l] (.pv (pI (errN (checkI j l)))) [] := by
  refine Run37 [] (by simp) ?_
  simp only [go_sem, Nat.reduceEqDiff, Nat.reduceBEq, Nat.reduceAdd, Nat.reduceMul, Nat.reduceSub, Nat.reduceLeDiff, Nat.reduceLT, reduceIte, reduceCtorEq, Int.reduceToNat, Int.reduceLE, Int.reduceLT, Int.reduceNeg, Bool.not_not, and_self, Bool.and_eq_false_iff, Int.cast_ofNat_Int, Int.reduceAdd, Int.reduceSub, Int.reduceMul, Int.reduceEq, Int.reduceNe, M37]
  refine runR_callf (by simp only [go_sem, Nat.reduceEqDiff, Nat.reduceBEq, Nat.reduceAdd, Nat.reduceMul, Nat.reduceSub, Nat.reduceLeDiff, Nat.reduceLT, reduceIte, reduceCtorEq, Int.reduceToNat, Int.reduceLE, Int.reduceLT, Int.reduceNeg, Bool.not_not, and_self, Bool.and_eq_false_iff, Int.cast_ofNat_Int, Int.reduceAdd, Int.reduceSub, Int.reduceMul, Int.reduceEq, Int.reduceNe]) (by simp only [go_sem, Nat.reduceEqDiff, Nat.reduceBEq, Nat.reduceAdd, Nat.reduceMul, Nat.reduceSub, Nat.reduceLeDiff, Nat.reduceLT, reduceIte, reduceCtorEq, Int.reduceToNat, Int.reduceLE, Int.reduceLT, Int.reduceNeg, Bool.not_not, and_self, Bool.and_eq_false_iff, Int.cast_ofNat_Int, Int.reduceAdd, Int.reduceSub, Int.reduceMul, Int.reduceEq, Int.reduceNe]) (fn22 j) ⟨rfl, trivial⟩ trivial ?_
  simp only [go_sem, Nat.reduceEqDiff, Nat.reduceBEq, Nat.reduceAdd, Nat.reduceMul, Nat.reduceSub, Nat.reduceLeDiff, Nat.reduceLT, reduceIte, reduceCtorEq, Int.reduceToNat, Int.reduceLE, Int.reduceLT, Int.reduceNeg, Bool.not_not, and_self, Bool.and_eq_false_iff, Int.cast_ofNat_Int, Int.reduceAdd, Int.reduceSub, Int.reduceMul, Int.reduceEq, Int.reduceNe]
  by_cases hm : mayJ j = true ∧ l.length ≤ 40
  · obtain ⟨hm, h40⟩ := hm
    simp only [go_sem, Nat.reduceEqDiff, Nat.reduceBEq, Nat.reduceAdd, Nat.reduceMul, Nat.reduceSub, Nat.reduceLeDiff, Nat.reduceLT, reduceIte, reduceCtorEq, Int.reduceToNat, Int.reduceLE, Int.reduceLT, Int.reduceNeg, Bool.not_not, and_self, Bool.and_eq_false_iff, Int.cast_ofNat_Int, Int.reduceAdd, Int.reduceSub, Int.reduceMul, Int.reduceEq, Int.reduceNe, hm, show ¬ (40 : Int) < (l.length : Int) by omega]
    refine run_loop (T := Nat × List (Int × Int)) (fun t => ⟨[(1, .pv (ins l)), (2, .ptr 2 0), (5, .mp 20), (21, .pv (ins l)), (22, .pv (pI l.length)), (23, .pv (pI t.1))],
      [(2, .box [.pv (pS j.kind), .pv (pI j.parts), .pv (pI j.need), .pv (pI j.window)]), (20, .mp (pmE t.2))]⟩)
      (fun t => t.1 ≤ l.length ∧ (List.range t.1).all (okOne j l) = true ∧ (idsI (l.take t.1)).Nodup ∧ t.2.map (·.1) = idsI (l.take t.1)) (fun t => l.length - t.1) ⟨0, []⟩ ?_ ⟨Nat.zero_le _, rfl, by simp [idsI, allI], by simp [idsI, allI]⟩ ?_
    · rfl
    rintro ⟨i, es⟩ ⟨hi, hok, hnd, hes⟩
    simp only at hi hok hnd hes
    by_cases hlt : i < l.length
    · have hx := hk _ (List.getElem_mem hlt)
      simp only [go_sem, Nat.reduceEqDiff, Nat.reduceBEq, Nat.reduceAdd, Nat.reduceMul, Nat.reduceSub, Nat.reduceLeDiff, Nat.reduceLT, reduceIte, reduceCtorEq, Int.reduceToNat, Int.reduceLE, Int.reduceLT, Int.reduceNeg, Bool.not_not, and_self, Bool.and_eq_false_iff, Int.cast_ofNat_Int, Int.reduceAdd, Int.reduceSub, Int.reduceMul, Int.reduceEq, Int.reduceNe, B37_0, wf_ins, getD_ins hlt, getI hlt, show (i : Int) < (l.length : Int) by omega]
      have hno : okOne j l i = false → checkI j l = false := fun h => by
        cases hc : checkI j l with
        | false => rfl
        | true =>
          exfalso
          simp only [checkI, Bool.and_eq_true, decide_eq_true_eq, List.all_eq_true, List.mem_range] at hc
          have := hc.1.2 i hlt
          rw [h] at this; cases this
      refine runR_callf (by simp only [go_sem, Nat.reduceEqDiff, Nat.reduceBEq, Nat.reduceAdd, Nat.reduceMul, Nat.reduceSub, Nat.reduceLeDiff, Nat.reduceLT, reduceIte, reduceCtorEq, Int.reduceToNat, Int.reduceLE, Int.reduceLT, Int.reduceNeg, Bool.not_not, and_self, Bool.and_eq_false_iff, Int.cast_ofNat_Int, Int.reduceAdd, Int.reduceSub, Int.reduceMul, Int.reduceEq, Int.reduceNe]) (by simp only [go_sem, Nat.reduceEqDiff, Nat.reduceBEq, Nat.reduceAdd, Nat.reduceMul, Nat.reduceSub, Nat.reduceLeDiff, Nat.reduceLT, reduceIte, reduceCtorEq, Int.reduceToNat, Int.reduceLE, Int.reduceLT, Int.reduceNeg, Bool.not_not, and_self, Bool.and_eq_false_iff, Int.cast_ofNat_Int, Int.reduceAdd, Int.reduceSub, Int.reduceMul, Int.reduceEq, Int.reduceNe]) (fn52 l[i].key) ⟨rfl, trivial⟩ trivial ?_
      simp only [go_sem, Nat.reduceEqDiff, Nat.reduceBEq, Nat.reduceAdd, Nat.reduceMul, Nat.reduceSub, Nat.reduceLeDiff, Nat.reduceLT, reduceIte, reduceCtorEq, Int.reduceToNat, Int.reduceLE, Int.reduceLT, Int.reduceNeg, Bool.not_not, and_self, Bool.and_eq_false_iff, Int.cast_ofNat_Int, Int.reduceAdd, Int.reduceSub, Int.reduceMul, Int.reduceEq, Int.reduceNe, wf_ins, getI hlt, show ((i : Int) - 1).toNat = i - 1 by omega, getD_ins (show i - 1 < l.length by omega)]
      have hpre : (0 : Int) < (i : Int) → (0 : Int) ≤ (i : Int) - 1 ∧ (i : Int) - 1 < (l.length : Int) := fun h => by omega
      refine ⟨fun h => ⟨h, by omega, by omega⟩, fun h => ⟨h, by have := h.2; omega, by omega⟩, ?_⟩
      refine runR_callgf (by simp only [go_sem, Nat.reduceEqDiff, Nat.reduceBEq, Nat.reduceAdd, Nat.reduceMul, Nat.reduceSub, Nat.reduceLeDiff, Nat.reduceLT, reduceIte, reduceCtorEq, Int.reduceToNat, Int.reduceLE, Int.reduceLT, Int.reduceNeg, Bool.not_not, and_self, Bool.and_eq_false_iff, Int.cast_ofNat_Int, Int.reduceAdd, Int.reduceSub, Int.reduceMul, Int.reduceEq, Int.reduceNe]) (by simp only [go_sem, Nat.reduceEqDiff, Nat.reduceBEq, Nat.reduceAdd, Nat.reduceMul, Nat.reduceSub, Nat.reduceLeDiff, Nat.reduceLT, reduceIte, reduceCtorEq, Int.reduceToNat, Int.reduceLE, Int.reduceLT, Int.reduceNeg, Bool.not_not, and_self, Bool.and_eq_false_iff, Int.cast_ofNat_Int, Int.reduceAdd, Int.reduceSub, Int.reduceMul, Int.reduceEq, Int.reduceNe]) (by simp only [go_sem, Nat.reduceEqDiff, Nat.reduceBEq, Nat.reduceAdd, Nat.reduceMul, Nat.reduceSub, Nat.reduceLeDiff, Nat.reduceLT, reduceIte, reduceCtorEq, Int.reduceToNat, Int.reduceLE, Int.reduceLT, Int.reduceNeg, Bool.not_not, and_self, Bool.and_eq_false_iff, Int.cast_ofNat_Int, Int.reduceAdd, Int.reduceSub, Int.reduceMul, Int.reduceEq, Int.reduceNe]; rfl) (fun _ => fn56 (l.getD (i - 1) default).key l[i].key) rfl ?_
      have hone : okOne j l i = (mayV l[i].key && (decide (i = 0) || decide (ordV (l.getD (i - 1) default).key l[i].key < 0)) && decide (l[i].l ≠ []) && checkJ j l[i].l) := by
        unfold okOne; rw [getI hlt]
      have hi0 : (decide ((0 : Int) < (i : Int))) = !decide (i = 0) := by
        by_cases h : i = 0
        · simp [h]
        · simp [h]; omega
      by_cases hA : mayV l[i].key = true ∧ (i = 0 ∨ ordV (l.getD (i - 1) default).key l[i].key < 0)
      · have e1 : ¬ ((0 : Int) < (i : Int) ∧ 0 ≤ ordV (l.getD (i - 1) default).key l[i].key) := fun ⟨h1, h2⟩ => by
          rcases hA.2 with h | h <;> omega
        simp only [go_sem, Nat.reduceEqDiff, Nat.reduceBEq, Nat.reduceAdd, Nat.reduceMul, Nat.reduceSub, Nat.reduceLeDiff, Nat.reduceLT, reduceIte, reduceCtorEq, Int.reduceToNat, Int.reduceLE, Int.reduceLT, Int.reduceNeg, Bool.not_not, and_self, Bool.and_eq_false_iff, Int.cast_ofNat_Int, Int.reduceAdd, Int.reduceSub, Int.reduceMul, Int.reduceEq, Int.reduceNe, hA.1]
        refine ⟨fun h => absurd h e1, fun _ => ?_⟩
        refine runR_callgf (by simp only [go_sem, Nat.reduceEqDiff, Nat.reduceBEq, Nat.reduceAdd, Nat.reduceMul, Nat.reduceSub, Nat.reduceLeDiff, Nat.reduceLT, reduceIte, reduceCtorEq, Int.reduceToNat, Int.reduceLE, Int.reduceLT, Int.reduceNeg, Bool.not_not, and_self, Bool.and_eq_false_iff, Int.cast_ofNat_Int, Int.reduceAdd, Int.reduceSub, Int.reduceMul, Int.reduceEq, Int.reduceNe]) (by simp only [go_sem, Nat.reduceEqDiff, Nat.reduceBEq, Nat.reduceAdd, Nat.reduceMul, Nat.reduceSub, Nat.reduceLeDiff, Nat.reduceLT, reduceIte, reduceCtorEq, Int.reduceToNat, Int.reduceLE, Int.reduceLT, Int.reduceNeg, Bool.not_not, and_self, Bool.and_eq_false_iff, Int.cast_ofNat_Int, Int.reduceAdd, Int.reduceSub, Int.reduceMul, Int.reduceEq, Int.reduceNe]) (by simp only [go_sem, Nat.reduceEqDiff, Nat.reduceBEq, Nat.reduceAdd, Nat.reduceMul, Nat.reduceSub, Nat.reduceLeDiff, Nat.reduceLT, reduceIte, reduceCtorEq, Int.reduceToNat, Int.reduceLE, Int.reduceLT, Int.reduceNeg, Bool.not_not, and_self, Bool.and_eq_false_iff, Int.cast_ofNat_Int, Int.reduceAdd, Int.reduceSub, Int.reduceMul, Int.reduceEq, Int.reduceNe]; rfl) (fun _ => fn24 j l[i].l hx) rfl ?_
        by_cases hB : ¬ l[i].l = [] ∧ checkJ j l[i].l = true
        · obtain ⟨hne, hck⟩ := hB
          have hpos : ¬ ((l[i].l.length : Int) = 0) := fun h => hne (List.eq_nil_of_length_eq_zero (by omega))
          simp only [go_sem, Nat.reduceEqDiff, Nat.reduceBEq, Nat.reduceAdd, Nat.reduceMul, Nat.reduceSub, Nat.reduceLeDiff, Nat.reduceLT, reduceIte, reduceCtorEq, Int.reduceToNat, Int.reduceLE, Int.reduceLT, Int.reduceNeg, Bool.not_not, and_self, Bool.and_eq_false_iff, Int.cast_ofNat_Int, Int.reduceAdd, Int.reduceSub, Int.reduceMul, Int.reduceEq, Int.reduceNe, hpos, checkJ_err, hck]
          refine ⟨fun h => absurd rfl h, fun _ => ?_⟩
          refine run_loop (T := Nat × List (Int × Int)) (fun t => ⟨[(1, .pv (ins l)), (2, .ptr 2 0), (5, .mp 20), (6, .pv (pI i)), (21, .pv (ins l)), (22, .pv (pI l.length)), (23, .pv (pI i)), (60, .pv (ks l[i].l)), (61, .pv (pI l[i].l.length)), (62, .pv (pI t.1))],
            [(2, .box [.pv (pS j.kind), .pv (pI j.parts), .pv (pI j.need), .pv (pI j.window)]), (20, .mp (pmE t.2))]⟩)
            (fun t => t.1 ≤ l[i].l.length ∧ (idsI (l.take i) ++ (l[i].l.take t.1).map (·.id)).Nodup ∧ t.2.map (·.1) = idsI (l.take i) ++ (l[i].l.take t.1).map (·.id)) (fun t => l[i].l.length - t.1) ⟨0, es⟩ rfl ⟨Nat.zero_le _, by simpa using hnd, by simpa using hes⟩ ?_
          rintro ⟨k, es'⟩ ⟨hk1, hk2, hk3⟩
          simp only at hk1 hk2 hk3
          by_cases hkl : k < l[i].l.length
          · have hts : (l[i].l.take (k + 1)).map (·.id) = (l[i].l.take k).map (·.id) ++ [(l[i].l.getD k default).id] := by rw [take_snoc hkl, List.map_append]; rfl
            have hsub := ids_sub hlt (k + 1)
            rw [hts, ← List.append_assoc, ← hk3] at hsub
            by_cases hmet : (l[i].l.getD k default).id ∈ es'.map (·.1)
            · obtain ⟨v, hv⟩ := lkp_some hmet
              have h1 : checkI j l = false := by
                cases hc : checkI j l with
                | false => rfl
                | true =>
                  exfalso
                  simp only [checkI, Bool.and_eq_true, decide_eq_true_eq] at hc
                  exact (nodup_snoc.1 (hc.2.sublist hsub)).2 hmet
              rw [h1]
              simp only [go_sem, Nat.reduceEqDiff, Nat.reduceBEq, Nat.reduceAdd, Nat.reduceMul, Nat.reduceSub, Nat.reduceLeDiff, Nat.reduceLT, reduceIte, reduceCtorEq, Int.reduceToNat, Int.reduceLE, Int.reduceLT, Int.reduceNeg, Bool.not_not, and_self, Bool.and_eq_false_iff, Int.cast_ofNat_Int, Int.reduceAdd, Int.reduceSub, Int.reduceMul, Int.reduceEq, Int.reduceNe, B37_1, show (k : Int) < (l[i].l.length : Int) by omega, wf_ks, getD_ks hkl, like_pmE, hv, errN]
            · simp only [go_sem, Nat.reduceEqDiff, Nat.reduceBEq, Nat.reduceAdd, Nat.reduceMul, Nat.reduceSub, Nat.reduceLeDiff, Nat.reduceLT, reduceIte, reduceCtorEq, Int.reduceToNat, Int.reduceLE, Int.reduceLT, Int.reduceNeg, Bool.not_not, and_self, Bool.and_eq_false_iff, Int.cast_ofNat_Int, Int.reduceAdd, Int.reduceSub, Int.reduceMul, Int.reduceEq, Int.reduceNe, B37_1, show (k : Int) < (l[i].l.length : Int) by omega, wf_ks, getD_ks hkl, like_pmE, lkp_none hmet, mput_pmE hmet]
              refine ⟨⟨by omega, by omega⟩, ⟨k + 1, es' ++ [((l[i].l.getD k default).id, (i : Int))]⟩, rfl, ⟨hkl, ?_, ?_⟩, by simp only; omega⟩
              · simp only
                rw [hts, ← List.append_assoc, ← hk3]
                exact nodup_snoc.2 ⟨by rw [hk3]; exact hk2, hmet⟩
              · simp only
                rw [hts, ← List.append_assoc, ← hk3, List.map_append]
                rfl
          · have hke : k = l[i].l.length := by omega
            subst hke
            simp only [go_sem, Nat.reduceEqDiff, Nat.reduceBEq, Nat.reduceAdd, Nat.reduceMul, Nat.reduceSub, Nat.reduceLeDiff, Nat.reduceLT, reduceIte, reduceCtorEq, Int.reduceToNat, Int.reduceLE, Int.reduceLT, Int.reduceNeg, Bool.not_not, and_self, Bool.and_eq_false_iff, Int.cast_ofNat_Int, Int.reduceAdd, Int.reduceSub, Int.reduceMul, Int.reduceEq, Int.reduceNe, B37_1, show ¬ ((l[i].l.length : Int) < (l[i].l.length : Int)) by omega]
            have hids : idsI (l.take (i + 1)) = idsI (l.take i) ++ l[i].l.map (·.id) := by simp only [idsI]; rw [allI_succ hlt, List.map_append]
            rw [List.take_length] at hk2 hk3
            have hoi : okOne j l i = true := by
              rw [hone]
              rcases hA.2 with h | h <;> simp [hA.1, eq_true h, hne, hck, -List.getD_eq_getElem?_getD]
            refine ⟨⟨by omega, by omega⟩, ⟨i + 1, es'⟩, rfl, ⟨hlt, ?_, ?_, ?_⟩, by simp only; omega⟩
            · simp only [List.range_succ, List.all_append, hok, List.all_cons, hoi, List.all_nil, Bool.and_true]
            · simp only; rw [hids]; exact hk2
            · simp only; rw [hids]; exact hk3
        · have h1 : checkI j l = false := hno (by
            rw [hone]
            by_cases hz : l[i].l = []
            · simp [hz]
            · have : checkJ j l[i].l = false := by
                cases h : checkJ j l[i].l with
                | false => rfl
                | true => exact absurd ⟨hz, h⟩ hB
              simp [this])
          rw [h1]
          by_cases hz : l[i].l = []
          · simp only [go_sem, Nat.reduceEqDiff, Nat.reduceBEq, Nat.reduceAdd, Nat.reduceMul, Nat.reduceSub, Nat.reduceLeDiff, Nat.reduceLT, reduceIte, reduceCtorEq, Int.reduceToNat, Int.reduceLE, Int.reduceLT, Int.reduceNeg, Bool.not_not, and_self, Bool.and_eq_false_iff, Int.cast_ofNat_Int, Int.reduceAdd, Int.reduceSub, Int.reduceMul, Int.reduceEq, Int.reduceNe, show ((l[i].l.length : Int) = 0) by rw [hz]; rfl, errN]
          · have hc : checkJ j l[i].l = false := by
              cases h : checkJ j l[i].l with
              | false => rfl
              | true => exact absurd ⟨hz, h⟩ hB
            have hpos : ¬ ((l[i].l.length : Int) = 0) := fun h => hz (List.eq_nil_of_length_eq_zero (by omega))
            simp only [go_sem, Nat.reduceEqDiff, Nat.reduceBEq, Nat.reduceAdd, Nat.reduceMul, Nat.reduceSub, Nat.reduceLeDiff, Nat.reduceLT, reduceIte, reduceCtorEq, Int.reduceToNat, Int.reduceLE, Int.reduceLT, Int.reduceNeg, Bool.not_not, and_self, Bool.and_eq_false_iff, Int.cast_ofNat_Int, Int.reduceAdd, Int.reduceSub, Int.reduceMul, Int.reduceEq, Int.reduceNe, hpos, checkJ_err, hc, errN]
      · have h1 : checkI j l = false := hno (by
          rw [hone]
          by_cases hv : mayV l[i].key = true
          · have h2 : ¬ (i = 0 ∨ ordV (l.getD (i - 1) default).key l[i].key < 0) := fun h => hA ⟨hv, h⟩
            simp only [not_or] at h2
            simp [hv, h2.1, -List.getD_eq_getElem?_getD]
            omega
          · simp [hv])
        rw [h1]
        by_cases hv : mayV l[i].key = true
        · have h2 : ¬ (i = 0 ∨ ordV (l.getD (i - 1) default).key l[i].key < 0) := fun h => hA ⟨hv, h⟩
          simp only [go_sem, Nat.reduceEqDiff, Nat.reduceBEq, Nat.reduceAdd, Nat.reduceMul, Nat.reduceSub, Nat.reduceLeDiff, Nat.reduceLT, reduceIte, reduceCtorEq, Int.reduceToNat, Int.reduceLE, Int.reduceLT, Int.reduceNeg, Bool.not_not, and_self, Bool.and_eq_false_iff, Int.cast_ofNat_Int, Int.reduceAdd, Int.reduceSub, Int.reduceMul, Int.reduceEq, Int.reduceNe, hv, show (0 : Int) < (i : Int) by omega, show (0 : Int) ≤ ordV (l.getD (i - 1) default).key l[i].key by omega, errN]
        · have hv' : mayV l[i].key = false := by simpa using hv
          simp only [go_sem, Nat.reduceEqDiff, Nat.reduceBEq, Nat.reduceAdd, Nat.reduceMul, Nat.reduceSub, Nat.reduceLeDiff, Nat.reduceLT, reduceIte, reduceCtorEq, Int.reduceToNat, Int.reduceLE, Int.reduceLT, Int.reduceNeg, Bool.not_not, and_self, Bool.and_eq_false_iff, Int.cast_ofNat_Int, Int.reduceAdd, Int.reduceSub, Int.reduceMul, Int.reduceEq, Int.reduceNe, hv', errN]
    · have hie : i = l.length := by omega
      subst hie
      simp only [go_sem, Nat.reduceEqDiff, Nat.reduceBEq, Nat.reduceAdd, Nat.reduceMul, Nat.reduceSub, Nat.reduceLeDiff, Nat.reduceLT, reduceIte, reduceCtorEq, Int.reduceToNat, Int.reduceLE, Int.reduceLT, Int.reduceNeg, Bool.not_not, and_self, Bool.and_eq_false_iff, Int.cast_ofNat_Int, Int.reduceAdd, Int.reduceSub, Int.reduceMul, Int.reduceEq, Int.reduceNe, B37_0, R37_0, show ¬ ((l.length : Int) < (l.length : Int)) by omega]
      rw [List.take_length] at hnd
      simp [checkI, hm, h40, hok, hnd, errN]
  · have h1 : checkI j l = false := by
      cases hc : checkI j l with
      | false => rfl
      | true =>
        exfalso
        simp only [checkI, Bool.and_eq_true, decide_eq_true_eq] at hc
        exact hm ⟨hc.1.1.1, hc.1.1.2⟩
    refine ⟨fun _ => by rw [h1]; rfl, fun h => absurd ⟨h.1, by omega⟩ hm⟩
end Go.Vc

namespace Go.Vc
open Go.Proofs
set_option linter.unusedSimpArgs false
set_option linter.unusedVariables false

structure FRI where
  ins_ : List In
  fired : List Kp
  over : List Kp
  err : Int
  deriving DecidableEq
abbrev FRI.pv (r : FRI) : PV := .tup [ins r.ins_, ks r.fired, ks r.over, pI r.err]
def friErr (e : Int) : FRI := ⟨[], [], [], e⟩
def waitsI (l : List In) (key : Vl) : List Kp := if 0 ≤ findI l key then (l.getD (findI l key).toNat default).l else []
def feedI (j : Jn) (l : List In) (key : Vl) (x : Kp) : FRI :=
  if checkI j l = false then friErr 1
  else if mayV key = false then friErr 1
  else if l.any (fun y => idIn y.l x.id) = true then friErr 5
  else if (feedR j (waitsI l key) x).err ≠ 0 then friErr (feedR j (waitsI l key) x).err
  else if findI l key < 0 ∧ 0 < (feedR j (waitsI l key) x).left.length ∧ 40 ≤ l.length then friErr 6
  else ⟨withI l key (feedR j (waitsI l key) x).left, (feedR j (waitsI l key) x).fired, (feedR j (waitsI l key) x).over, 0⟩
theorem findI_lt (l : List In) (key : Vl) : findI l key < 0 ∨ ∃ n : Nat, findI l key = n ∧ n < l.length := by
  unfold findI idxA
  split
  · rename_i h
    exact .inr ⟨_, rfl, List.findIdx_lt_length_of_exists (by simpa using h)⟩
  · exact .inl (by omega)
theorem fn30 (j : Jn) (l : List In) (key : Vl) (x : Kp) (hl : l.length < 100000) (hk : ∀ y ∈ l, y.l.length < 100000) : Fn Try.prog 30 [j.pv, ins l, key.pv, x.pv] (.pv (feedI j l key x).pv) [] := by
  refine Run30 [false, false, false, false] (by simp) ?_
  simp only [go_sem, Nat.reduceEqDiff, Nat.reduceBEq, Nat.reduceAdd, Nat.reduceMul, Nat.reduceSub, Nat.reduceLeDiff, Nat.reduceLT, reduceIte, reduceCtorEq, Int.reduceToNat, Int.reduceLE, Int.reduceLT, Int.reduceNeg, Bool.not_not, and_self, Bool.and_eq_false_iff, Int.cast_ofNat_Int, Int.reduceAdd, Int.reduceSub, Int.reduceMul, Int.reduceEq, Int.reduceNe, M30]
  refine runR_callf (by simp only [go_sem, Nat.reduceEqDiff, Nat.reduceBEq, Nat.reduceAdd, Nat.reduceMul, Nat.reduceSub, Nat.reduceLeDiff, Nat.reduceLT, reduceIte, reduceCtorEq, Int.reduceToNat, Int.reduceLE, Int.reduceLT, Int.reduceNeg, Bool.not_not, and_self, Bool.and_eq_false_iff, Int.cast_ofNat_Int, Int.reduceAdd, Int.reduceSub, Int.reduceMul, Int.reduceEq, Int.reduceNe]) (by simp only [go_sem, Nat.reduceEqDiff, Nat.reduceBEq, Nat.reduceAdd, Nat.reduceMul, Nat.reduceSub, Nat.reduceLeDiff, Nat.reduceLT, reduceIte, reduceCtorEq, Int.reduceToNat, Int.reduceLE, Int.reduceLT, Int.reduceNeg, Bool.not_not, and_self, Bool.and_eq_false_iff, Int.cast_ofNat_Int, Int.reduceAdd, Int.reduceSub, Int.reduceMul, Int.reduceEq, Int.reduceNe]) (fn37 j l hl hk) ⟨rfl, trivial⟩ trivial ?_
  cases hc : checkI j l with
  | false =>
    simp only [go_sem, Nat.reduceEqDiff, Nat.reduceBEq, Nat.reduceAdd, Nat.reduceMul, Nat.reduceSub, Nat.reduceLeDiff, Nat.reduceLT, reduceIte, reduceCtorEq, Int.reduceToNat, Int.reduceLE, Int.reduceLT, Int.reduceNeg, Bool.not_not, and_self, Bool.and_eq_false_iff, Int.cast_ofNat_Int, Int.reduceAdd, Int.reduceSub, Int.reduceMul, Int.reduceEq, Int.reduceNe, errN]
    simp [feedI, hc, friErr]
  | true =>
    simp only [go_sem, Nat.reduceEqDiff, Nat.reduceBEq, Nat.reduceAdd, Nat.reduceMul, Nat.reduceSub, Nat.reduceLeDiff, Nat.reduceLT, reduceIte, reduceCtorEq, Int.reduceToNat, Int.reduceLE, Int.reduceLT, Int.reduceNeg, Bool.not_not, and_self, Bool.and_eq_false_iff, Int.cast_ofNat_Int, Int.reduceAdd, Int.reduceSub, Int.reduceMul, Int.reduceEq, Int.reduceNe, errN]
    refine runR_callf (by simp only [go_sem, Nat.reduceEqDiff, Nat.reduceBEq, Nat.reduceAdd, Nat.reduceMul, Nat.reduceSub, Nat.reduceLeDiff, Nat.reduceLT, reduceIte, reduceCtorEq, Int.reduceToNat, Int.reduceLE, Int.reduceLT, Int.reduceNeg, Bool.not_not, and_self, Bool.and_eq_false_iff, Int.cast_ofNat_Int, Int.reduceAdd, Int.reduceSub, Int.reduceMul, Int.reduceEq, Int.reduceNe]) (by simp only [go_sem, Nat.reduceEqDiff, Nat.reduceBEq, Nat.reduceAdd, Nat.reduceMul, Nat.reduceSub, Nat.reduceLeDiff, Nat.reduceLT, reduceIte, reduceCtorEq, Int.reduceToNat, Int.reduceLE, Int.reduceLT, Int.reduceNeg, Bool.not_not, and_self, Bool.and_eq_false_iff, Int.cast_ofNat_Int, Int.reduceAdd, Int.reduceSub, Int.reduceMul, Int.reduceEq, Int.reduceNe]) (fn52 key) ⟨rfl, trivial⟩ trivial ?_
    cases hv : mayV key with
    | false =>
      simp only [go_sem, Nat.reduceEqDiff, Nat.reduceBEq, Nat.reduceAdd, Nat.reduceMul, Nat.reduceSub, Nat.reduceLeDiff, Nat.reduceLT, reduceIte, reduceCtorEq, Int.reduceToNat, Int.reduceLE, Int.reduceLT, Int.reduceNeg, Bool.not_not, and_self, Bool.and_eq_false_iff, Int.cast_ofNat_Int, Int.reduceAdd, Int.reduceSub, Int.reduceMul, Int.reduceEq, Int.reduceNe]
      simp [feedI, hc, hv, friErr]
    | true =>
      simp only [go_sem, Nat.reduceEqDiff, Nat.reduceBEq, Nat.reduceAdd, Nat.reduceMul, Nat.reduceSub, Nat.reduceLeDiff, Nat.reduceLT, reduceIte, reduceCtorEq, Int.reduceToNat, Int.reduceLE, Int.reduceLT, Int.reduceNeg, Bool.not_not, and_self, Bool.and_eq_false_iff, Int.cast_ofNat_Int, Int.reduceAdd, Int.reduceSub, Int.reduceMul, Int.reduceEq, Int.reduceNe]
      refine runR_callf (by simp only [go_sem, Nat.reduceEqDiff, Nat.reduceBEq, Nat.reduceAdd, Nat.reduceMul, Nat.reduceSub, Nat.reduceLeDiff, Nat.reduceLT, reduceIte, reduceCtorEq, Int.reduceToNat, Int.reduceLE, Int.reduceLT, Int.reduceNeg, Bool.not_not, and_self, Bool.and_eq_false_iff, Int.cast_ofNat_Int, Int.reduceAdd, Int.reduceSub, Int.reduceMul, Int.reduceEq, Int.reduceNe]) (by simp only [go_sem, Nat.reduceEqDiff, Nat.reduceBEq, Nat.reduceAdd, Nat.reduceMul, Nat.reduceSub, Nat.reduceLeDiff, Nat.reduceLT, reduceIte, reduceCtorEq, Int.reduceToNat, Int.reduceLE, Int.reduceLT, Int.reduceNeg, Bool.not_not, and_self, Bool.and_eq_false_iff, Int.cast_ofNat_Int, Int.reduceAdd, Int.reduceSub, Int.reduceMul, Int.reduceEq, Int.reduceNe]) (fn53 l x.id hl hk) ⟨rfl, trivial⟩ trivial ?_
      cases ha : l.any (fun y => idIn y.l x.id) with
      | true =>
        simp only [go_sem, Nat.reduceEqDiff, Nat.reduceBEq, Nat.reduceAdd, Nat.reduceMul, Nat.reduceSub, Nat.reduceLeDiff, Nat.reduceLT, reduceIte, reduceCtorEq, Int.reduceToNat, Int.reduceLE, Int.reduceLT, Int.reduceNeg, Bool.not_not, and_self, Bool.and_eq_false_iff, Int.cast_ofNat_Int, Int.reduceAdd, Int.reduceSub, Int.reduceMul, Int.reduceEq, Int.reduceNe]
        simp [feedI, hc, hv, ha, friErr]
      | false =>
        simp only [go_sem, Nat.reduceEqDiff, Nat.reduceBEq, Nat.reduceAdd, Nat.reduceMul, Nat.reduceSub, Nat.reduceLeDiff, Nat.reduceLT, reduceIte, reduceCtorEq, Int.reduceToNat, Int.reduceLE, Int.reduceLT, Int.reduceNeg, Bool.not_not, and_self, Bool.and_eq_false_iff, Int.cast_ofNat_Int, Int.reduceAdd, Int.reduceSub, Int.reduceMul, Int.reduceEq, Int.reduceNe]
        refine runR_callf (by simp only [go_sem, Nat.reduceEqDiff, Nat.reduceBEq, Nat.reduceAdd, Nat.reduceMul, Nat.reduceSub, Nat.reduceLeDiff, Nat.reduceLT, reduceIte, reduceCtorEq, Int.reduceToNat, Int.reduceLE, Int.reduceLT, Int.reduceNeg, Bool.not_not, and_self, Bool.and_eq_false_iff, Int.cast_ofNat_Int, Int.reduceAdd, Int.reduceSub, Int.reduceMul, Int.reduceEq, Int.reduceNe]) (by simp only [go_sem, Nat.reduceEqDiff, Nat.reduceBEq, Nat.reduceAdd, Nat.reduceMul, Nat.reduceSub, Nat.reduceLeDiff, Nat.reduceLT, reduceIte, reduceCtorEq, Int.reduceToNat, Int.reduceLE, Int.reduceLT, Int.reduceNeg, Bool.not_not, and_self, Bool.and_eq_false_iff, Int.cast_ofNat_Int, Int.reduceAdd, Int.reduceSub, Int.reduceMul, Int.reduceEq, Int.reduceNe]) (fn39 l key hl) ⟨rfl, trivial⟩ trivial ?_
        have hfd := findI_lt l key
        have h40 : l.length ≤ 40 := by
          simp only [checkI, Bool.and_eq_true, decide_eq_true_eq] at hc
          exact hc.1.1.2
        have rest : ∀ ws : List Kp, ws.length < 100000 → waitsI l key = ws → ∀ b : Bool, (findI l key < 0) = (b = true) →
            feedI j l key x = (if (feedR j ws x).err ≠ 0 then friErr (feedR j ws x).err else if b = true ∧ 0 < (feedR j ws x).left.length ∧ 40 ≤ l.length then friErr 6 else ⟨withI l key (feedR j ws x).left, (feedR j ws x).fired, (feedR j ws x).over, 0⟩) := by
          intro ws _ hw b hb
          simp only [feedI, hc, hv, ha, hw, hb]
          simp
        by_cases h0 : 0 ≤ findI l key
        · obtain ⟨n, hn, hnl⟩ : ∃ n : Nat, findI l key = n ∧ n < l.length := by
            rcases hfd with h | h
            · omega
            · exact h
          have hx := hk _ (List.getElem_mem hnl)
          have hr := rest l[n].l hx (by unfold waitsI; rw [if_pos h0, hn, Int.toNat_natCast, getI hnl]) false (by simp; omega)
          rw [hr]
          simp only [go_sem, Nat.reduceEqDiff, Nat.reduceBEq, Nat.reduceAdd, Nat.reduceMul, Nat.reduceSub, Nat.reduceLeDiff, Nat.reduceLT, reduceIte, reduceCtorEq, Int.reduceToNat, Int.reduceLE, Int.reduceLT, Int.reduceNeg, Bool.not_not, and_self, Bool.and_eq_false_iff, Int.cast_ofNat_Int, Int.reduceAdd, Int.reduceSub, Int.reduceMul, Int.reduceEq, Int.reduceNe, hn, wf_ins, getD_ins hnl, getI hnl, show (n : Int) < (l.length : Int) by omega]
          refine runR_call (by simp only [go_sem, Nat.reduceEqDiff, Nat.reduceBEq, Nat.reduceAdd, Nat.reduceMul, Nat.reduceSub, Nat.reduceLeDiff, Nat.reduceLT, reduceIte, reduceCtorEq, Int.reduceToNat, Int.reduceLE, Int.reduceLT, Int.reduceNeg, Bool.not_not, and_self, Bool.and_eq_false_iff, Int.cast_ofNat_Int, Int.reduceAdd, Int.reduceSub, Int.reduceMul, Int.reduceEq, Int.reduceNe]) rfl (fn19 j l[n].l x hx) (.inl rfl) trivial ?_
          simp only [go_sem, Nat.reduceEqDiff, Nat.reduceBEq, Nat.reduceAdd, Nat.reduceMul, Nat.reduceSub, Nat.reduceLeDiff, Nat.reduceLT, reduceIte, reduceCtorEq, Int.reduceToNat, Int.reduceLE, Int.reduceLT, Int.reduceNeg, Bool.not_not, and_self, Bool.and_eq_false_iff, Int.cast_ofNat_Int, Int.reduceAdd, Int.reduceSub, Int.reduceMul, Int.reduceEq, Int.reduceNe]
          have hlen := (feedR_len j l[n].l x).1
          generalize feedR j l[n].l x = r at *
          refine ⟨fun he => ?_, fun he => ⟨fun h => absurd h.1.1 (by omega), fun _ => ?_⟩⟩
          · rw [if_pos he]; rfl
          · rw [if_neg (by simp [he])]
            refine runR_call (by simp only [go_sem, Nat.reduceEqDiff, Nat.reduceBEq, Nat.reduceAdd, Nat.reduceMul, Nat.reduceSub, Nat.reduceLeDiff, Nat.reduceLT, reduceIte, reduceCtorEq, Int.reduceToNat, Int.reduceLE, Int.reduceLT, Int.reduceNeg, Bool.not_not, and_self, Bool.and_eq_false_iff, Int.cast_ofNat_Int, Int.reduceAdd, Int.reduceSub, Int.reduceMul, Int.reduceEq, Int.reduceNe]) rfl (fn54 l key r.left (by omega) hk (by omega)) (.inl rfl) trivial ?_
            simp only [go_sem, Nat.reduceEqDiff, Nat.reduceBEq, Nat.reduceAdd, Nat.reduceMul, Nat.reduceSub, Nat.reduceLeDiff, Nat.reduceLT, reduceIte, reduceCtorEq, Int.reduceToNat, Int.reduceLE, Int.reduceLT, Int.reduceNeg, Bool.not_not, and_self, Bool.and_eq_false_iff, Int.cast_ofNat_Int, Int.reduceAdd, Int.reduceSub, Int.reduceMul, Int.reduceEq, Int.reduceNe]
        · have hr := rest [] (by simp) (by unfold waitsI; rw [if_neg h0]) true (by simp; omega)
          rw [hr]
          simp only [go_sem, Nat.reduceEqDiff, Nat.reduceBEq, Nat.reduceAdd, Nat.reduceMul, Nat.reduceSub, Nat.reduceLeDiff, Nat.reduceLT, reduceIte, reduceCtorEq, Int.reduceToNat, Int.reduceLE, Int.reduceLT, Int.reduceNeg, Bool.not_not, and_self, Bool.and_eq_false_iff, Int.cast_ofNat_Int, Int.reduceAdd, Int.reduceSub, Int.reduceMul, Int.reduceEq, Int.reduceNe, h0]
          refine runR_call (by simp only [go_sem, Nat.reduceEqDiff, Nat.reduceBEq, Nat.reduceAdd, Nat.reduceMul, Nat.reduceSub, Nat.reduceLeDiff, Nat.reduceLT, reduceIte, reduceCtorEq, Int.reduceToNat, Int.reduceLE, Int.reduceLT, Int.reduceNeg, Bool.not_not, and_self, Bool.and_eq_false_iff, Int.cast_ofNat_Int, Int.reduceAdd, Int.reduceSub, Int.reduceMul, Int.reduceEq, Int.reduceNe]) rfl (fn19 j [] x (by simp)) (.inl rfl) trivial ?_
          simp only [go_sem, Nat.reduceEqDiff, Nat.reduceBEq, Nat.reduceAdd, Nat.reduceMul, Nat.reduceSub, Nat.reduceLeDiff, Nat.reduceLT, reduceIte, reduceCtorEq, Int.reduceToNat, Int.reduceLE, Int.reduceLT, Int.reduceNeg, Bool.not_not, and_self, Bool.and_eq_false_iff, Int.cast_ofNat_Int, Int.reduceAdd, Int.reduceSub, Int.reduceMul, Int.reduceEq, Int.reduceNe]
          have hlen := (feedR_len j [] x).1
          simp only [List.length_nil] at hlen
          generalize feedR j [] x = r at *
          refine ⟨fun he => ?_, fun he => ⟨fun h => ?_, fun h => ?_⟩⟩
          · rw [if_pos he]; rfl
          · rw [if_neg (by simp [he]), if_pos (by omega)]; rfl
          · rw [if_neg (by simp [he]), if_neg (by omega)]
            refine runR_call (by simp only [go_sem, Nat.reduceEqDiff, Nat.reduceBEq, Nat.reduceAdd, Nat.reduceMul, Nat.reduceSub, Nat.reduceLeDiff, Nat.reduceLT, reduceIte, reduceCtorEq, Int.reduceToNat, Int.reduceLE, Int.reduceLT, Int.reduceNeg, Bool.not_not, and_self, Bool.and_eq_false_iff, Int.cast_ofNat_Int, Int.reduceAdd, Int.reduceSub, Int.reduceMul, Int.reduceEq, Int.reduceNe]) rfl (fn54 l key r.left (by omega) hk (by omega)) (.inl rfl) trivial ?_
            simp only [go_sem, Nat.reduceEqDiff, Nat.reduceBEq, Nat.reduceAdd, Nat.reduceMul, Nat.reduceSub, Nat.reduceLeDiff, Nat.reduceLT, reduceIte, reduceCtorEq, Int.reduceToNat, Int.reduceLE, Int.reduceLT, Int.reduceNeg, Bool.not_not, and_self, Bool.and_eq_false_iff, Int.cast_ofNat_Int, Int.reduceAdd, Int.reduceSub, Int.reduceMul, Int.reduceEq, Int.reduceNe]
end Go.Vc
