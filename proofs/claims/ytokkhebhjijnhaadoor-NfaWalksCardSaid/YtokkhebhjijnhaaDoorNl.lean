/- A part of the proofs of the seat YtokkhebhjijnhaaDoor: the contracts of functions, each proved out of its code. -/
import Derived.Test.YtokkhebhjijnhaaDoorVh
import Derived.Test.YtokkhebhjijnhaaDoorProg
import Derived.Test.YtokkhebhjijnhaaDoorNk
namespace Go.Vc
open Go.Proofs
set_option maxRecDepth 100000

/-- 'trystlaw06.NfaWalks' -/
def B8_0 : MC := (.seq (.seq (.reg [⟨(some 38), none, (.q (.mv (.t 9)))⟩, ⟨(some 39), none, (.q (.mv (.t 8)))⟩, ⟨(some 40), none, (.q (.len (.t 39) false))⟩, ⟨(some 41), none, (.q (.bin .lss (.t 38)
  (.t 40)))⟩] [] [1, 5, 7, 8, 9, 41] [5, 1018, 1021, 1035, 1037, 1052]) (.cond (.t 41) .skip (.exit 0))) (.seq (.block 1 (.reg [⟨(some 44), none, (.q (.ld (.t 5) 4 true))⟩, ⟨(some 45), none,
  (.q (.mv (.t 7)))⟩, ⟨(some 46), none, (.q (.ld (.t 5) 4 true))⟩, ⟨(some 47), none, (.q (.mv (.t 8)))⟩, ⟨(some 48), none, (.q (.mv (.t 9)))⟩, ⟨(some 49), none, (.q (.ia (.t 47) (.t 48) 1))⟩,
  ⟨(some 50), none, (.q (.ld (.t 49) 1 false))⟩, ⟨(some 51), none, (.call (.f 14) [(.t 46), (.t 50)])⟩, ⟨(some 52), none, (.call (.f 19) [(.t 44), (.t 45), (.t 51)])⟩, ⟨(some 7), none,
  (.q (.mv (.t 52)))⟩] [] [1, 5, 7, 8, 9] [5, 1018, 1021, 1035, 1037, 1052])) (.reg [⟨(some 42), none, (.q (.mv (.t 9)))⟩, ⟨(some 43), none, (.q (.bin .add (.t 42) (.c (.int .i64 1))))⟩, ⟨(some 9),
  none, (.q (.mv (.t 43)))⟩] [] [1, 5, 7, 8, 9] [5, 1018, 1021, 1035, 1037, 1052])))
def B8_1 : MC := (.seq (.seq (.reg [⟨(some 54), none, (.q (.mv (.t 11)))⟩, ⟨(some 55), none, (.q (.mv (.t 7)))⟩, ⟨(some 56), none, (.q (.len (.t 55) false))⟩, ⟨(some 57), none, (.q (.bin .lss (.t 54)
  (.t 56)))⟩] [] [1, 5, 7, 10, 11, 57] [5, 53, 1018, 1021, 1035, 1052]) (.cond (.t 57) .skip (.exit 2))) (.seq (.block 3 (.reg [⟨(some 60), none, (.q (.mv (.t 10)))⟩, ⟨(some 61), none,
  (.q (.mv (.t 7)))⟩, ⟨(some 62), none, (.q (.mv (.t 11)))⟩, ⟨(some 63), none, (.q (.ia (.t 61) (.t 62) 1))⟩, ⟨(some 64), none, (.q (.ld (.t 63) 1 false))⟩, ⟨none, none, (.mset (.t 60) (.t 64)
  (.c (.bool true)) Kk.int)⟩] [] [1, 5, 7, 10, 11] [5, 53, 1018, 1021, 1035, 1052])) (.reg [⟨(some 58), none, (.q (.mv (.t 11)))⟩, ⟨(some 59), none, (.q (.bin .add (.t 58) (.c (.int .i64 1))))⟩,
  ⟨(some 11), none, (.q (.mv (.t 59)))⟩] [] [1, 5, 7, 10, 11] [5, 53, 1018, 1021, 1035, 1052])))
def B8_2 : MC := (.seq (.seq (.reg [⟨(some 65), none, (.q (.mv (.t 13)))⟩, ⟨(some 66), none, (.q (.fa (.t 5) 3))⟩, ⟨(some 67), none, (.q (.ld (.t 66) 1 false))⟩, ⟨(some 68), none, (.q (.len (.t 67)
  false))⟩, ⟨(some 69), none, (.q (.bin .lss (.t 65) (.t 68)))⟩] [] [1, 5, 10, 12, 13, 69] [5, 53, 95, 1018, 1021, 2012]) (.cond (.t 69) .skip (.exit 4))) (.seq (.block 5 (.seq (.reg [⟨(some 72),
  none, (.q (.fa (.t 5) 1))⟩, ⟨(some 73), none, (.q (.ld (.t 72) 1 false))⟩, ⟨(some 74), none, (.q (.len (.t 73) false))⟩, ⟨(some 75), none, (.q (.bin .sub (.t 74) (.c (.int .i64 1))))⟩, ⟨(some 14),
  none, (.q (.mv (.t 75)))⟩] [] [1, 5, 10, 12, 13, 14] [5, 53, 95, 1018, 1021, 2012]) (.seq (.seq (.reg [⟨(some 76), none, (.q (.mv (.t 13)))⟩, ⟨(some 77), none, (.q (.bin .add (.t 76)
  (.c (.int .i64 1))))⟩, ⟨(some 78), none, (.q (.fa (.t 5) 3))⟩, ⟨(some 79), none, (.q (.ld (.t 78) 1 false))⟩, ⟨(some 80), none, (.q (.len (.t 79) false))⟩, ⟨(some 81), none, (.q (.bin .lss (.t 77)
  (.t 80)))⟩] [] [1, 5, 10, 12, 13, 14, 81] [5, 53, 95, 1018, 1021, 2012]) (.cond (.t 81) (.reg [⟨(some 82), none, (.q (.fa (.t 5) 3))⟩, ⟨(some 83), none, (.q (.ld (.t 82) 1 false))⟩, ⟨(some 84),
  none, (.q (.mv (.t 13)))⟩, ⟨(some 85), none, (.q (.bin .add (.t 84) (.c (.int .i64 1))))⟩, ⟨(some 86), none, (.q (.ia (.t 83) (.t 85) 1))⟩, ⟨(some 87), none, (.q (.ld (.t 86) 1 false))⟩, ⟨(some 88),
  none, (.q (.bin .sub (.t 87) (.c (.int .i64 1))))⟩, ⟨(some 14), none, (.q (.mv (.t 88)))⟩] [] [1, 5, 10, 12, 13, 14] [5, 53, 95, 1018, 1021, 2012]) .skip)) (.seq (.reg [⟨(some 89), none,
  (.q (.mv (.t 10)))⟩, ⟨(some 90), none, (.q (.mv (.t 14)))⟩, ⟨(some 91), none, (.q (.mget (.t 89) (.t 90) false Kk.int (.pv (.sc (.bool false)))))⟩] [] [1, 5, 10, 12, 13, 91] [5, 53, 95, 1018, 1021,
  2012]) (.cond (.t 91) (.reg [⟨(some 92), none, (.q (.mv (.t 12)))⟩, ⟨(some 93), none, (.q (.mv (.t 13)))⟩, ⟨(some 94), none, (.lits [(.t 93)] 1)⟩, ⟨(some 95), none, (.app (.t 92) (.t 94) 1 8)⟩,
  ⟨(some 12), none, (.q (.mv (.t 95)))⟩] [] [1, 5, 10, 12, 13] [5, 53, 95, 1018, 1021, 2012]) .skip))))) (.reg [⟨(some 70), none, (.q (.mv (.t 13)))⟩, ⟨(some 71), none, (.q (.bin .add (.t 70)
  (.c (.int .i64 1))))⟩, ⟨(some 13), none, (.q (.mv (.t 71)))⟩] [] [1, 5, 10, 12, 13] [5, 53, 95, 1018, 1021, 2012])))
def R8_2 : MC := (.seq (.reg [⟨(some 96), none, (.q (.ld (.t 5) 4 true))⟩, ⟨(some 97), none, (.q (.mv (.t 1)))⟩, ⟨(some 98), none, (.call (.f 21) [(.t 96), (.t 97)])⟩, ⟨(some 99), none,
  (.q (.mv (.t 12)))⟩, ⟨(some 100), none, (.call (.f 16) [(.t 98), (.t 99)])⟩, ⟨(some 101), none, (.q (.mv (.t 100)))⟩, ⟨(some 102), (some (101, true)), (.call (.f 15) [])⟩, ⟨(some 103), none,
  (.q (.pick (.t 101) (.t 102) (.c (.bool false))))⟩, ⟨(some 4), none, (.q (.mv (.t 103)))⟩] [] [4] [1031, 1100, 1102]) .ret)
def R8_1 : MC := (.seq (.reg [⟨(some 12), none, (.q (.mv .nil))⟩] [(12, 2012, 1)] [1, 5, 10, 12] [5, 53, 95, 1018, 1021, 2012]) (.seq (.seq (.reg [⟨(some 13), none,
  (.q (.mv (.c (.int .i64 0))))⟩] [] [1, 5, 10, 12, 13] [5, 53, 95, 1018, 1021, 2012]) (.block 4 (.loop B8_2))) R8_2))
def R8_0 : MC := (.seq (.reg [⟨(some 53), none, .mkm⟩, ⟨(some 10), none, (.q (.mv (.t 53)))⟩] [] [1, 5, 7, 10] [5, 53, 1018, 1021, 1035, 1052]) (.seq (.seq (.reg [⟨(some 11), none,
  (.q (.mv (.c (.int .i64 0))))⟩] [] [1, 5, 7, 10, 11] [5, 53, 1018, 1021, 1035, 1052]) (.block 2 (.loop B8_1))) R8_1))
def M8 : MC := (.seq (.reg [⟨(some 4), none, (.q (.mv (.c (.bool false))))⟩] [] [0, 1] [1016, 1018]) (.seq (.reg [⟨(some 15), none, (.q (.mv (.t 0)))⟩, ⟨(some 16), none, (.call (.f 9) [(.t 15)])⟩,
  ⟨(some 17), none, (.q (.mv (.t 1)))⟩, ⟨(some 18), none, (.call (.f 10) [(.t 17)])⟩, ⟨(some 0), none, (.q (.mv (.t 16)))⟩, ⟨(some 1), none, (.q (.mv (.t 18)))⟩] [] [0, 1] [1016, 1018])
  (.seq (.reg [⟨(some 20), none, (.q (.mv (.t 0)))⟩, ⟨(some 21), none, (.call (.f 11) [(.t 20)])⟩, ⟨(some 19), none, (.q (.mv (.t 21)))⟩, ⟨(some 22), none, (.q (.ext (.t 19) 0))⟩, ⟨(some 23), none,
  (.q (.ext (.t 19) 1))⟩, ⟨(some 5), none, (.alloc [.e0, .e0, .e0, .e0])⟩, ⟨none, none, (.st (.t 5) (.t 22) 4)⟩, ⟨(some 6), none, (.q (.mv (.t 23)))⟩] [] [1, 5, 6] [5, 1018, 1021])
  (.seq (.seq (.reg [⟨(some 24), none, (.q (.mv (.t 6)))⟩, ⟨(some 25), none, (.q (.bin .neq (.t 24) (.c (.int .i64 0))))⟩, ⟨(some 26), none, (.q (.mv (.t 25)))⟩, ⟨(some 27), (some (26, false)),
  (.q (.mv (.t 1)))⟩, ⟨(some 28), (some (26, false)), (.call (.f 23) [(.t 27)])⟩, ⟨(some 29), (some (26, false)), (.q (.not (.t 28)))⟩, ⟨(some 30), none, (.q (.pick (.t 26) (.c (.bool true))
  (.t 29)))⟩] [] [1, 5, 30] [5, 1018, 1021, 1028]) (.cond (.t 30) (.seq (.reg [⟨(some 31), none, (.call (.f 15) [])⟩, ⟨(some 4), none, (.q (.mv (.t 31)))⟩] [] [4] [1031, 1100, 1102]) .ret) .skip))
  (.seq (.reg [⟨(some 32), none, (.q (.ld (.t 5) 4 true))⟩, ⟨(some 33), none, (.q (.fa (.t 5) 3))⟩, ⟨(some 34), none, (.q (.ld (.t 33) 1 false))⟩, ⟨(some 35), none, (.call (.f 17) [(.t 32),
  (.t 34)])⟩, ⟨(some 7), none, (.q (.mv (.t 35)))⟩] [] [1, 5, 7] [5, 1018, 1021, 1035, 1052]) (.seq (.reg [⟨(some 36), none, (.q (.mv (.t 1)))⟩, ⟨(some 37), none, (.call (.f 24) [(.t 36)])⟩,
  ⟨(some 8), none, (.q (.mv (.t 37)))⟩] [] [1, 5, 7, 8] [5, 1018, 1021, 1035, 1037, 1052]) (.seq (.seq (.reg [⟨(some 9), none, (.q (.mv (.c (.int .i64 0))))⟩] [] [1, 5, 7, 8, 9] [5, 1018, 1021, 1035,
  1037, 1052]) (.block 0 (.loop B8_0))) R8_0)))))))
theorem mc8 : ofCode Tryd.prog [] Tryd.f8.ntmps [(0, ⟨[0, 1], [1016, 1018], [], 0, [], none⟩),
    (1, ⟨[0, 1], [1016, 1018], [], 0, [], none⟩),
    (2, ⟨[1, 5, 6], [5, 1018, 1021], [], 0, [], none⟩),
    (3, ⟨[1, 5, 30], [5, 1018, 1021, 1028], [], 0, [], none⟩),
    (4, ⟨[4], [1031, 1100, 1102], [], 0, [], none⟩),
    (5, ⟨[1, 5, 7], [5, 1018, 1021, 1035, 1052], [], 0, [], none⟩),
    (6, ⟨[1, 5, 7, 8], [5, 1018, 1021, 1035, 1037, 1052], [], 0, [], none⟩),
    (7, ⟨[1, 5, 7, 8, 9], [5, 1018, 1021, 1035, 1037, 1052], [], 0, [], none⟩),
    (8, ⟨[1, 5, 7, 8, 9, 41], [5, 1018, 1021, 1035, 1037, 1052], [], 0, [], none⟩),
    (9, ⟨[1, 5, 7, 8, 9], [5, 1018, 1021, 1035, 1037, 1052], [], 0, [], none⟩),
    (10, ⟨[1, 5, 7, 8, 9], [5, 1018, 1021, 1035, 1037, 1052], [(0, 769), (1, 770), (2, 900), (3, 1000), (4, 1008), (5, 992), (6, 960), (7, 0), (8, 0), (9, 512)], 1023, [], none⟩),
    (11, ⟨[1, 5, 7, 10], [5, 53, 1018, 1021, 1035, 1052], [], 0, [], none⟩),
    (12, ⟨[1, 5, 7, 10, 11], [5, 53, 1018, 1021, 1035, 1052], [], 0, [], none⟩),
    (13, ⟨[1, 5, 7, 10, 11, 57], [5, 53, 1018, 1021, 1035, 1052], [], 0, [], none⟩),
    (14, ⟨[1, 5, 7, 10, 11], [5, 53, 1018, 1021, 1035, 1052], [], 0, [], none⟩),
    (15, ⟨[1, 5, 7, 10, 11], [5, 53, 1018, 1021, 1035, 1052], [], 0, [], none⟩),
    (16, ⟨[1, 5, 10, 12], [5, 53, 95, 1018, 1021, 2012], [], 0, [(12, 2012, 1)], none⟩),
    (17, ⟨[1, 5, 10, 12, 13], [5, 53, 95, 1018, 1021, 2012], [], 0, [], none⟩),
    (18, ⟨[1, 5, 10, 12, 13, 69], [5, 53, 95, 1018, 1021, 2012], [], 0, [], none⟩),
    (19, ⟨[1, 5, 10, 12, 13], [5, 53, 95, 1018, 1021, 2012], [], 0, [], none⟩),
    (20, ⟨[1, 5, 10, 12, 13, 14], [5, 53, 95, 1018, 1021, 2012], [], 0, [], none⟩),
    (21, ⟨[1, 5, 10, 12, 13, 14, 81], [5, 53, 95, 1018, 1021, 2012], [], 0, [], none⟩),
    (22, ⟨[1, 5, 10, 12, 13, 14], [5, 53, 95, 1018, 1021, 2012], [], 0, [], none⟩),
    (23, ⟨[1, 5, 10, 12, 13, 91], [5, 53, 95, 1018, 1021, 2012], [], 0, [], none⟩),
    (24, ⟨[1, 5, 10, 12, 13], [5, 53, 95, 1018, 1021, 2012], [], 0, [], none⟩),
    (25, ⟨[4], [1031, 1100, 1102], [], 0, [], none⟩)] (Tryd.f8.body.getD .skip) = some M8 := by kernel_rfl
theorem Run8 {args : List PV} {v : AV} {rs : List (Nat × List PV)} (ids : List Bool) (h : args.length ≤ 104) (hv : run Tryd.prog (retK [RV.tmp 4] ids v rs) M8 [] ⟨entry 0 args, []⟩) : Fn Tryd.prog 8 args v rs :=
  Fn_run ids (by kernel_rfl) Tryd.func8 (by decide) rfl mc8 (by kernel_rfl) (by rw [Tryd.ntmps8]; exact h) (by rw [Tryd.ntmps8]; decide) hv

end Go.Vc

namespace Go.Vc
open Go.Proofs
set_option linter.unusedSimpArgs false
set_option linter.unusedVariables false

/-! ## NfaWalks -/
abbrev enB (k : Nat) : PV × PV := (pI (k : Int), pB true)
theorem lkp_B (k : Nat) : ∀ met : List Nat, lkp (pI (k : Int)) (met.map enB) = if k ∈ met then some (pB true) else none
  | [] => rfl
  | m :: met => by
    simp only [List.map_cons, lkp, keyEq, lkp_B k met]
    by_cases h : k = m
    · subst h; simp
    · have h2 : ¬ ((k : Int) = (m : Int)) := by omega
      simp [h, h2]
theorem mput_B (k : Nat) : ∀ {met : List Nat}, k ∉ met → mput (pI (k : Int)) (pB true) (met.map enB) = (met ++ [k]).map enB
  | [], _ => rfl
  | m :: met, h => by
    have h1 : k ≠ m := fun e => h (by simp [e])
    have h2 : ¬ ((k : Int) = (m : Int)) := by omega
    simp only [List.map_cons, mput, keyEq, h2, decide_false, Bool.false_eq_true, if_false, List.cons_append, List.cons.injEq, true_and]
    exact mput_B k fun hm => h (List.mem_cons_of_mem _ hm)
theorem like_B (x : Int) : ∀ met : List Nat, keysLike .int (pI x) (met.map enB)
  | [] => trivial
  | m :: met => by simp only [List.map_cons, keysLike, keyLike]; exact ⟨trivial, like_B x met⟩
theorem stepN_ris (n : NF) (l : List Int) (x : Int) : (stepN n l x).Pairwise (· < ·) := by
  unfold stepN
  split
  · simp
  · exact closeN_ris _ _
theorem walkN_ris (n : NF) (t : List ByteArray) : (walkN n t).Pairwise (· < ·) := by
  rcases List.eq_nil_or_concat t with rfl | ⟨u, q, rfl⟩
  · exact closeN_ris _ _
  · rw [List.concat_eq_append, walkN_snoc]; exact stepN_ris _ _ _
theorem last_at {gs : List (List ByteArray)} {t : List ByteArray} {i : Nat} (h : i < gs.length) : base gs i + gs[i].length ∈ walkN (nfaOf gs) t ↔ matchL gs[i] t = true := by
  rw [walk_at, matchL_iff]
  constructor
  · rintro ⟨j, hj, k, hk, he, hS⟩
    obtain ⟨rfl, rfl⟩ := base_uniq h hj (Nat.le_refl _) hk he
    exact Sk_end.1 hS
  · intro hm
    exact ⟨i, h, _, Nat.le_refl _, rfl, Sk_end.2 hm⟩
def lastN (gs : List (List ByteArray)) (i : Nat) : Nat := base gs i + (gs.getD i []).length
def wantW (gs : List (List ByteArray)) (A : List Nat) (i : Nat) : List Nat := (List.range i).filter fun j => decide (lastN gs j ∈ A)
theorem wantW_succ (gs : List (List ByteArray)) (A : List Nat) (i : Nat) : wantW gs A (i + 1) = wantW gs A i ++ (if lastN gs i ∈ A then [i] else []) := by
  unfold wantW
  rw [List.range_succ, List.filter_append]
  by_cases h : lastN gs i ∈ A <;> simp [h]
theorem wantW_len (gs : List (List ByteArray)) (A : List Nat) (i : Nat) : (wantW gs A i).length ≤ i := by
  have := List.length_filter_le (fun j => decide (lastN gs j ∈ A)) (List.range i)
  unfold wantW; simpa using this
theorem wantW_res (gs : List (List ByteArray)) (t : List ByteArray) : wantW gs (walkN (nfaOf gs) t) gs.length = resN gs t := by
  unfold wantW resN
  refine List.filter_congr fun i hi => ?_
  have hl := List.mem_range.1 hi
  have e : gs.getD i [] = gs[i] := by simp [List.getD_eq_getElem?_getD, hl]
  have := last_at (t := t) hl
  unfold lastN
  rw [e, Bool.eq_iff_iff, decide_eq_true_iff]
  exact this
theorem law8 (bs : List ByteArray) (t : ByteArray) (hb : bs.length ≤ 9223372036854775807) : Fn Tryd.prog 8 [ss bs, pS t] (.pv (pB true)) [] := by
  refine Run8 [] (by simp) ?_
  simp only [go_sem, Nat.reduceEqDiff, Nat.reduceBEq, Nat.reduceAdd, Nat.reduceMul, Nat.reduceSub, Nat.reduceLeDiff, Nat.reduceLT, reduceIte, reduceCtorEq, Int.reduceToNat, Int.reduceLE, Int.reduceLT, Int.reduceNeg, Bool.not_not, and_self, Bool.and_eq_false_iff, Int.cast_ofNat_Int, Int.reduceAdd, Int.reduceSub, Int.reduceMul, Int.reduceEq, Int.reduceNe, M8]
  refine runR_call (by simp only [go_sem, Nat.reduceEqDiff, Nat.reduceBEq, Nat.reduceAdd, Nat.reduceMul, Nat.reduceSub, Nat.reduceLeDiff, Nat.reduceLT, reduceIte, reduceCtorEq, Int.reduceToNat, Int.reduceLE, Int.reduceLT, Int.reduceNeg, Bool.not_not, and_self, Bool.and_eq_false_iff, Int.cast_ofNat_Int, Int.reduceAdd, Int.reduceSub, Int.reduceMul, Int.reduceEq, Int.reduceNe]) rfl (fn9 bs hb) (.inl rfl) trivial ?_
  simp only [go_sem, Nat.reduceEqDiff, Nat.reduceBEq, Nat.reduceAdd, Nat.reduceMul, Nat.reduceSub, Nat.reduceLeDiff, Nat.reduceLT, reduceIte, reduceCtorEq, Int.reduceToNat, Int.reduceLE, Int.reduceLT, Int.reduceNeg, Bool.not_not, and_self, Bool.and_eq_false_iff, Int.cast_ofNat_Int, Int.reduceAdd, Int.reduceSub, Int.reduceMul, Int.reduceEq, Int.reduceNe]
  refine runR_callf (by simp only [go_sem, Nat.reduceEqDiff, Nat.reduceBEq, Nat.reduceAdd, Nat.reduceMul, Nat.reduceSub, Nat.reduceLeDiff, Nat.reduceLT, reduceIte, reduceCtorEq, Int.reduceToNat, Int.reduceLE, Int.reduceLT, Int.reduceNeg, Bool.not_not, and_self, Bool.and_eq_false_iff, Int.cast_ofNat_Int, Int.reduceAdd, Int.reduceSub, Int.reduceMul, Int.reduceEq, Int.reduceNe]) (by simp only [go_sem, Nat.reduceEqDiff, Nat.reduceBEq, Nat.reduceAdd, Nat.reduceMul, Nat.reduceSub, Nat.reduceLeDiff, Nat.reduceLT, reduceIte, reduceCtorEq, Int.reduceToNat, Int.reduceLE, Int.reduceLT, Int.reduceNeg, Bool.not_not, and_self, Bool.and_eq_false_iff, Int.cast_ofNat_Int, Int.reduceAdd, Int.reduceSub, Int.reduceMul, Int.reduceEq, Int.reduceNe] <;> rfl) (fn10 t) ⟨rfl, trivial⟩ trivial ?_
  simp only [go_sem, Nat.reduceEqDiff, Nat.reduceBEq, Nat.reduceAdd, Nat.reduceMul, Nat.reduceSub, Nat.reduceLeDiff, Nat.reduceLT, reduceIte, reduceCtorEq, Int.reduceToNat, Int.reduceLE, Int.reduceLT, Int.reduceNeg, Bool.not_not, and_self, Bool.and_eq_false_iff, Int.cast_ofNat_Int, Int.reduceAdd, Int.reduceSub, Int.reduceMul, Int.reduceEq, Int.reduceNe]
  have hl := globsS_len bs
  have hts : (fewS t).size ≤ 1000 := by have := fewS_size t; omega
  have hsz : ∀ b ∈ globsS bs, b.size ≤ 1000 := fun b hb => by have := globsS_size hb; omega
  generalize globsS bs = gl at hl hsz
  generalize fewS t = q at hts
  refine runR_call (by simp only [go_sem, Nat.reduceEqDiff, Nat.reduceBEq, Nat.reduceAdd, Nat.reduceMul, Nat.reduceSub, Nat.reduceLeDiff, Nat.reduceLT, reduceIte, reduceCtorEq, Int.reduceToNat, Int.reduceLE, Int.reduceLT, Int.reduceNeg, Bool.not_not, and_self, Bool.and_eq_false_iff, Int.cast_ofNat_Int, Int.reduceAdd, Int.reduceSub, Int.reduceMul, Int.reduceEq, Int.reduceNe]) rfl (fn11 gl (by omega) hsz) (.inl rfl) trivial ?_
  cases hgd : goodB gl with
  | false =>
    simp only [go_sem, Nat.reduceEqDiff, Nat.reduceBEq, Nat.reduceAdd, Nat.reduceMul, Nat.reduceSub, Nat.reduceLeDiff, Nat.reduceLT, reduceIte, reduceCtorEq, Int.reduceToNat, Int.reduceLE, Int.reduceLT, Int.reduceNeg, Bool.not_not, and_self, Bool.and_eq_false_iff, Int.cast_ofNat_Int, Int.reduceAdd, Int.reduceSub, Int.reduceMul, Int.reduceEq, Int.reduceNe]
    refine runR_callgf (by simp only [go_sem, Nat.reduceEqDiff, Nat.reduceBEq, Nat.reduceAdd, Nat.reduceMul, Nat.reduceSub, Nat.reduceLeDiff, Nat.reduceLT, reduceIte, reduceCtorEq, Int.reduceToNat, Int.reduceLE, Int.reduceLT, Int.reduceNeg, Bool.not_not, and_self, Bool.and_eq_false_iff, Int.cast_ofNat_Int, Int.reduceAdd, Int.reduceSub, Int.reduceMul, Int.reduceEq, Int.reduceNe]) (by simp only [go_sem, Nat.reduceEqDiff, Nat.reduceBEq, Nat.reduceAdd, Nat.reduceMul, Nat.reduceSub, Nat.reduceLeDiff, Nat.reduceLT, reduceIte, reduceCtorEq, Int.reduceToNat, Int.reduceLE, Int.reduceLT, Int.reduceNeg, Bool.not_not, and_self, Bool.and_eq_false_iff, Int.cast_ofNat_Int, Int.reduceAdd, Int.reduceSub, Int.reduceMul, Int.reduceEq, Int.reduceNe]) (by simp only [go_sem, Nat.reduceEqDiff, Nat.reduceBEq, Nat.reduceAdd, Nat.reduceMul, Nat.reduceSub, Nat.reduceLeDiff, Nat.reduceLT, reduceIte, reduceCtorEq, Int.reduceToNat, Int.reduceLE, Int.reduceLT, Int.reduceNeg, Bool.not_not, and_self, Bool.and_eq_false_iff, Int.cast_ofNat_Int, Int.reduceAdd, Int.reduceSub, Int.reduceMul, Int.reduceEq, Int.reduceNe] <;> rfl) (fun _ => fn23 q hts) rfl ?_
    simp only [go_sem, Nat.reduceEqDiff, Nat.reduceBEq, Nat.reduceAdd, Nat.reduceMul, Nat.reduceSub, Nat.reduceLeDiff, Nat.reduceLT, reduceIte, reduceCtorEq, Int.reduceToNat, Int.reduceLE, Int.reduceLT, Int.reduceNeg, Bool.not_not, and_self, Bool.and_eq_false_iff, Int.cast_ofNat_Int, Int.reduceAdd, Int.reduceSub, Int.reduceMul, Int.reduceEq, Int.reduceNe]
    refine runR_callf (by simp only [go_sem, Nat.reduceEqDiff, Nat.reduceBEq, Nat.reduceAdd, Nat.reduceMul, Nat.reduceSub, Nat.reduceLeDiff, Nat.reduceLT, reduceIte, reduceCtorEq, Int.reduceToNat, Int.reduceLE, Int.reduceLT, Int.reduceNeg, Bool.not_not, and_self, Bool.and_eq_false_iff, Int.cast_ofNat_Int, Int.reduceAdd, Int.reduceSub, Int.reduceMul, Int.reduceEq, Int.reduceNe]) (by simp only [go_sem, Nat.reduceEqDiff, Nat.reduceBEq, Nat.reduceAdd, Nat.reduceMul, Nat.reduceSub, Nat.reduceLeDiff, Nat.reduceLT, reduceIte, reduceCtorEq, Int.reduceToNat, Int.reduceLE, Int.reduceLT, Int.reduceNeg, Bool.not_not, and_self, Bool.and_eq_false_iff, Int.cast_ofNat_Int, Int.reduceAdd, Int.reduceSub, Int.reduceMul, Int.reduceEq, Int.reduceNe] <;> rfl) (fn15) ⟨rfl, trivial⟩ trivial ?_
    simp only [go_sem, Nat.reduceEqDiff, Nat.reduceBEq, Nat.reduceAdd, Nat.reduceMul, Nat.reduceSub, Nat.reduceLeDiff, Nat.reduceLT, reduceIte, reduceCtorEq, Int.reduceToNat, Int.reduceLE, Int.reduceLT, Int.reduceNeg, Bool.not_not, and_self, Bool.and_eq_false_iff, Int.cast_ofNat_Int, Int.reduceAdd, Int.reduceSub, Int.reduceMul, Int.reduceEq, Int.reduceNe]
  | true =>
    have hgo := gsOk hgd
    have hbr : buildR gl = nfaOf (gl.map cutS) := by unfold buildR; rw [hgd]; rfl
    simp only [go_sem, Nat.reduceEqDiff, Nat.reduceBEq, Nat.reduceAdd, Nat.reduceMul, Nat.reduceSub, Nat.reduceLeDiff, Nat.reduceLT, reduceIte, reduceCtorEq, Int.reduceToNat, Int.reduceLE, Int.reduceLT, Int.reduceNeg, Bool.not_not, and_self, Bool.and_eq_false_iff, Int.cast_ofNat_Int, Int.reduceAdd, Int.reduceSub, Int.reduceMul, Int.reduceEq, Int.reduceNe]
    refine runR_callgf (by simp only [go_sem, Nat.reduceEqDiff, Nat.reduceBEq, Nat.reduceAdd, Nat.reduceMul, Nat.reduceSub, Nat.reduceLeDiff, Nat.reduceLT, reduceIte, reduceCtorEq, Int.reduceToNat, Int.reduceLE, Int.reduceLT, Int.reduceNeg, Bool.not_not, and_self, Bool.and_eq_false_iff, Int.cast_ofNat_Int, Int.reduceAdd, Int.reduceSub, Int.reduceMul, Int.reduceEq, Int.reduceNe]) (by simp only [go_sem, Nat.reduceEqDiff, Nat.reduceBEq, Nat.reduceAdd, Nat.reduceMul, Nat.reduceSub, Nat.reduceLeDiff, Nat.reduceLT, reduceIte, reduceCtorEq, Int.reduceToNat, Int.reduceLE, Int.reduceLT, Int.reduceNeg, Bool.not_not, and_self, Bool.and_eq_false_iff, Int.cast_ofNat_Int, Int.reduceAdd, Int.reduceSub, Int.reduceMul, Int.reduceEq, Int.reduceNe]) (by simp only [go_sem, Nat.reduceEqDiff, Nat.reduceBEq, Nat.reduceAdd, Nat.reduceMul, Nat.reduceSub, Nat.reduceLeDiff, Nat.reduceLT, reduceIte, reduceCtorEq, Int.reduceToNat, Int.reduceLE, Int.reduceLT, Int.reduceNeg, Bool.not_not, and_self, Bool.and_eq_false_iff, Int.cast_ofNat_Int, Int.reduceAdd, Int.reduceSub, Int.reduceMul, Int.reduceEq, Int.reduceNe] <;> rfl) (fun _ => fn23 q hts) rfl ?_
    cases htp : topicB q with
    | false =>
      simp only [go_sem, Nat.reduceEqDiff, Nat.reduceBEq, Nat.reduceAdd, Nat.reduceMul, Nat.reduceSub, Nat.reduceLeDiff, Nat.reduceLT, reduceIte, reduceCtorEq, Int.reduceToNat, Int.reduceLE, Int.reduceLT, Int.reduceNeg, Bool.not_not, and_self, Bool.and_eq_false_iff, Int.cast_ofNat_Int, Int.reduceAdd, Int.reduceSub, Int.reduceMul, Int.reduceEq, Int.reduceNe]
      refine runR_callf (by simp only [go_sem, Nat.reduceEqDiff, Nat.reduceBEq, Nat.reduceAdd, Nat.reduceMul, Nat.reduceSub, Nat.reduceLeDiff, Nat.reduceLT, reduceIte, reduceCtorEq, Int.reduceToNat, Int.reduceLE, Int.reduceLT, Int.reduceNeg, Bool.not_not, and_self, Bool.and_eq_false_iff, Int.cast_ofNat_Int, Int.reduceAdd, Int.reduceSub, Int.reduceMul, Int.reduceEq, Int.reduceNe]) (by simp only [go_sem, Nat.reduceEqDiff, Nat.reduceBEq, Nat.reduceAdd, Nat.reduceMul, Nat.reduceSub, Nat.reduceLeDiff, Nat.reduceLT, reduceIte, reduceCtorEq, Int.reduceToNat, Int.reduceLE, Int.reduceLT, Int.reduceNeg, Bool.not_not, and_self, Bool.and_eq_false_iff, Int.cast_ofNat_Int, Int.reduceAdd, Int.reduceSub, Int.reduceMul, Int.reduceEq, Int.reduceNe] <;> rfl) (fn15) ⟨rfl, trivial⟩ trivial ?_
      simp only [go_sem, Nat.reduceEqDiff, Nat.reduceBEq, Nat.reduceAdd, Nat.reduceMul, Nat.reduceSub, Nat.reduceLeDiff, Nat.reduceLT, reduceIte, reduceCtorEq, Int.reduceToNat, Int.reduceLE, Int.reduceLT, Int.reduceNeg, Bool.not_not, and_self, Bool.and_eq_false_iff, Int.cast_ofNat_Int, Int.reduceAdd, Int.reduceSub, Int.reduceMul, Int.reduceEq, Int.reduceNe]
    | true =>
      simp only [go_sem, Nat.reduceEqDiff, Nat.reduceBEq, Nat.reduceAdd, Nat.reduceMul, Nat.reduceSub, Nat.reduceLeDiff, Nat.reduceLT, reduceIte, reduceCtorEq, Int.reduceToNat, Int.reduceLE, Int.reduceLT, Int.reduceNeg, Bool.not_not, and_self, Bool.and_eq_false_iff, Int.cast_ofNat_Int, Int.reduceAdd, Int.reduceSub, Int.reduceMul, Int.reduceEq, Int.reduceNe]
      rw [hbr]
      have r21 := fn21 (gl.map cutS) q hgo hts
      rw [htp] at r21
      simp only [if_true] at r21
      generalize gl.map cutS = gs at hgo r21
      have hg := good_nfa gs
      have hnz := hgo.size
      have hwl : ∀ s, ((nfaOf gs).ways.getD s []).length ≤ 200 := fun s => by have := hgo.ways s; omega
      have hris : RisB (nfaOf gs).signs := signsOf_ris gs
      have hsg : (nfaOf gs).signs.length ≤ 160 := hgo.signs
      have hln := hgo.n
      have hbeg : (nfaOf gs).beg = (List.range gs.length).map (base gs) := rfl
      have hwy : (nfaOf gs).ways.length = base gs gs.length := size_nfa
      have hpl := partsB_len q
      have hwr := fun T => wantW_res gs T
      have hwrs := fun T => walkN_ris (nfaOf gs) T
      have hwlen := fun T => walkN_len (nfaOf gs) T
      have hrl := fun T => resN_len gs T
      have hbl : (nfaOf gs).beg.length = gs.length := by simp [hbeg]
      have r17 := fn17 (nfaOf gs) (begI (nfaOf gs)) hg (by omega) (fun s => by have := hwl s; omega) (by simp [begI, toI]; omega)
      refine runR_call (by simp only [go_sem, Nat.reduceEqDiff, Nat.reduceBEq, Nat.reduceAdd, Nat.reduceMul, Nat.reduceSub, Nat.reduceLeDiff, Nat.reduceLT, reduceIte, reduceCtorEq, Int.reduceToNat, Int.reduceLE, Int.reduceLT, Int.reduceNeg, Bool.not_not, and_self, Bool.and_eq_false_iff, Int.cast_ofNat_Int, Int.reduceAdd, Int.reduceSub, Int.reduceMul, Int.reduceEq, Int.reduceNe]) rfl (r17) (.inl rfl) trivial ?_
      simp only [go_sem, Nat.reduceEqDiff, Nat.reduceBEq, Nat.reduceAdd, Nat.reduceMul, Nat.reduceSub, Nat.reduceLeDiff, Nat.reduceLT, reduceIte, reduceCtorEq, Int.reduceToNat, Int.reduceLE, Int.reduceLT, Int.reduceNeg, Bool.not_not, and_self, Bool.and_eq_false_iff, Int.cast_ofNat_Int, Int.reduceAdd, Int.reduceSub, Int.reduceMul, Int.reduceEq, Int.reduceNe]
      refine runR_call (by simp only [go_sem, Nat.reduceEqDiff, Nat.reduceBEq, Nat.reduceAdd, Nat.reduceMul, Nat.reduceSub, Nat.reduceLeDiff, Nat.reduceLT, reduceIte, reduceCtorEq, Int.reduceToNat, Int.reduceLE, Int.reduceLT, Int.reduceNeg, Bool.not_not, and_self, Bool.and_eq_false_iff, Int.cast_ofNat_Int, Int.reduceAdd, Int.reduceSub, Int.reduceMul, Int.reduceEq, Int.reduceNe]) rfl (fn24 q hts) (.inl rfl) trivial ?_
      generalize nfaOf gs = n at *
      generalize partsB q = T at *
      simp only [go_sem, Nat.reduceEqDiff, Nat.reduceBEq, Nat.reduceAdd, Nat.reduceMul, Nat.reduceSub, Nat.reduceLeDiff, Nat.reduceLT, reduceIte, reduceCtorEq, Int.reduceToNat, Int.reduceLE, Int.reduceLT, Int.reduceNeg, Bool.not_not, and_self, Bool.and_eq_false_iff, Int.cast_ofNat_Int, Int.reduceAdd, Int.reduceSub, Int.reduceMul, Int.reduceEq, Int.reduceNe]
      refine run_loopN (T := Nat) [1, 5, 7, 8, 9] [5] (fun k => ⟨[(1, .pv (pS q)), (5, .ptr 5 0), (7, .pv (pNs (walkN n (T.take k)))), (8, .pv (ss T)), (9, .pv (pI k))], [(5, .box (nBox n))]⟩) (fun k => k ≤ T.length) (fun k => T.length - k) 0 ?_ (Nat.zero_le _) ?_
      · simp only [go_sem, Nat.reduceEqDiff, Nat.reduceBEq, Nat.reduceAdd, Nat.reduceMul, Nat.reduceSub, Nat.reduceLeDiff, Nat.reduceLT, reduceIte, reduceCtorEq, Int.reduceToNat, Int.reduceLE, Int.reduceLT, Int.reduceNeg, Bool.not_not, and_self, Bool.and_eq_false_iff, Int.cast_ofNat_Int, Int.reduceAdd, Int.reduceSub, Int.reduceMul, Int.reduceEq, Int.reduceNe]
        rfl
      intro k hk
      by_cases hkk : k < T.length
      · simp only [go_sem, Nat.reduceEqDiff, Nat.reduceBEq, Nat.reduceAdd, Nat.reduceMul, Nat.reduceSub, Nat.reduceLeDiff, Nat.reduceLT, reduceIte, reduceCtorEq, Int.reduceToNat, Int.reduceLE, Int.reduceLT, Int.reduceNeg, Bool.not_not, and_self, Bool.and_eq_false_iff, Int.cast_ofNat_Int, Int.reduceAdd, Int.reduceSub, Int.reduceMul, Int.reduceEq, Int.reduceNe, B8_0, show (k : Int) < (T.length : Int) by omega, wf_ss, getD_map hkk]
        refine runR_callf (by simp only [go_sem, Nat.reduceEqDiff, Nat.reduceBEq, Nat.reduceAdd, Nat.reduceMul, Nat.reduceSub, Nat.reduceLeDiff, Nat.reduceLT, reduceIte, reduceCtorEq, Int.reduceToNat, Int.reduceLE, Int.reduceLT, Int.reduceNeg, Bool.not_not, and_self, Bool.and_eq_false_iff, Int.cast_ofNat_Int, Int.reduceAdd, Int.reduceSub, Int.reduceMul, Int.reduceEq, Int.reduceNe]) (by simp only [go_sem, Nat.reduceEqDiff, Nat.reduceBEq, Nat.reduceAdd, Nat.reduceMul, Nat.reduceSub, Nat.reduceLeDiff, Nat.reduceLT, reduceIte, reduceCtorEq, Int.reduceToNat, Int.reduceLE, Int.reduceLT, Int.reduceNeg, Bool.not_not, and_self, Bool.and_eq_false_iff, Int.cast_ofNat_Int, Int.reduceAdd, Int.reduceSub, Int.reduceMul, Int.reduceEq, Int.reduceNe] <;> rfl) (fn14 n.signs (.lst (n.ways.map pWs)) (.lst (n.done.map pNs)) (pNs n.beg) T[k] hris (by omega)) ⟨rfl, trivial⟩ trivial ?_
        simp only [go_sem, Nat.reduceEqDiff, Nat.reduceBEq, Nat.reduceAdd, Nat.reduceMul, Nat.reduceSub, Nat.reduceLeDiff, Nat.reduceLT, reduceIte, reduceCtorEq, Int.reduceToNat, Int.reduceLE, Int.reduceLT, Int.reduceNeg, Bool.not_not, and_self, Bool.and_eq_false_iff, Int.cast_ofNat_Int, Int.reduceAdd, Int.reduceSub, Int.reduceMul, Int.reduceEq, Int.reduceNe]
        have hll := walkN_len n (T.take k)
        refine runR_call (by simp only [go_sem, Nat.reduceEqDiff, Nat.reduceBEq, Nat.reduceAdd, Nat.reduceMul, Nat.reduceSub, Nat.reduceLeDiff, Nat.reduceLT, reduceIte, reduceCtorEq, Int.reduceToNat, Int.reduceLE, Int.reduceLT, Int.reduceNeg, Bool.not_not, and_self, Bool.and_eq_false_iff, Int.cast_ofNat_Int, Int.reduceAdd, Int.reduceSub, Int.reduceMul, Int.reduceEq, Int.reduceNe]) rfl (fn19 n (toI (walkN n (T.take k))) (letterN n.signs T[k]) hg (by omega) hwl (by simp [toI]; omega)) (.inl rfl) trivial ?_
        simp only [go_sem, Nat.reduceEqDiff, Nat.reduceBEq, Nat.reduceAdd, Nat.reduceMul, Nat.reduceSub, Nat.reduceLeDiff, Nat.reduceLT, reduceIte, reduceCtorEq, Int.reduceToNat, Int.reduceLE, Int.reduceLT, Int.reduceNeg, Bool.not_not, and_self, Bool.and_eq_false_iff, Int.cast_ofNat_Int, Int.reduceAdd, Int.reduceSub, Int.reduceMul, Int.reduceEq, Int.reduceNe]
        refine ⟨⟨by omega, by omega⟩, k + 1, ?_, hkk, by omega⟩
        rw [List.take_succ_eq_append_getElem hkk, walkN_snoc]; rfl
      · have hke : k = T.length := by omega
        subst hke
        simp only [go_sem, Nat.reduceEqDiff, Nat.reduceBEq, Nat.reduceAdd, Nat.reduceMul, Nat.reduceSub, Nat.reduceLeDiff, Nat.reduceLT, reduceIte, reduceCtorEq, Int.reduceToNat, Int.reduceLE, Int.reduceLT, Int.reduceNeg, Bool.not_not, and_self, Bool.and_eq_false_iff, Int.cast_ofNat_Int, Int.reduceAdd, Int.reduceSub, Int.reduceMul, Int.reduceEq, Int.reduceNe, B8_0, R8_0, show ¬ (T.length : Int) < (T.length : Int) by omega, List.take_length]
        have hAr := hwrs T
        have hAl := hwlen T
        have hWr := hwr T
        have hRl := hrl T
        generalize walkN n T = A at hAr hAl hWr
        generalize resN gs T = Rs at hWr hRl r21
        refine run_loopN (T := Nat) [1, 5, 7, 10, 11] [5, 53] (fun i => ⟨[(1, .pv (pS q)), (5, .ptr 5 0), (7, .pv (pNs A)), (10, .mp 53), (11, .pv (pI i))], [(5, .box (nBox n)), (53, .mp ((A.take i).map enB))]⟩) (fun i => i ≤ A.length) (fun i => A.length - i) 0 ?_ (Nat.zero_le _) ?_
        · simp only [go_sem, Nat.reduceEqDiff, Nat.reduceBEq, Nat.reduceAdd, Nat.reduceMul, Nat.reduceSub, Nat.reduceLeDiff, Nat.reduceLT, reduceIte, reduceCtorEq, Int.reduceToNat, Int.reduceLE, Int.reduceLT, Int.reduceNeg, Bool.not_not, and_self, Bool.and_eq_false_iff, Int.cast_ofNat_Int, Int.reduceAdd, Int.reduceSub, Int.reduceMul, Int.reduceEq, Int.reduceNe]
        intro i hi
        have hnd : A.Nodup := hAr.imp fun h => by omega
        by_cases hin : i < A.length
        · have hiI : (toI A)[i]'(by simp [toI]; exact hin) = (A[i] : Int) := by simp [toI]
          have hnew : A[i] ∉ A.take i := fun hm => by
            obtain ⟨j, hj, he⟩ := List.mem_iff_getElem.1 hm
            have hj' : j < i := by simp at hj; omega
            rw [List.getElem_take] at he
            have := List.pairwise_iff_getElem.1 hAr j i (by omega) hin hj'
            omega
          simp only [go_sem, Nat.reduceEqDiff, Nat.reduceBEq, Nat.reduceAdd, Nat.reduceMul, Nat.reduceSub, Nat.reduceLeDiff, Nat.reduceLT, reduceIte, reduceCtorEq, Int.reduceToNat, Int.reduceLE, Int.reduceLT, Int.reduceNeg, Bool.not_not, and_self, Bool.and_eq_false_iff, Int.cast_ofNat_Int, Int.reduceAdd, Int.reduceSub, Int.reduceMul, Int.reduceEq, Int.reduceNe, B8_1, show (i : Int) < (A.length : Int) by omega, show (toI A).length = A.length by simp [toI], wf_ints, getD_map (show i < (toI A).length by simp [toI]; exact hin), hiI, mput_B _ hnew, like_B]
          refine ⟨⟨by omega, by omega⟩, i + 1, ?_, hin, by omega⟩
          rw [List.take_succ_eq_append_getElem hin]; rfl
        · have hie : i = A.length := by omega
          subst hie
          simp only [go_sem, Nat.reduceEqDiff, Nat.reduceBEq, Nat.reduceAdd, Nat.reduceMul, Nat.reduceSub, Nat.reduceLeDiff, Nat.reduceLT, reduceIte, reduceCtorEq, Int.reduceToNat, Int.reduceLE, Int.reduceLT, Int.reduceNeg, Bool.not_not, and_self, Bool.and_eq_false_iff, Int.cast_ofNat_Int, Int.reduceAdd, Int.reduceSub, Int.reduceMul, Int.reduceEq, Int.reduceNe, B8_1, R8_1, show ¬ (A.length : Int) < (A.length : Int) by omega, show (toI A).length = A.length by simp [toI], List.take_length]
          clear hi hin hnd
          have keyW : ∀ i, List.take (wantW gs A i).length ((toI (wantW gs A i)).map fun n => pI n) = (toI (wantW gs A i)).map fun n => pI n := fun i => List.take_of_length_le (by simp [toI])
          refine run_loopG (T := Nat) (fun i => if i = gs.length then [(2012, 2012, 0)] else []) [1, 5, 10, 12, 13] [5, 53, 2012]
            (fun i => if i = gs.length then ⟨[(1, .pv (pS q)), (5, .ptr 5 0), (10, .mp 53), (12, .pv (pNs (wantW gs A i))), (13, .pv (pI i))], [(5, .box (nBox n)), (53, .mp (A.map enB))]⟩
              else ⟨[(1, .pv (pS q)), (5, .ptr 5 0), (10, .mp 53), (12, .row 2012 0 (wantW gs A i).length), (13, .pv (pI i))], [(5, .box (nBox n)), (53, .mp (A.map enB)), (2012, .sl 1 ((toI (wantW gs A i)).map fun n => pI n))]⟩) (fun i => i ≤ gs.length) (fun i => gs.length - i) 0 ?_ (Nat.zero_le _) ?_
          · have hz : wantW gs A 0 = [] := by simp [wantW]
            by_cases h9 : 0 = gs.length
            · simp only [go_sem, Nat.reduceEqDiff, Nat.reduceBEq, Nat.reduceAdd, Nat.reduceMul, Nat.reduceSub, Nat.reduceLeDiff, Nat.reduceLT, reduceIte, reduceCtorEq, Int.reduceToNat, Int.reduceLE, Int.reduceLT, Int.reduceNeg, Bool.not_not, and_self, Bool.and_eq_false_iff, Int.cast_ofNat_Int, Int.reduceAdd, Int.reduceSub, Int.reduceMul, Int.reduceEq, Int.reduceNe, h9, hz]
              rw [← h9, hz]; rfl
            · simp only [go_sem, Nat.reduceEqDiff, Nat.reduceBEq, Nat.reduceAdd, Nat.reduceMul, Nat.reduceSub, Nat.reduceLeDiff, Nat.reduceLT, reduceIte, reduceCtorEq, Int.reduceToNat, Int.reduceLE, Int.reduceLT, Int.reduceNeg, Bool.not_not, and_self, Bool.and_eq_false_iff, Int.cast_ofNat_Int, Int.reduceAdd, Int.reduceSub, Int.reduceMul, Int.reduceEq, Int.reduceNe, h9, hz]
              rfl
          intro i hi
          by_cases hin : i < gs.length
          · rw [if_neg (show ¬ i = gs.length by omega)]
            have tk := keyW i
            have hwl := wantW_len gs A i
            have hsc := wantW_succ gs A i
            have hlast : ∀ v : Int, v = (lastN gs i : Int) → lkp (pI v) (A.map enB) = if lastN gs i ∈ A then some (pB true) else none := fun v hv => by rw [hv]; exact lkp_B _ _
            have hls : lastN gs i + 1 = base gs (i + 1) := by
              rw [base_succ hin]; unfold lastN; simp [List.getD_eq_getElem?_getD, hin]; omega
            have hbm := base_mono (gs := gs) (i := i) (j := gs.length) hin (Nat.le_refl _)
            have hsz9 : base gs gs.length ≤ 180 := by unfold NF.size at hnz; omega
            have hsi : (i : Int) + 1 = ((i + 1 : Nat) : Int) := by omega
            have hky := keyW (i + 1)
            have nxt : ∀ (L : Nat) (X : List PV), L = (wantW gs A (i + 1)).length → X = (toI (wantW gs A (i + 1))).map (fun n => pI n) → ∃ t', GH (if t' = gs.length then [(2012, 2012, 0)] else []) [1, 5, 10, 12, 13] [5, 53, 2012]
                ⟨[(1, .pv (pS q)), (5, .ptr 5 0), (10, .mp 53), (12, .row 2012 0 L), (13, .pv (pI ((i : Int) + 1)))], [(5, .box (nBox n)), (53, .mp (A.map enB)), (2012, .sl 1 X)]⟩
                (if t' = gs.length then ⟨[(1, .pv (pS q)), (5, .ptr 5 0), (10, .mp 53), (12, .pv (pNs (wantW gs A t'))), (13, .pv (pI t'))], [(5, .box (nBox n)), (53, .mp (A.map enB))]⟩
                  else ⟨[(1, .pv (pS q)), (5, .ptr 5 0), (10, .mp 53), (12, .row 2012 0 (wantW gs A t').length), (13, .pv (pI t'))], [(5, .box (nBox n)), (53, .mp (A.map enB)), (2012, .sl 1 ((toI (wantW gs A t')).map fun n => pI n))]⟩) ∧ t' ≤ gs.length ∧ gs.length - t' < gs.length - i := by
              rintro _ _ rfl rfl
              refine ⟨i + 1, ?_, hin, by omega⟩
              unfold GH
              by_cases h9 : i + 1 = gs.length
              · simp only [go_sem, Nat.reduceEqDiff, Nat.reduceBEq, Nat.reduceAdd, Nat.reduceMul, Nat.reduceSub, Nat.reduceLeDiff, Nat.reduceLT, reduceIte, reduceCtorEq, Int.reduceToNat, Int.reduceLE, Int.reduceLT, Int.reduceNeg, Bool.not_not, and_self, Bool.and_eq_false_iff, Int.cast_ofNat_Int, Int.reduceAdd, Int.reduceSub, Int.reduceMul, Int.reduceEq, Int.reduceNe, h9]
                rw [h9] at hky hsi
                rw [hky, hsi]
              · simp only [go_sem, Nat.reduceEqDiff, Nat.reduceBEq, Nat.reduceAdd, Nat.reduceMul, Nat.reduceSub, Nat.reduceLeDiff, Nat.reduceLT, reduceIte, reduceCtorEq, Int.reduceToNat, Int.reduceLE, Int.reduceLT, Int.reduceNeg, Bool.not_not, and_self, Bool.and_eq_false_iff, Int.cast_ofNat_Int, Int.reduceAdd, Int.reduceSub, Int.reduceMul, Int.reduceEq, Int.reduceNe, h9]
                rw [hsi]
            have hle : lkp (pI (lastN gs i : Int)) (A.map enB) = if lastN gs i ∈ A then some (pB true) else none := hlast _ rfl
            by_cases hn1 : i + 1 < gs.length
            · have hbI : ((toI n.beg).map fun n => pI n).getD ((i : Int) + 1).toNat default = pI ((base gs (i + 1) : Nat) : Int) := by
                rw [show ((i : Int) + 1).toNat = i + 1 by omega]; simp [toI, hbeg, List.getD_eq_getElem?_getD, hn1]
              have hlk := hlast (((base gs (i + 1) : Nat) : Int) - 1) (by omega)
              have hbl2 : base gs (i + 1) ≤ 180 := by
                have := base_mono (gs := gs) (i := i + 1) (j := gs.length) hn1 (Nat.le_refl _)
                omega
              by_cases hin2 : lastN gs i ∈ A
              · rw [if_pos hin2] at hlk hsc
                simp only [go_sem, Nat.reduceEqDiff, Nat.reduceBEq, Nat.reduceAdd, Nat.reduceMul, Nat.reduceSub, Nat.reduceLeDiff, Nat.reduceLT, reduceIte, reduceCtorEq, Int.reduceToNat, Int.reduceLE, Int.reduceLT, Int.reduceNeg, Bool.not_not, and_self, Bool.and_eq_false_iff, Int.cast_ofNat_Int, Int.reduceAdd, Int.reduceSub, Int.reduceMul, Int.reduceEq, Int.reduceNe, B8_2, hbl, show (i : Int) < (gs.length : Int) by omega, show ((i : Int) + 1) < (gs.length : Int) by omega, show (toI n.beg).length = gs.length by simp [toI, hbl], hbI, hlk, like_B, tk]
                refine ⟨⟨by omega, by omega⟩, ⟨by omega, by omega⟩, ⟨by omega, by omega⟩, ⟨by omega, wf_ints _⟩, ⟨by omega, by omega⟩, ⟨wf_ints [(i : Int)], by omega, by omega⟩, ⟨by omega, by omega⟩, ?_⟩
                exact nxt _ _ (by rw [hsc]; simp) (by rw [hsc, toI_app, List.map_append]; rfl)
              · rw [if_neg hin2, List.append_nil] at hsc
                rw [if_neg hin2] at hlk
                simp only [go_sem, Nat.reduceEqDiff, Nat.reduceBEq, Nat.reduceAdd, Nat.reduceMul, Nat.reduceSub, Nat.reduceLeDiff, Nat.reduceLT, reduceIte, reduceCtorEq, Int.reduceToNat, Int.reduceLE, Int.reduceLT, Int.reduceNeg, Bool.not_not, and_self, Bool.and_eq_false_iff, Int.cast_ofNat_Int, Int.reduceAdd, Int.reduceSub, Int.reduceMul, Int.reduceEq, Int.reduceNe, B8_2, hbl, show (i : Int) < (gs.length : Int) by omega, show ((i : Int) + 1) < (gs.length : Int) by omega, show (toI n.beg).length = gs.length by simp [toI, hbl], hbI, hlk, like_B, tk]
                refine ⟨⟨by omega, by omega⟩, ⟨by omega, by omega⟩, ⟨by omega, by omega⟩, ⟨by omega, wf_ints _⟩, ⟨by omega, by omega⟩, ⟨by omega, by omega⟩, ?_⟩
                exact nxt _ _ (by rw [hsc]) (by rw [hsc])
            · have hie : i + 1 = gs.length := by omega
              have hlk := hlast ((n.ways.length : Int) - 1) (by rw [hwy, ← hie]; omega)
              by_cases hin2 : lastN gs i ∈ A
              · rw [if_pos hin2] at hlk hsc
                simp only [go_sem, Nat.reduceEqDiff, Nat.reduceBEq, Nat.reduceAdd, Nat.reduceMul, Nat.reduceSub, Nat.reduceLeDiff, Nat.reduceLT, reduceIte, reduceCtorEq, Int.reduceToNat, Int.reduceLE, Int.reduceLT, Int.reduceNeg, Bool.not_not, and_self, Bool.and_eq_false_iff, Int.cast_ofNat_Int, Int.reduceAdd, Int.reduceSub, Int.reduceMul, Int.reduceEq, Int.reduceNe, B8_2, hbl, show (i : Int) < (gs.length : Int) by omega, show ¬ ((i : Int) + 1) < (gs.length : Int) by omega, show (toI n.beg).length = gs.length by simp [toI, hbl], hlk, like_B, tk]
                refine ⟨⟨by omega, by omega⟩, ⟨by omega, by omega⟩, ⟨wf_ints [(i : Int)], by omega, by omega⟩, ⟨by omega, by omega⟩, ?_⟩
                exact nxt _ _ (by rw [hsc]; simp) (by rw [hsc, toI_app, List.map_append]; rfl)
              · rw [if_neg hin2, List.append_nil] at hsc
                rw [if_neg hin2] at hlk
                simp only [go_sem, Nat.reduceEqDiff, Nat.reduceBEq, Nat.reduceAdd, Nat.reduceMul, Nat.reduceSub, Nat.reduceLeDiff, Nat.reduceLT, reduceIte, reduceCtorEq, Int.reduceToNat, Int.reduceLE, Int.reduceLT, Int.reduceNeg, Bool.not_not, and_self, Bool.and_eq_false_iff, Int.cast_ofNat_Int, Int.reduceAdd, Int.reduceSub, Int.reduceMul, Int.reduceEq, Int.reduceNe, B8_2, hbl, show (i : Int) < (gs.length : Int) by omega, show ¬ ((i : Int) + 1) < (gs.length : Int) by omega, show (toI n.beg).length = gs.length by simp [toI, hbl], hlk, like_B, tk]
                refine ⟨⟨by omega, by omega⟩, ⟨by omega, by omega⟩, ⟨by omega, by omega⟩, ?_⟩
                exact nxt _ _ (by rw [hsc]) (by rw [hsc])
          · have hie : i = gs.length := by omega
            subst hie
            rw [if_pos rfl, hWr]
            simp only [go_sem, Nat.reduceEqDiff, Nat.reduceBEq, Nat.reduceAdd, Nat.reduceMul, Nat.reduceSub, Nat.reduceLeDiff, Nat.reduceLT, reduceIte, reduceCtorEq, Int.reduceToNat, Int.reduceLE, Int.reduceLT, Int.reduceNeg, Bool.not_not, and_self, Bool.and_eq_false_iff, Int.cast_ofNat_Int, Int.reduceAdd, Int.reduceSub, Int.reduceMul, Int.reduceEq, Int.reduceNe, B8_2, R8_2, hbl, show (toI n.beg).length = gs.length by simp [toI, hbl], show ¬ (gs.length : Int) < (gs.length : Int) by omega]
            refine runR_call (by simp only [go_sem, Nat.reduceEqDiff, Nat.reduceBEq, Nat.reduceAdd, Nat.reduceMul, Nat.reduceSub, Nat.reduceLeDiff, Nat.reduceLT, reduceIte, reduceCtorEq, Int.reduceToNat, Int.reduceLE, Int.reduceLT, Int.reduceNeg, Bool.not_not, and_self, Bool.and_eq_false_iff, Int.cast_ofNat_Int, Int.reduceAdd, Int.reduceSub, Int.reduceMul, Int.reduceEq, Int.reduceNe]) rfl (r21) (.inl rfl) trivial ?_
            simp only [go_sem, Nat.reduceEqDiff, Nat.reduceBEq, Nat.reduceAdd, Nat.reduceMul, Nat.reduceSub, Nat.reduceLeDiff, Nat.reduceLT, reduceIte, reduceCtorEq, Int.reduceToNat, Int.reduceLE, Int.reduceLT, Int.reduceNeg, Bool.not_not, and_self, Bool.and_eq_false_iff, Int.cast_ofNat_Int, Int.reduceAdd, Int.reduceSub, Int.reduceMul, Int.reduceEq, Int.reduceNe]
            refine runR_callf (by simp only [go_sem, Nat.reduceEqDiff, Nat.reduceBEq, Nat.reduceAdd, Nat.reduceMul, Nat.reduceSub, Nat.reduceLeDiff, Nat.reduceLT, reduceIte, reduceCtorEq, Int.reduceToNat, Int.reduceLE, Int.reduceLT, Int.reduceNeg, Bool.not_not, and_self, Bool.and_eq_false_iff, Int.cast_ofNat_Int, Int.reduceAdd, Int.reduceSub, Int.reduceMul, Int.reduceEq, Int.reduceNe]) (by simp only [go_sem, Nat.reduceEqDiff, Nat.reduceBEq, Nat.reduceAdd, Nat.reduceMul, Nat.reduceSub, Nat.reduceLeDiff, Nat.reduceLT, reduceIte, reduceCtorEq, Int.reduceToNat, Int.reduceLE, Int.reduceLT, Int.reduceNeg, Bool.not_not, and_self, Bool.and_eq_false_iff, Int.cast_ofNat_Int, Int.reduceAdd, Int.reduceSub, Int.reduceMul, Int.reduceEq, Int.reduceNe] <;> rfl) (fn16t (toI Rs) (by simp [toI]; omega)) ⟨rfl, trivial⟩ trivial ?_
            simp only [go_sem, Nat.reduceEqDiff, Nat.reduceBEq, Nat.reduceAdd, Nat.reduceMul, Nat.reduceSub, Nat.reduceLeDiff, Nat.reduceLT, reduceIte, reduceCtorEq, Int.reduceToNat, Int.reduceLE, Int.reduceLT, Int.reduceNeg, Bool.not_not, and_self, Bool.and_eq_false_iff, Int.cast_ofNat_Int, Int.reduceAdd, Int.reduceSub, Int.reduceMul, Int.reduceEq, Int.reduceNe]
            refine runR_callgf (by simp only [go_sem, Nat.reduceEqDiff, Nat.reduceBEq, Nat.reduceAdd, Nat.reduceMul, Nat.reduceSub, Nat.reduceLeDiff, Nat.reduceLT, reduceIte, reduceCtorEq, Int.reduceToNat, Int.reduceLE, Int.reduceLT, Int.reduceNeg, Bool.not_not, and_self, Bool.and_eq_false_iff, Int.cast_ofNat_Int, Int.reduceAdd, Int.reduceSub, Int.reduceMul, Int.reduceEq, Int.reduceNe]) (by simp only [go_sem, Nat.reduceEqDiff, Nat.reduceBEq, Nat.reduceAdd, Nat.reduceMul, Nat.reduceSub, Nat.reduceLeDiff, Nat.reduceLT, reduceIte, reduceCtorEq, Int.reduceToNat, Int.reduceLE, Int.reduceLT, Int.reduceNeg, Bool.not_not, and_self, Bool.and_eq_false_iff, Int.cast_ofNat_Int, Int.reduceAdd, Int.reduceSub, Int.reduceMul, Int.reduceEq, Int.reduceNe]) (by simp only [go_sem, Nat.reduceEqDiff, Nat.reduceBEq, Nat.reduceAdd, Nat.reduceMul, Nat.reduceSub, Nat.reduceLeDiff, Nat.reduceLT, reduceIte, reduceCtorEq, Int.reduceToNat, Int.reduceLE, Int.reduceLT, Int.reduceNeg, Bool.not_not, and_self, Bool.and_eq_false_iff, Int.cast_ofNat_Int, Int.reduceAdd, Int.reduceSub, Int.reduceMul, Int.reduceEq, Int.reduceNe] <;> rfl) (fun _ => fn15) rfl ?_
            simp only [go_sem, Nat.reduceEqDiff, Nat.reduceBEq, Nat.reduceAdd, Nat.reduceMul, Nat.reduceSub, Nat.reduceLeDiff, Nat.reduceLT, reduceIte, reduceCtorEq, Int.reduceToNat, Int.reduceLE, Int.reduceLT, Int.reduceNeg, Bool.not_not, and_self, Bool.and_eq_false_iff, Int.cast_ofNat_Int, Int.reduceAdd, Int.reduceSub, Int.reduceMul, Int.reduceEq, Int.reduceNe]
end Go.Vc
