/- A part of the proofs of the seat YtmgbbmhljopepaaDoor: the contracts of functions, each proved out of its code. -/
import Derived.Test.YtmgbbmhljopepaaDoorDj
import Derived.Test.YtmgbbmhljopepaaDoorVh
import Derived.Test.YtmgbbmhljopepaaDoorProg
import Derived.Test.YtmgbbmhljopepaaDoorDk
namespace Go.Vc
set_option linter.unusedSimpArgs false
set_option linter.unusedVariables false

/-! ## Parts that no glob has -/
def joinB : List ByteArray → ByteArray
  | [] => ⟨#[]⟩
  | [p] => p
  | p :: q :: ps => p ++ sDot ++ joinB (q :: ps)
theorem joinB_snoc (p : ByteArray) : ∀ ps : List ByteArray, ps ≠ [] → joinB (ps ++ [p]) = joinB ps ++ sDot ++ p
  | [], h => absurd rfl h
  | [q], _ => rfl
  | q :: r :: ps, _ => by
    have ih := joinB_snoc p (r :: ps) (by simp)
    simp only [List.cons_append, joinB] at ih ⊢
    rw [ih]
    simp only [ByteArray.append_assoc]
theorem cutS_join : ∀ {ps : List ByteArray}, ps ≠ [] → (∀ p ∈ ps, cutS p = [p]) → cutS (joinB ps) = ps
  | [], h, _ => absurd rfl h
  | [p], _, h => h p (by simp)
  | p :: q :: ps, _, h => by
    simp only [joinB, cutS_app]
    rw [h p (by simp), cutS_join (by simp) fun r hr => h r (List.mem_cons_of_mem _ hr)]
    rfl
theorem cutS_alone {s : ByteArray} : ∀ p ∈ cutS s, cutS p = [p] := fun p hp => by
  unfold cutS at hp
  obtain ⟨q, hq, rfl⟩ := List.mem_map.1 hp
  have := cutL_nodot (cutL_parts _ q hq)
  unfold cutS
  show (cutL q).map mkB = _
  rw [this]; rfl
theorem joinB_size : ∀ {ps : List ByteArray} {n : Nat}, (∀ p ∈ ps, p.size ≤ n) → (joinB ps).size ≤ ps.length * (n + 1)
  | [], n, _ => Nat.zero_le _
  | [p], n, h => by have := h p (by simp); simp only [joinB, List.length_singleton]; omega
  | p :: q :: ps, n, h => by
    have h1 := h p (by simp)
    have ih := joinB_size (ps := q :: ps) (n := n) fun r hr => h r (List.mem_cons_of_mem _ hr)
    simp only [joinB, ByteArray.size_append]
    have : sDot.size = 1 := rfl
    rw [this, List.length_cons, Nat.succ_mul]
    omega
theorem join_step {l : List ByteArray} {i : Nat} (h : i < l.length) : joinB (l.take (i + 1)) = (if 0 < i then joinB (l.take i) ++ sDot else joinB (l.take i)) ++ l[i] := by
  rw [take_snoc h]
  by_cases h0 : 0 < i
  · rw [if_pos h0, joinB_snoc]
    intro e
    have := congrArg List.length e
    rw [List.length_take] at this
    simp only [List.length_nil] at this
    omega
  · have : i = 0 := by omega
    subst this
    rw [if_neg (by omega), List.take_zero, List.nil_append]
    simp only [joinB]
    exact (ext_list (by rw [ByteArray.data_append]; simp)).symm
abbrev z9 : ByteArray := ⟨#[122, 57]⟩
def repP (sg : List ByteArray) (p : ByteArray) : ByteArray := if hasB sg p = true then p else z9
theorem letter_rep {sg : List ByteArray} (hz : z9 ∉ sg) (p : ByteArray) : letterN sg (repP sg p) = letterN sg p := by
  unfold repP
  split
  · rfl
  · rename_i h
    rw [letterN_out hz, letterN_out fun hm => h (hasB_iff.2 hm)]
theorem run_rep {d : DF} (hz : z9 ∉ d.signs) (T : List ByteArray) : runO d (T.map (repP d.signs)) = runO d T := by
  unfold runO
  rw [List.foldl_map]
  congr 1
  funext o q
  unfold stepO
  rw [letter_rep hz]
theorem res_rep {d : DF} (hz : z9 ∉ d.signs) (T : List ByteArray) : resO d (T.map (repP d.signs)) = resO d T := by unfold resO; rw [run_rep hz]
theorem z9_alone : cutS z9 = [z9] := by decide
theorem parts_rep {sg : List ByteArray} {q : ByteArray} : cutS (joinB ((cutS q).map (repP sg))) = (cutS q).map (repP sg) := by
  refine cutS_join (by simp [cutS_ne]) fun p hp => ?_
  obtain ⟨r, hr, rfl⟩ := List.mem_map.1 hp
  unfold repP
  split
  · exact cutS_alone r hr
  · exact z9_alone
end Go.Vc

namespace Go.Vc
open Go.Proofs
set_option maxRecDepth 100000

/-- 'trystlaw07.DfaOthers' -/
def B9_0 : MC := (.seq (.seq (.reg [⟨(some 31), none, (.q (.mv (.t 8)))⟩, ⟨(some 32), none, (.q (.fa (.t 5) 0))⟩, ⟨(some 33), none, (.q (.ld (.t 32) 1 false))⟩, ⟨(some 34), none, (.q (.len (.t 33)
  false))⟩, ⟨(some 35), none, (.q (.bin .lss (.t 31) (.t 34)))⟩] [] [1, 5, 7, 8, 35] [5, 30, 1016, 1019]) (.cond (.t 35) .skip (.exit 0))) (.seq (.block 1 (.reg [⟨(some 38), none, (.q (.mv (.t 7)))⟩,
  ⟨(some 39), none, (.q (.fa (.t 5) 0))⟩, ⟨(some 40), none, (.q (.ld (.t 39) 1 false))⟩, ⟨(some 41), none, (.q (.mv (.t 8)))⟩, ⟨(some 42), none, (.q (.ia (.t 40) (.t 41) 1))⟩, ⟨(some 43), none,
  (.q (.ld (.t 42) 1 false))⟩, ⟨none, none, (.mset (.t 38) (.t 43) (.c (.bool true)) Kk.str)⟩] [] [1, 5, 7, 8] [5, 30, 1016, 1019])) (.reg [⟨(some 36), none, (.q (.mv (.t 8)))⟩, ⟨(some 37), none,
  (.q (.bin .add (.t 36) (.c (.int .i64 1))))⟩, ⟨(some 8), none, (.q (.mv (.t 37)))⟩] [] [1, 5, 7, 8] [5, 30, 1016, 1019])))
def B9_1 : MC := (.seq (.seq (.reg [⟨(some 46), none, (.q (.mv (.t 11)))⟩, ⟨(some 47), none, (.q (.mv (.t 9)))⟩, ⟨(some 48), none, (.q (.len (.t 47) false))⟩, ⟨(some 49), none, (.q (.bin .lss (.t 46)
  (.t 48)))⟩] [] [1, 5, 7, 9, 10, 11, 49] [5, 30, 1016, 1019, 1045]) (.cond (.t 49) .skip (.exit 2))) (.seq (.block 3 (.seq (.reg [⟨(some 52), none, (.q (.mv (.t 9)))⟩, ⟨(some 53), none,
  (.q (.mv (.t 11)))⟩, ⟨(some 54), none, (.q (.ia (.t 52) (.t 53) 1))⟩, ⟨(some 55), none, (.q (.ld (.t 54) 1 false))⟩, ⟨(some 12), none, (.q (.mv (.t 55)))⟩] [] [1, 5, 7, 9, 10, 11, 12] [5, 30, 1016,
  1019, 1045]) (.seq (.seq (.reg [⟨(some 56), none, (.q (.mv (.t 7)))⟩, ⟨(some 57), none, (.q (.mv (.t 12)))⟩, ⟨(some 58), none, (.q (.mget (.t 56) (.t 57) false Kk.str (.pv (.sc (.bool false)))))⟩,
  ⟨(some 59), none, (.q (.not (.t 58)))⟩] [] [1, 5, 7, 9, 10, 11, 12, 59] [5, 30, 1016, 1019, 1045]) (.cond (.t 59) (.reg [⟨(some 12), none, (.q (.mv (.c (.string ⟨#[122, 57]⟩))))⟩] [] [1, 5, 7, 9,
  10, 11, 12] [5, 30, 1016, 1019, 1045]) .skip)) (.seq (.seq (.reg [⟨(some 60), none, (.q (.mv (.t 11)))⟩, ⟨(some 61), none, (.q (.bin .gtr (.t 60) (.c (.int .i64 0))))⟩] [] [1, 5, 7, 9, 10, 11, 12,
  61] [5, 30, 1016, 1019, 1045]) (.cond (.t 61) (.reg [⟨(some 62), none, (.q (.mv (.t 10)))⟩, ⟨(some 63), none, (.q (.bin .add (.t 62) (.c (.string ⟨#[46]⟩))))⟩, ⟨(some 10), none,
  (.q (.mv (.t 63)))⟩] [] [1, 5, 7, 9, 10, 11, 12] [5, 30, 1016, 1019, 1045]) .skip)) (.reg [⟨(some 64), none, (.q (.mv (.t 10)))⟩, ⟨(some 65), none, (.q (.mv (.t 12)))⟩, ⟨(some 66), none,
  (.q (.bin .add (.t 64) (.t 65)))⟩, ⟨(some 10), none, (.q (.mv (.t 66)))⟩] [] [1, 5, 7, 9, 10, 11] [5, 30, 1016, 1019, 1045]))))) (.reg [⟨(some 50), none, (.q (.mv (.t 11)))⟩, ⟨(some 51), none,
  (.q (.bin .add (.t 50) (.c (.int .i64 1))))⟩, ⟨(some 11), none, (.q (.mv (.t 51)))⟩] [] [1, 5, 7, 9, 10, 11] [5, 30, 1016, 1019, 1045])))
def R9_1 : MC := (.seq (.reg [⟨(some 67), none, (.q (.mv (.t 7)))⟩, ⟨(some 68), none, (.q (.mget (.t 67) (.c (.string ⟨#[122, 57]⟩)) false Kk.str (.pv (.sc (.bool false)))))⟩, ⟨(some 69), none,
  (.q (.mv (.t 68)))⟩, ⟨(some 70), (some (69, false)), (.q (.mv (.t 10)))⟩, ⟨(some 71), (some (69, false)), (.call (.f 26) [(.t 70)])⟩, ⟨(some 72), (some (69, false)), (.q (.not (.t 71)))⟩,
  ⟨(some 73), none, (.q (.pick (.t 69) (.c (.bool true)) (.t 72)))⟩, ⟨(some 74), none, (.q (.mv (.t 73)))⟩, ⟨(some 75), (some (74, false)), (.q (.ld (.t 5) 3 true))⟩, ⟨(some 76), (some (74, false)),
  (.q (.mv (.t 1)))⟩, ⟨(some 78), (some (74, false)), (.q (.ld (.t 5) 3 true))⟩, ⟨(some 79), (some (74, false)), (.q (.mv (.t 10)))⟩, ⟨(some 77), (some (74, false)), (.call (.f 21) [(.t 75),
  (.t 76)])⟩, ⟨(some 80), (some (74, false)), (.call (.f 21) [(.t 78), (.t 79)])⟩, ⟨(some 81), (some (74, false)), (.call (.f 23) [(.t 77), (.t 80)])⟩, ⟨(some 82), none, (.q (.pick (.t 74)
  (.c (.bool true)) (.t 81)))⟩, ⟨(some 83), none, (.q (.mv (.t 82)))⟩, ⟨(some 84), (some (83, true)), (.call (.f 22) [])⟩, ⟨(some 85), none, (.q (.pick (.t 83) (.t 84) (.c (.bool false))))⟩,
  ⟨(some 4), none, (.q (.mv (.t 85)))⟩] [] [4] [30, 1029, 1071, 1081, 1084]) .ret)
def R9_0 : MC := (.seq (.reg [⟨(some 44), none, (.q (.mv (.t 1)))⟩, ⟨(some 45), none, (.call (.f 27) [(.t 44)])⟩, ⟨(some 9), none, (.q (.mv (.t 45)))⟩] [] [1, 5, 7, 9] [5, 30, 1016, 1019, 1045])
  (.seq (.reg [⟨(some 10), none, (.q (.mv (.c (.string ⟨#[]⟩))))⟩] [] [1, 5, 7, 9, 10] [5, 30, 1016, 1019, 1045]) (.seq (.seq (.reg [⟨(some 11), none, (.q (.mv (.c (.int .i64 0))))⟩] [] [1, 5, 7, 9,
  10, 11] [5, 30, 1016, 1019, 1045]) (.block 2 (.loop B9_1))) R9_1)))
def M9 : MC := (.seq (.reg [⟨(some 4), none, (.q (.mv (.c (.bool false))))⟩] [] [0, 1] [1014, 1016]) (.seq (.reg [⟨(some 13), none, (.q (.mv (.t 0)))⟩, ⟨(some 14), none, (.call (.f 18) [(.t 13)])⟩,
  ⟨(some 15), none, (.q (.mv (.t 1)))⟩, ⟨(some 16), none, (.call (.f 19) [(.t 15)])⟩, ⟨(some 0), none, (.q (.mv (.t 14)))⟩, ⟨(some 1), none, (.q (.mv (.t 16)))⟩] [] [0, 1] [1014, 1016])
  (.seq (.reg [⟨(some 18), none, (.q (.mv (.t 0)))⟩, ⟨(some 19), none, (.call (.f 20) [(.t 18), (.c (.int .i64 200))])⟩, ⟨(some 17), none, (.q (.mv (.t 19)))⟩, ⟨(some 20), none, (.q (.ext (.t 17)
  0))⟩, ⟨(some 21), none, (.q (.ext (.t 17) 1))⟩, ⟨(some 5), none, (.alloc [.e0, .e0, .e0])⟩, ⟨none, none, (.st (.t 5) (.t 20) 3)⟩, ⟨(some 6), none, (.q (.mv (.t 21)))⟩] [] [1, 5, 6] [5, 1016, 1019])
  (.seq (.seq (.reg [⟨(some 22), none, (.q (.mv (.t 6)))⟩, ⟨(some 23), none, (.q (.bin .neq (.t 22) (.c (.int .i64 0))))⟩, ⟨(some 24), none, (.q (.mv (.t 23)))⟩, ⟨(some 25), (some (24, false)),
  (.q (.mv (.t 1)))⟩, ⟨(some 26), (some (24, false)), (.call (.f 26) [(.t 25)])⟩, ⟨(some 27), (some (24, false)), (.q (.not (.t 26)))⟩, ⟨(some 28), none, (.q (.pick (.t 24) (.c (.bool true))
  (.t 27)))⟩] [] [1, 5, 28] [5, 1016, 1019, 1026]) (.cond (.t 28) (.seq (.reg [⟨(some 29), none, (.call (.f 22) [])⟩, ⟨(some 4), none, (.q (.mv (.t 29)))⟩] [] [4] [30, 1029, 1071, 1081, 1084]) .ret)
  .skip)) (.seq (.reg [⟨(some 30), none, .mkm⟩, ⟨(some 7), none, (.q (.mv (.t 30)))⟩] [] [1, 5, 7] [5, 30, 1016, 1019]) (.seq (.seq (.reg [⟨(some 8), none, (.q (.mv (.c (.int .i64 0))))⟩] [] [1, 5, 7,
  8] [5, 30, 1016, 1019]) (.block 0 (.loop B9_0))) R9_0))))))
theorem mc9 : ofCode Tryd.prog [] Tryd.f9.ntmps [(0, ⟨[0, 1], [1014, 1016], [], 0, [], none⟩),
    (1, ⟨[0, 1], [1014, 1016], [], 0, [], none⟩),
    (2, ⟨[1, 5, 6], [5, 1016, 1019], [], 0, [], none⟩),
    (3, ⟨[1, 5, 28], [5, 1016, 1019, 1026], [], 0, [], none⟩),
    (4, ⟨[4], [30, 1029, 1071, 1081, 1084], [], 0, [], none⟩),
    (5, ⟨[1, 5, 7], [5, 30, 1016, 1019], [], 0, [], none⟩),
    (6, ⟨[1, 5, 7, 8], [5, 30, 1016, 1019], [], 0, [], none⟩),
    (7, ⟨[1, 5, 7, 8, 35], [5, 30, 1016, 1019], [], 0, [], none⟩),
    (8, ⟨[1, 5, 7, 8], [5, 30, 1016, 1019], [], 0, [], none⟩),
    (9, ⟨[1, 5, 7, 8], [5, 30, 1016, 1019], [], 0, [], none⟩),
    (10, ⟨[1, 5, 7, 9], [5, 30, 1016, 1019, 1045], [], 0, [], none⟩),
    (11, ⟨[1, 5, 7, 9, 10], [5, 30, 1016, 1019, 1045], [], 0, [], none⟩),
    (12, ⟨[1, 5, 7, 9, 10, 11], [5, 30, 1016, 1019, 1045], [], 0, [], none⟩),
    (13, ⟨[1, 5, 7, 9, 10, 11, 49], [5, 30, 1016, 1019, 1045], [], 0, [], none⟩),
    (14, ⟨[1, 5, 7, 9, 10, 11], [5, 30, 1016, 1019, 1045], [], 0, [], none⟩),
    (15, ⟨[1, 5, 7, 9, 10, 11, 12], [5, 30, 1016, 1019, 1045], [], 0, [], none⟩),
    (16, ⟨[1, 5, 7, 9, 10, 11, 12, 59], [5, 30, 1016, 1019, 1045], [], 0, [], none⟩),
    (17, ⟨[1, 5, 7, 9, 10, 11, 12], [5, 30, 1016, 1019, 1045], [], 0, [], none⟩),
    (18, ⟨[1, 5, 7, 9, 10, 11, 12, 61], [5, 30, 1016, 1019, 1045], [], 0, [], none⟩),
    (19, ⟨[1, 5, 7, 9, 10, 11, 12], [5, 30, 1016, 1019, 1045], [], 0, [], none⟩),
    (20, ⟨[1, 5, 7, 9, 10, 11], [5, 30, 1016, 1019, 1045], [], 0, [], none⟩),
    (21, ⟨[4], [30, 1029, 1071, 1081, 1084], [(0, 1048575), (1, 1048574), (2, 1048572), (3, 1048568), (4, 0), (5, 1048544), (6, 1048512), (7, 1048448), (8, 1041664), (9, 1041920), (11, 1042432), (12, 1044480), (10, 0), (13, 0), (14, 0), (15, 1015808), (16, 983040), (17, 0), (18, 786432), (19, 524288)], 1048575, [], none⟩)] (Tryd.f9.body.getD .skip) = some M9 := by kernel_rfl
theorem Run9 {args : List PV} {v : AV} {rs : List (Nat × List PV)} (ids : List Bool) (h : args.length ≤ 86) (hv : run Tryd.prog (retK [RV.tmp 4] ids v rs) M9 [] ⟨entry 0 args, []⟩) : Fn Tryd.prog 9 args v rs :=
  Fn_run ids (by kernel_rfl) Tryd.func9 (by decide) rfl mc9 (by kernel_rfl) (by rw [Tryd.ntmps9]; exact h) (by rw [Tryd.ntmps9]; decide) hv

end Go.Vc

namespace Go.Vc
open Go.Proofs
set_option linter.unusedSimpArgs false
set_option linter.unusedVariables false

/-! ## DfaOthers -/
abbrev enT (b : ByteArray) : PV × PV := (pS b, pB true)
theorem lkp_T (x : ByteArray) : ∀ ks : List ByteArray, lkp (pS x) (ks.map enT) = if hasB ks x = true then some (pB true) else none
  | [] => rfl
  | m :: ks => by
    have ih := lkp_T x ks
    by_cases h : x = m
    · subst h
      have e : hasB (x :: ks) x = true := hasB_iff.2 (by simp)
      rw [e]
      simp [lkp, keyEq]
    · have e : hasB (m :: ks) x = hasB ks x := by
        rw [Bool.eq_iff_iff, hasB_iff, hasB_iff]; simp [h]
      have e2 : lkp (pS x) ((m :: ks).map enT) = lkp (pS x) (ks.map enT) := by simp [lkp, keyEq, h]
      rw [e, e2, ih]
theorem mput_T {x : ByteArray} : ∀ {ks : List ByteArray}, x ∉ ks → mput (pS x) (pB true) (ks.map enT) = (ks ++ [x]).map enT
  | [], _ => rfl
  | m :: ks, h => by
    have h1 : x ≠ m := fun e => h (by simp [e])
    simp only [List.map_cons, mput, keyEq, h1, decide_false, Bool.false_eq_true, if_false, List.cons_append, List.cons.injEq, true_and]
    exact mput_T fun hm => h (List.mem_cons_of_mem _ hm)
theorem like_T (x : ByteArray) : ∀ ks : List ByteArray, keysLike .str (pS x) (ks.map enT)
  | [] => trivial
  | m :: ks => by simp only [List.map_cons, keysLike, keyLike]; exact ⟨trivial, like_T x ks⟩
theorem cut_sz {s : ByteArray} : ∀ p ∈ cutS s, p.size ≤ s.size := fun p hp => by rw [← cutI_end] at hp; exact cutI_sizes p hp
theorem law9 (bs : List ByteArray) (t : ByteArray) (hb : bs.length ≤ 9223372036854775807) : Fn Tryd.prog 9 [ss bs, pS t] (.pv (pB true)) [] := by
  refine Run9 [] (by simp) ?_
  simp only [go_sem, Nat.reduceEqDiff, Nat.reduceBEq, Nat.reduceAdd, Nat.reduceMul, Nat.reduceSub, Nat.reduceLeDiff, Nat.reduceLT, reduceIte, reduceCtorEq, Int.reduceToNat, Int.reduceLE, Int.reduceLT, Int.reduceNeg, Bool.not_not, and_self, Bool.and_eq_false_iff, Int.cast_ofNat_Int, Int.reduceAdd, Int.reduceSub, Int.reduceMul, Int.reduceEq, Int.reduceNe, M9]
  refine runR_call (by simp only [go_sem, Nat.reduceEqDiff, Nat.reduceBEq, Nat.reduceAdd, Nat.reduceMul, Nat.reduceSub, Nat.reduceLeDiff, Nat.reduceLT, reduceIte, reduceCtorEq, Int.reduceToNat, Int.reduceLE, Int.reduceLT, Int.reduceNeg, Bool.not_not, and_self, Bool.and_eq_false_iff, Int.cast_ofNat_Int, Int.reduceAdd, Int.reduceSub, Int.reduceMul, Int.reduceEq, Int.reduceNe]) rfl (fn18 bs hb) (.inl rfl) trivial ?_
  simp only [go_sem, Nat.reduceEqDiff, Nat.reduceBEq, Nat.reduceAdd, Nat.reduceMul, Nat.reduceSub, Nat.reduceLeDiff, Nat.reduceLT, reduceIte, reduceCtorEq, Int.reduceToNat, Int.reduceLE, Int.reduceLT, Int.reduceNeg, Bool.not_not, and_self, Bool.and_eq_false_iff, Int.cast_ofNat_Int, Int.reduceAdd, Int.reduceSub, Int.reduceMul, Int.reduceEq, Int.reduceNe]
  refine runR_callf (by simp only [go_sem, Nat.reduceEqDiff, Nat.reduceBEq, Nat.reduceAdd, Nat.reduceMul, Nat.reduceSub, Nat.reduceLeDiff, Nat.reduceLT, reduceIte, reduceCtorEq, Int.reduceToNat, Int.reduceLE, Int.reduceLT, Int.reduceNeg, Bool.not_not, and_self, Bool.and_eq_false_iff, Int.cast_ofNat_Int, Int.reduceAdd, Int.reduceSub, Int.reduceMul, Int.reduceEq, Int.reduceNe]) (by simp only [go_sem, Nat.reduceEqDiff, Nat.reduceBEq, Nat.reduceAdd, Nat.reduceMul, Nat.reduceSub, Nat.reduceLeDiff, Nat.reduceLT, reduceIte, reduceCtorEq, Int.reduceToNat, Int.reduceLE, Int.reduceLT, Int.reduceNeg, Bool.not_not, and_self, Bool.and_eq_false_iff, Int.cast_ofNat_Int, Int.reduceAdd, Int.reduceSub, Int.reduceMul, Int.reduceEq, Int.reduceNe] <;> rfl) (fn19 t) ⟨rfl, trivial⟩ trivial ?_
  simp only [go_sem, Nat.reduceEqDiff, Nat.reduceBEq, Nat.reduceAdd, Nat.reduceMul, Nat.reduceSub, Nat.reduceLeDiff, Nat.reduceLT, reduceIte, reduceCtorEq, Int.reduceToNat, Int.reduceLE, Int.reduceLT, Int.reduceNeg, Bool.not_not, and_self, Bool.and_eq_false_iff, Int.cast_ofNat_Int, Int.reduceAdd, Int.reduceSub, Int.reduceMul, Int.reduceEq, Int.reduceNe]
  have hl := globs7_len bs
  have hts60 : (fewS t).size ≤ 60 := by have := fewS_size t; omega
  have hsz : ∀ b ∈ globs7 bs, b.size ≤ 1000 := fun b hb => by have := globs7_size hb; omega
  generalize globs7 bs = gl at hl hsz
  generalize fewS t = q at hts60
  have hts : q.size ≤ 1000 := by omega
  have r1 := fn20 gl 200 (by omega) hsz (by omega)
  refine runR_call (by simp only [go_sem, Nat.reduceEqDiff, Nat.reduceBEq, Nat.reduceAdd, Nat.reduceMul, Nat.reduceSub, Nat.reduceLeDiff, Nat.reduceLT, reduceIte, reduceCtorEq, Int.reduceToNat, Int.reduceLE, Int.reduceLT, Int.reduceNeg, Bool.not_not, and_self, Bool.and_eq_false_iff, Int.cast_ofNat_Int, Int.reduceAdd, Int.reduceSub, Int.reduceMul, Int.reduceEq, Int.reduceNe]) rfl (r1) (.inl rfl) trivial ?_
  rcases of_cases gl 200 with ⟨k, h⟩ | ⟨h1, h2, _⟩
  · rw [h.e]
    simp only [go_sem, Nat.reduceEqDiff, Nat.reduceBEq, Nat.reduceAdd, Nat.reduceMul, Nat.reduceSub, Nat.reduceLeDiff, Nat.reduceLT, reduceIte, reduceCtorEq, Int.reduceToNat, Int.reduceLE, Int.reduceLT, Int.reduceNeg, Bool.not_not, and_self, Bool.and_eq_false_iff, Int.cast_ofNat_Int, Int.reduceAdd, Int.reduceSub, Int.reduceMul, Int.reduceEq, Int.reduceNe]
    refine runR_callgf (by simp only [go_sem, Nat.reduceEqDiff, Nat.reduceBEq, Nat.reduceAdd, Nat.reduceMul, Nat.reduceSub, Nat.reduceLeDiff, Nat.reduceLT, reduceIte, reduceCtorEq, Int.reduceToNat, Int.reduceLE, Int.reduceLT, Int.reduceNeg, Bool.not_not, and_self, Bool.and_eq_false_iff, Int.cast_ofNat_Int, Int.reduceAdd, Int.reduceSub, Int.reduceMul, Int.reduceEq, Int.reduceNe]) (by simp only [go_sem, Nat.reduceEqDiff, Nat.reduceBEq, Nat.reduceAdd, Nat.reduceMul, Nat.reduceSub, Nat.reduceLeDiff, Nat.reduceLT, reduceIte, reduceCtorEq, Int.reduceToNat, Int.reduceLE, Int.reduceLT, Int.reduceNeg, Bool.not_not, and_self, Bool.and_eq_false_iff, Int.cast_ofNat_Int, Int.reduceAdd, Int.reduceSub, Int.reduceMul, Int.reduceEq, Int.reduceNe]) (by simp only [go_sem, Nat.reduceEqDiff, Nat.reduceBEq, Nat.reduceAdd, Nat.reduceMul, Nat.reduceSub, Nat.reduceLeDiff, Nat.reduceLT, reduceIte, reduceCtorEq, Int.reduceToNat, Int.reduceLE, Int.reduceLT, Int.reduceNeg, Bool.not_not, and_self, Bool.and_eq_false_iff, Int.cast_ofNat_Int, Int.reduceAdd, Int.reduceSub, Int.reduceMul, Int.reduceEq, Int.reduceNe] <;> rfl) (fun _ => fn26 q hts) rfl ?_
    cases htp : topicB q with
    | false =>
      simp only [go_sem, Nat.reduceEqDiff, Nat.reduceBEq, Nat.reduceAdd, Nat.reduceMul, Nat.reduceSub, Nat.reduceLeDiff, Nat.reduceLT, reduceIte, reduceCtorEq, Int.reduceToNat, Int.reduceLE, Int.reduceLT, Int.reduceNeg, Bool.not_not, and_self, Bool.and_eq_false_iff, Int.cast_ofNat_Int, Int.reduceAdd, Int.reduceSub, Int.reduceMul, Int.reduceEq, Int.reduceNe]
      refine runR_callf (by simp only [go_sem, Nat.reduceEqDiff, Nat.reduceBEq, Nat.reduceAdd, Nat.reduceMul, Nat.reduceSub, Nat.reduceLeDiff, Nat.reduceLT, reduceIte, reduceCtorEq, Int.reduceToNat, Int.reduceLE, Int.reduceLT, Int.reduceNeg, Bool.not_not, and_self, Bool.and_eq_false_iff, Int.cast_ofNat_Int, Int.reduceAdd, Int.reduceSub, Int.reduceMul, Int.reduceEq, Int.reduceNe]) (by simp only [go_sem, Nat.reduceEqDiff, Nat.reduceBEq, Nat.reduceAdd, Nat.reduceMul, Nat.reduceSub, Nat.reduceLeDiff, Nat.reduceLT, reduceIte, reduceCtorEq, Int.reduceToNat, Int.reduceLE, Int.reduceLT, Int.reduceNeg, Bool.not_not, and_self, Bool.and_eq_false_iff, Int.cast_ofNat_Int, Int.reduceAdd, Int.reduceSub, Int.reduceMul, Int.reduceEq, Int.reduceNe] <;> rfl) (fn22) ⟨rfl, trivial⟩ trivial ?_
      simp only [go_sem, Nat.reduceEqDiff, Nat.reduceBEq, Nat.reduceAdd, Nat.reduceMul, Nat.reduceSub, Nat.reduceLeDiff, Nat.reduceLT, reduceIte, reduceCtorEq, Int.reduceToNat, Int.reduceLE, Int.reduceLT, Int.reduceNeg, Bool.not_not, and_self, Bool.and_eq_false_iff, Int.cast_ofNat_Int, Int.reduceAdd, Int.reduceSub, Int.reduceMul, Int.reduceEq, Int.reduceNe]
    | true =>
      have hsm := sm_of gl 200 (by omega)
      have hpq : partsB q = cutS q := by unfold partsB; rw [topic_glob htp]; rfl
      have hpl := partsB_len q
      have ra := fn21 (ofR gl 200) q hsm hts
      rw [htp, if_pos rfl] at ra
      generalize ofR gl 200 = d at hsm ra
      clear r1 h
      have hris := hsm.ris
      have hdl := hsm.s
      simp only [go_sem, Nat.reduceEqDiff, Nat.reduceBEq, Nat.reduceAdd, Nat.reduceMul, Nat.reduceSub, Nat.reduceLeDiff, Nat.reduceLT, reduceIte, reduceCtorEq, Int.reduceToNat, Int.reduceLE, Int.reduceLT, Int.reduceNeg, Bool.not_not, and_self, Bool.and_eq_false_iff, Int.cast_ofNat_Int, Int.reduceAdd, Int.reduceSub, Int.reduceMul, Int.reduceEq, Int.reduceNe]
      refine run_loopN (T := Nat) [1, 5, 7, 8] [5, 30] (fun i => ⟨[(1, .pv (pS q)), (5, .ptr 5 0), (7, .mp 30), (8, .pv (pI i))], [(5, .box [.pv (ss d.signs), .pv (.lst (d.next.map ints)), .pv (.lst (d.done.map pNs))]), (30, .mp ((d.signs.take i).map enT))]⟩)
        (fun i => i ≤ d.signs.length) (fun i => d.signs.length - i) 0 rfl (Nat.zero_le _) ?_
      intro i hi
      by_cases hin : i < d.signs.length
      · have hnew : d.signs[i] ∉ d.signs.take i := fun hm => by
          obtain ⟨j, hj, he⟩ := List.mem_iff_getElem.1 hm
          have hj' : j < i := by simp at hj; omega
          rw [List.getElem_take] at he
          have := List.pairwise_iff_getElem.1 hris j i (by omega) hin hj'
          rw [he, ltB_irr] at this; cases this
        simp only [go_sem, Nat.reduceEqDiff, Nat.reduceBEq, Nat.reduceAdd, Nat.reduceMul, Nat.reduceSub, Nat.reduceLeDiff, Nat.reduceLT, reduceIte, reduceCtorEq, Int.reduceToNat, Int.reduceLE, Int.reduceLT, Int.reduceNeg, Bool.not_not, and_self, Bool.and_eq_false_iff, Int.cast_ofNat_Int, Int.reduceAdd, Int.reduceSub, Int.reduceMul, Int.reduceEq, Int.reduceNe, B9_0, show (i : Int) < (d.signs.length : Int) by omega, wf_ss, getD_map hin, mput_T hnew, like_T]
        refine ⟨⟨by omega, by omega⟩, i + 1, ?_, hin, by omega⟩
        rw [List.take_succ_eq_append_getElem hin]; rfl
      · have hie : i = d.signs.length := by omega
        subst hie
        rw [List.take_length]
        simp only [go_sem, Nat.reduceEqDiff, Nat.reduceBEq, Nat.reduceAdd, Nat.reduceMul, Nat.reduceSub, Nat.reduceLeDiff, Nat.reduceLT, reduceIte, reduceCtorEq, Int.reduceToNat, Int.reduceLE, Int.reduceLT, Int.reduceNeg, Bool.not_not, and_self, Bool.and_eq_false_iff, Int.cast_ofNat_Int, Int.reduceAdd, Int.reduceSub, Int.reduceMul, Int.reduceEq, Int.reduceNe, B9_0, R9_0, show ¬ (d.signs.length : Int) < (d.signs.length : Int) by omega]
        refine runR_call (by simp only [go_sem, Nat.reduceEqDiff, Nat.reduceBEq, Nat.reduceAdd, Nat.reduceMul, Nat.reduceSub, Nat.reduceLeDiff, Nat.reduceLT, reduceIte, reduceCtorEq, Int.reduceToNat, Int.reduceLE, Int.reduceLT, Int.reduceNeg, Bool.not_not, and_self, Bool.and_eq_false_iff, Int.cast_ofNat_Int, Int.reduceAdd, Int.reduceSub, Int.reduceMul, Int.reduceEq, Int.reduceNe]) rfl (fn27 q hts) (.inl rfl) trivial ?_
        rw [hpq] at hpl ra ⊢
        have hrep := fun p => lkp_T p d.signs
        have hszp : ∀ p ∈ (cutS q).map (repP d.signs), p.size ≤ 60 := fun p hp => by
          obtain ⟨r, hr, rfl⟩ := List.mem_map.1 hp
          have := cut_sz r hr
          unfold repP
          split
          · omega
          · show z9.size ≤ 60; decide
        have hall := parts_rep (sg := d.signs) (q := q)
        have hcl : (cutS q).length = ((cutS q).map (repP d.signs)).length := by simp
        simp only [go_sem, Nat.reduceEqDiff, Nat.reduceBEq, Nat.reduceAdd, Nat.reduceMul, Nat.reduceSub, Nat.reduceLeDiff, Nat.reduceLT, reduceIte, reduceCtorEq, Int.reduceToNat, Int.reduceLE, Int.reduceLT, Int.reduceNeg, Bool.not_not, and_self, Bool.and_eq_false_iff, Int.cast_ofNat_Int, Int.reduceAdd, Int.reduceSub, Int.reduceMul, Int.reduceEq, Int.reduceNe]
        refine run_loopN (T := Nat) [1, 5, 7, 9, 10, 11] [5, 30] (fun i => ⟨[(1, .pv (pS q)), (5, .ptr 5 0), (7, .mp 30), (9, .pv (ss (cutS q))), (10, .pv (pS (joinB (((cutS q).map (repP d.signs)).take i)))), (11, .pv (pI i))], [(5, .box [.pv (ss d.signs), .pv (.lst (d.next.map ints)), .pv (.lst (d.done.map pNs))]), (30, .mp (d.signs.map enT))]⟩)
          (fun i => i ≤ (cutS q).length) (fun i => (cutS q).length - i) 0 rfl (Nat.zero_le _) ?_
        intro i hi
        have hz : (joinB (((cutS q).map (repP d.signs)).take i)).size ≤ i * 61 := by
          have := joinB_size (ps := ((cutS q).map (repP d.signs)).take i) (n := 60) (fun p hp => hszp p (List.mem_of_mem_take hp))
          rw [List.length_take, Nat.min_eq_left (by omega)] at this
          exact this
        by_cases hil : i < (cutS q).length
        · have hst := join_step (l := (cutS q).map (repP d.signs)) (i := i) (by omega)
          rw [List.getElem_map] at hst
          have hpz := hszp (repP d.signs (cutS q)[i]) (List.mem_map.2 ⟨_, List.getElem_mem hil, rfl⟩)
          have hlk := hrep (cutS q)[i]
          have hcz := cut_sz (cutS q)[i] (List.getElem_mem hil)
          have y1 : (#[46] : Array UInt8).size = 1 := rfl
          have y2 : (#[122, 57] : Array UInt8).size = 2 := rfl
          have go : ∀ p2, p2 = repP d.signs (cutS q)[i] → (0 < i → joinB (((cutS q).map (repP d.signs)).take i) ++ ⟨#[46]⟩ ++ p2 = joinB (((cutS q).map (repP d.signs)).take (i + 1))) ∧ (¬ 0 < i → joinB (((cutS q).map (repP d.signs)).take i) ++ p2 = joinB (((cutS q).map (repP d.signs)).take (i + 1))) := by
            rintro _ rfl
            refine ⟨fun h => ?_, fun h => ?_⟩
            · rw [hst, if_pos h]
            · rw [hst, if_neg h]
          by_cases hk : hasB d.signs (cutS q)[i] = true
          · rw [if_pos hk] at hlk
            have hpp : (cutS q)[i] = repP d.signs (cutS q)[i] := by unfold repP; rw [if_pos hk]
            obtain ⟨g1, g2⟩ := go _ hpp
            by_cases hi0 : 0 < i
            · simp only [go_sem, Nat.reduceEqDiff, Nat.reduceBEq, Nat.reduceAdd, Nat.reduceMul, Nat.reduceSub, Nat.reduceLeDiff, Nat.reduceLT, reduceIte, reduceCtorEq, Int.reduceToNat, Int.reduceLE, Int.reduceLT, Int.reduceNeg, Bool.not_not, and_self, Bool.and_eq_false_iff, Int.cast_ofNat_Int, Int.reduceAdd, Int.reduceSub, Int.reduceMul, Int.reduceEq, Int.reduceNe, B9_1, show (i : Int) < ((cutS q).length : Int) by omega, wf_ss, getD_map hil, hlk, like_T, show (0 : Int) < (i : Int) by omega, g1 hi0]
              exact ⟨by omega, by omega, ⟨by omega, by omega⟩, i + 1, rfl, hil, by omega⟩
            · simp only [go_sem, Nat.reduceEqDiff, Nat.reduceBEq, Nat.reduceAdd, Nat.reduceMul, Nat.reduceSub, Nat.reduceLeDiff, Nat.reduceLT, reduceIte, reduceCtorEq, Int.reduceToNat, Int.reduceLE, Int.reduceLT, Int.reduceNeg, Bool.not_not, and_self, Bool.and_eq_false_iff, Int.cast_ofNat_Int, Int.reduceAdd, Int.reduceSub, Int.reduceMul, Int.reduceEq, Int.reduceNe, B9_1, show (i : Int) < ((cutS q).length : Int) by omega, wf_ss, getD_map hil, hlk, like_T, show ¬ (0 : Int) < (i : Int) by omega, g2 hi0]
              exact ⟨by omega, ⟨by omega, by omega⟩, i + 1, rfl, hil, by omega⟩
          · rw [if_neg hk] at hlk
            have hpp : (⟨#[122, 57]⟩ : ByteArray) = repP d.signs (cutS q)[i] := by unfold repP; rw [if_neg hk]
            obtain ⟨g1, g2⟩ := go _ hpp
            by_cases hi0 : 0 < i
            · simp only [go_sem, Nat.reduceEqDiff, Nat.reduceBEq, Nat.reduceAdd, Nat.reduceMul, Nat.reduceSub, Nat.reduceLeDiff, Nat.reduceLT, reduceIte, reduceCtorEq, Int.reduceToNat, Int.reduceLE, Int.reduceLT, Int.reduceNeg, Bool.not_not, and_self, Bool.and_eq_false_iff, Int.cast_ofNat_Int, Int.reduceAdd, Int.reduceSub, Int.reduceMul, Int.reduceEq, Int.reduceNe, B9_1, show (i : Int) < ((cutS q).length : Int) by omega, wf_ss, getD_map hil, hlk, like_T, show (0 : Int) < (i : Int) by omega, g1 hi0]
              exact ⟨by omega, by omega, ⟨by omega, by omega⟩, i + 1, rfl, hil, by omega⟩
            · simp only [go_sem, Nat.reduceEqDiff, Nat.reduceBEq, Nat.reduceAdd, Nat.reduceMul, Nat.reduceSub, Nat.reduceLeDiff, Nat.reduceLT, reduceIte, reduceCtorEq, Int.reduceToNat, Int.reduceLE, Int.reduceLT, Int.reduceNeg, Bool.not_not, and_self, Bool.and_eq_false_iff, Int.cast_ofNat_Int, Int.reduceAdd, Int.reduceSub, Int.reduceMul, Int.reduceEq, Int.reduceNe, B9_1, show (i : Int) < ((cutS q).length : Int) by omega, wf_ss, getD_map hil, hlk, like_T, show ¬ (0 : Int) < (i : Int) by omega, g2 hi0]
              exact ⟨by omega, ⟨by omega, by omega⟩, i + 1, rfl, hil, by omega⟩
        · have hie : i = (cutS q).length := by omega
          subst hie
          rw [List.take_of_length_le (by omega)] at hz ⊢
          generalize hO : joinB ((cutS q).map (repP d.signs)) = O at hall hz ⊢
          have rb := fn21 d O hsm (by omega)
          have hlz := hrep z9
          have hdlen : ∀ A : List Nat, A ∈ [resO d (cutS q), (if topicB O = true then resO d (partsB O) else [])] → A.length ≤ 1000 := fun A hA => by
            have key : ∀ T, (resO d T).length ≤ 1000 := fun T => by
              unfold resO
              cases hr : runO d T with
              | none => simp [endO]
              | some x =>
                simp only [endO]
                split
                · rename_i hx
                  have hlt : x.toNat < d.done.length := by omega
                  rw [List.getD_eq_getElem?_getD, List.getElem?_eq_getElem hlt]
                  exact hsm.ds _ (List.getElem_mem hlt)
                · simp
            simp only [List.mem_cons, List.not_mem_nil, or_false] at hA
            rcases hA with rfl | rfl
            · exact key _
            · split
              · exact key _
              · simp
          have hsame : hasB d.signs z9 = false → topicB O = true → resO d (cutS q) = (if topicB O = true then resO d (partsB O) else []) := fun h1 h2 => by
            have hpo : partsB O = (cutS q).map (repP d.signs) := by
              unfold partsB; rw [topic_glob h2, if_pos rfl, hall]
            rw [if_pos h2, hpo, res_rep fun hm => by rw [hasB_iff.2 hm] at h1; cases h1]
          have hA1 := hdlen (resO d (cutS q)) (by simp)
          have hB1 := hdlen (if topicB O = true then resO d (partsB O) else []) (by simp)
          generalize (if topicB O = true then resO d (partsB O) else []) = B at rb hB1 hsame
          generalize resO d (cutS q) = A at ra hA1 hsame
          have rc := fn23 (toI A) (toI B) (by simp [toI]; omega) (by simp [toI]; omega)
          cases hz9 : hasB d.signs z9 with
          | true =>
            rw [hz9, if_pos rfl] at hlz
            simp only [go_sem, Nat.reduceEqDiff, Nat.reduceBEq, Nat.reduceAdd, Nat.reduceMul, Nat.reduceSub, Nat.reduceLeDiff, Nat.reduceLT, reduceIte, reduceCtorEq, Int.reduceToNat, Int.reduceLE, Int.reduceLT, Int.reduceNeg, Bool.not_not, and_self, Bool.and_eq_false_iff, Int.cast_ofNat_Int, Int.reduceAdd, Int.reduceSub, Int.reduceMul, Int.reduceEq, Int.reduceNe, B9_1, R9_1, show ¬ ((cutS q).length : Int) < ((cutS q).length : Int) by omega, hlz, like_T]
            refine runR_callgf (by simp only [go_sem, Nat.reduceEqDiff, Nat.reduceBEq, Nat.reduceAdd, Nat.reduceMul, Nat.reduceSub, Nat.reduceLeDiff, Nat.reduceLT, reduceIte, reduceCtorEq, Int.reduceToNat, Int.reduceLE, Int.reduceLT, Int.reduceNeg, Bool.not_not, and_self, Bool.and_eq_false_iff, Int.cast_ofNat_Int, Int.reduceAdd, Int.reduceSub, Int.reduceMul, Int.reduceEq, Int.reduceNe]) (by simp only [go_sem, Nat.reduceEqDiff, Nat.reduceBEq, Nat.reduceAdd, Nat.reduceMul, Nat.reduceSub, Nat.reduceLeDiff, Nat.reduceLT, reduceIte, reduceCtorEq, Int.reduceToNat, Int.reduceLE, Int.reduceLT, Int.reduceNeg, Bool.not_not, and_self, Bool.and_eq_false_iff, Int.cast_ofNat_Int, Int.reduceAdd, Int.reduceSub, Int.reduceMul, Int.reduceEq, Int.reduceNe]) (by simp only [go_sem, Nat.reduceEqDiff, Nat.reduceBEq, Nat.reduceAdd, Nat.reduceMul, Nat.reduceSub, Nat.reduceLeDiff, Nat.reduceLT, reduceIte, reduceCtorEq, Int.reduceToNat, Int.reduceLE, Int.reduceLT, Int.reduceNeg, Bool.not_not, and_self, Bool.and_eq_false_iff, Int.cast_ofNat_Int, Int.reduceAdd, Int.reduceSub, Int.reduceMul, Int.reduceEq, Int.reduceNe] <;> rfl) (fun _ => fn26 O (by omega)) rfl ?_
            simp only [go_sem, Nat.reduceEqDiff, Nat.reduceBEq, Nat.reduceAdd, Nat.reduceMul, Nat.reduceSub, Nat.reduceLeDiff, Nat.reduceLT, reduceIte, reduceCtorEq, Int.reduceToNat, Int.reduceLE, Int.reduceLT, Int.reduceNeg, Bool.not_not, and_self, Bool.and_eq_false_iff, Int.cast_ofNat_Int, Int.reduceAdd, Int.reduceSub, Int.reduceMul, Int.reduceEq, Int.reduceNe]
            refine runR_callg (by simp only [go_sem, Nat.reduceEqDiff, Nat.reduceBEq, Nat.reduceAdd, Nat.reduceMul, Nat.reduceSub, Nat.reduceLeDiff, Nat.reduceLT, reduceIte, reduceCtorEq, Int.reduceToNat, Int.reduceLE, Int.reduceLT, Int.reduceNeg, Bool.not_not, and_self, Bool.and_eq_false_iff, Int.cast_ofNat_Int, Int.reduceAdd, Int.reduceSub, Int.reduceMul, Int.reduceEq, Int.reduceNe]) (by simp only [go_sem, Nat.reduceEqDiff, Nat.reduceBEq, Nat.reduceAdd, Nat.reduceMul, Nat.reduceSub, Nat.reduceLeDiff, Nat.reduceLT, reduceIte, reduceCtorEq, Int.reduceToNat, Int.reduceLE, Int.reduceLT, Int.reduceNeg, Bool.not_not, and_self, Bool.and_eq_false_iff, Int.cast_ofNat_Int, Int.reduceAdd, Int.reduceSub, Int.reduceMul, Int.reduceEq, Int.reduceNe]) rfl (fun _ => ra) (.inl rfl) ?_
            simp only [go_sem, Nat.reduceEqDiff, Nat.reduceBEq, Nat.reduceAdd, Nat.reduceMul, Nat.reduceSub, Nat.reduceLeDiff, Nat.reduceLT, reduceIte, reduceCtorEq, Int.reduceToNat, Int.reduceLE, Int.reduceLT, Int.reduceNeg, Bool.not_not, and_self, Bool.and_eq_false_iff, Int.cast_ofNat_Int, Int.reduceAdd, Int.reduceSub, Int.reduceMul, Int.reduceEq, Int.reduceNe]
            refine runR_callg (by simp only [go_sem, Nat.reduceEqDiff, Nat.reduceBEq, Nat.reduceAdd, Nat.reduceMul, Nat.reduceSub, Nat.reduceLeDiff, Nat.reduceLT, reduceIte, reduceCtorEq, Int.reduceToNat, Int.reduceLE, Int.reduceLT, Int.reduceNeg, Bool.not_not, and_self, Bool.and_eq_false_iff, Int.cast_ofNat_Int, Int.reduceAdd, Int.reduceSub, Int.reduceMul, Int.reduceEq, Int.reduceNe]) (by simp only [go_sem, Nat.reduceEqDiff, Nat.reduceBEq, Nat.reduceAdd, Nat.reduceMul, Nat.reduceSub, Nat.reduceLeDiff, Nat.reduceLT, reduceIte, reduceCtorEq, Int.reduceToNat, Int.reduceLE, Int.reduceLT, Int.reduceNeg, Bool.not_not, and_self, Bool.and_eq_false_iff, Int.cast_ofNat_Int, Int.reduceAdd, Int.reduceSub, Int.reduceMul, Int.reduceEq, Int.reduceNe]) rfl (fun _ => rb) (.inl rfl) ?_
            simp only [go_sem, Nat.reduceEqDiff, Nat.reduceBEq, Nat.reduceAdd, Nat.reduceMul, Nat.reduceSub, Nat.reduceLeDiff, Nat.reduceLT, reduceIte, reduceCtorEq, Int.reduceToNat, Int.reduceLE, Int.reduceLT, Int.reduceNeg, Bool.not_not, and_self, Bool.and_eq_false_iff, Int.cast_ofNat_Int, Int.reduceAdd, Int.reduceSub, Int.reduceMul, Int.reduceEq, Int.reduceNe]
            refine runR_callgf (by simp only [go_sem, Nat.reduceEqDiff, Nat.reduceBEq, Nat.reduceAdd, Nat.reduceMul, Nat.reduceSub, Nat.reduceLeDiff, Nat.reduceLT, reduceIte, reduceCtorEq, Int.reduceToNat, Int.reduceLE, Int.reduceLT, Int.reduceNeg, Bool.not_not, and_self, Bool.and_eq_false_iff, Int.cast_ofNat_Int, Int.reduceAdd, Int.reduceSub, Int.reduceMul, Int.reduceEq, Int.reduceNe]) (by simp only [go_sem, Nat.reduceEqDiff, Nat.reduceBEq, Nat.reduceAdd, Nat.reduceMul, Nat.reduceSub, Nat.reduceLeDiff, Nat.reduceLT, reduceIte, reduceCtorEq, Int.reduceToNat, Int.reduceLE, Int.reduceLT, Int.reduceNeg, Bool.not_not, and_self, Bool.and_eq_false_iff, Int.cast_ofNat_Int, Int.reduceAdd, Int.reduceSub, Int.reduceMul, Int.reduceEq, Int.reduceNe]) (by simp only [go_sem, Nat.reduceEqDiff, Nat.reduceBEq, Nat.reduceAdd, Nat.reduceMul, Nat.reduceSub, Nat.reduceLeDiff, Nat.reduceLT, reduceIte, reduceCtorEq, Int.reduceToNat, Int.reduceLE, Int.reduceLT, Int.reduceNeg, Bool.not_not, and_self, Bool.and_eq_false_iff, Int.cast_ofNat_Int, Int.reduceAdd, Int.reduceSub, Int.reduceMul, Int.reduceEq, Int.reduceNe] <;> rfl) (fun _ => rc) rfl ?_
            simp only [go_sem, Nat.reduceEqDiff, Nat.reduceBEq, Nat.reduceAdd, Nat.reduceMul, Nat.reduceSub, Nat.reduceLeDiff, Nat.reduceLT, reduceIte, reduceCtorEq, Int.reduceToNat, Int.reduceLE, Int.reduceLT, Int.reduceNeg, Bool.not_not, and_self, Bool.and_eq_false_iff, Int.cast_ofNat_Int, Int.reduceAdd, Int.reduceSub, Int.reduceMul, Int.reduceEq, Int.reduceNe]
            refine runR_callgf (by simp only [go_sem, Nat.reduceEqDiff, Nat.reduceBEq, Nat.reduceAdd, Nat.reduceMul, Nat.reduceSub, Nat.reduceLeDiff, Nat.reduceLT, reduceIte, reduceCtorEq, Int.reduceToNat, Int.reduceLE, Int.reduceLT, Int.reduceNeg, Bool.not_not, and_self, Bool.and_eq_false_iff, Int.cast_ofNat_Int, Int.reduceAdd, Int.reduceSub, Int.reduceMul, Int.reduceEq, Int.reduceNe]) (by simp only [go_sem, Nat.reduceEqDiff, Nat.reduceBEq, Nat.reduceAdd, Nat.reduceMul, Nat.reduceSub, Nat.reduceLeDiff, Nat.reduceLT, reduceIte, reduceCtorEq, Int.reduceToNat, Int.reduceLE, Int.reduceLT, Int.reduceNeg, Bool.not_not, and_self, Bool.and_eq_false_iff, Int.cast_ofNat_Int, Int.reduceAdd, Int.reduceSub, Int.reduceMul, Int.reduceEq, Int.reduceNe]) (by simp only [go_sem, Nat.reduceEqDiff, Nat.reduceBEq, Nat.reduceAdd, Nat.reduceMul, Nat.reduceSub, Nat.reduceLeDiff, Nat.reduceLT, reduceIte, reduceCtorEq, Int.reduceToNat, Int.reduceLE, Int.reduceLT, Int.reduceNeg, Bool.not_not, and_self, Bool.and_eq_false_iff, Int.cast_ofNat_Int, Int.reduceAdd, Int.reduceSub, Int.reduceMul, Int.reduceEq, Int.reduceNe] <;> rfl) (fun _ => fn22) rfl ?_
            simp only [go_sem, Nat.reduceEqDiff, Nat.reduceBEq, Nat.reduceAdd, Nat.reduceMul, Nat.reduceSub, Nat.reduceLeDiff, Nat.reduceLT, reduceIte, reduceCtorEq, Int.reduceToNat, Int.reduceLE, Int.reduceLT, Int.reduceNeg, Bool.not_not, and_self, Bool.and_eq_false_iff, Int.cast_ofNat_Int, Int.reduceAdd, Int.reduceSub, Int.reduceMul, Int.reduceEq, Int.reduceNe]
          | false =>
            rw [hz9, if_neg (by simp)] at hlz
            simp only [go_sem, Nat.reduceEqDiff, Nat.reduceBEq, Nat.reduceAdd, Nat.reduceMul, Nat.reduceSub, Nat.reduceLeDiff, Nat.reduceLT, reduceIte, reduceCtorEq, Int.reduceToNat, Int.reduceLE, Int.reduceLT, Int.reduceNeg, Bool.not_not, and_self, Bool.and_eq_false_iff, Int.cast_ofNat_Int, Int.reduceAdd, Int.reduceSub, Int.reduceMul, Int.reduceEq, Int.reduceNe, B9_1, R9_1, show ¬ ((cutS q).length : Int) < ((cutS q).length : Int) by omega, hlz, like_T]
            refine runR_callgf (by simp only [go_sem, Nat.reduceEqDiff, Nat.reduceBEq, Nat.reduceAdd, Nat.reduceMul, Nat.reduceSub, Nat.reduceLeDiff, Nat.reduceLT, reduceIte, reduceCtorEq, Int.reduceToNat, Int.reduceLE, Int.reduceLT, Int.reduceNeg, Bool.not_not, and_self, Bool.and_eq_false_iff, Int.cast_ofNat_Int, Int.reduceAdd, Int.reduceSub, Int.reduceMul, Int.reduceEq, Int.reduceNe]) (by simp only [go_sem, Nat.reduceEqDiff, Nat.reduceBEq, Nat.reduceAdd, Nat.reduceMul, Nat.reduceSub, Nat.reduceLeDiff, Nat.reduceLT, reduceIte, reduceCtorEq, Int.reduceToNat, Int.reduceLE, Int.reduceLT, Int.reduceNeg, Bool.not_not, and_self, Bool.and_eq_false_iff, Int.cast_ofNat_Int, Int.reduceAdd, Int.reduceSub, Int.reduceMul, Int.reduceEq, Int.reduceNe]) (by simp only [go_sem, Nat.reduceEqDiff, Nat.reduceBEq, Nat.reduceAdd, Nat.reduceMul, Nat.reduceSub, Nat.reduceLeDiff, Nat.reduceLT, reduceIte, reduceCtorEq, Int.reduceToNat, Int.reduceLE, Int.reduceLT, Int.reduceNeg, Bool.not_not, and_self, Bool.and_eq_false_iff, Int.cast_ofNat_Int, Int.reduceAdd, Int.reduceSub, Int.reduceMul, Int.reduceEq, Int.reduceNe] <;> rfl) (fun _ => fn26 O (by omega)) rfl ?_
            cases hto : topicB O with
            | false =>
              simp only [go_sem, Nat.reduceEqDiff, Nat.reduceBEq, Nat.reduceAdd, Nat.reduceMul, Nat.reduceSub, Nat.reduceLeDiff, Nat.reduceLT, reduceIte, reduceCtorEq, Int.reduceToNat, Int.reduceLE, Int.reduceLT, Int.reduceNeg, Bool.not_not, and_self, Bool.and_eq_false_iff, Int.cast_ofNat_Int, Int.reduceAdd, Int.reduceSub, Int.reduceMul, Int.reduceEq, Int.reduceNe]
              refine runR_callg (by simp only [go_sem, Nat.reduceEqDiff, Nat.reduceBEq, Nat.reduceAdd, Nat.reduceMul, Nat.reduceSub, Nat.reduceLeDiff, Nat.reduceLT, reduceIte, reduceCtorEq, Int.reduceToNat, Int.reduceLE, Int.reduceLT, Int.reduceNeg, Bool.not_not, and_self, Bool.and_eq_false_iff, Int.cast_ofNat_Int, Int.reduceAdd, Int.reduceSub, Int.reduceMul, Int.reduceEq, Int.reduceNe]) (by simp only [go_sem, Nat.reduceEqDiff, Nat.reduceBEq, Nat.reduceAdd, Nat.reduceMul, Nat.reduceSub, Nat.reduceLeDiff, Nat.reduceLT, reduceIte, reduceCtorEq, Int.reduceToNat, Int.reduceLE, Int.reduceLT, Int.reduceNeg, Bool.not_not, and_self, Bool.and_eq_false_iff, Int.cast_ofNat_Int, Int.reduceAdd, Int.reduceSub, Int.reduceMul, Int.reduceEq, Int.reduceNe]) rfl (fun _ => ra) (.inl rfl) ?_
              simp only [go_sem, Nat.reduceEqDiff, Nat.reduceBEq, Nat.reduceAdd, Nat.reduceMul, Nat.reduceSub, Nat.reduceLeDiff, Nat.reduceLT, reduceIte, reduceCtorEq, Int.reduceToNat, Int.reduceLE, Int.reduceLT, Int.reduceNeg, Bool.not_not, and_self, Bool.and_eq_false_iff, Int.cast_ofNat_Int, Int.reduceAdd, Int.reduceSub, Int.reduceMul, Int.reduceEq, Int.reduceNe]
              refine runR_callg (by simp only [go_sem, Nat.reduceEqDiff, Nat.reduceBEq, Nat.reduceAdd, Nat.reduceMul, Nat.reduceSub, Nat.reduceLeDiff, Nat.reduceLT, reduceIte, reduceCtorEq, Int.reduceToNat, Int.reduceLE, Int.reduceLT, Int.reduceNeg, Bool.not_not, and_self, Bool.and_eq_false_iff, Int.cast_ofNat_Int, Int.reduceAdd, Int.reduceSub, Int.reduceMul, Int.reduceEq, Int.reduceNe]) (by simp only [go_sem, Nat.reduceEqDiff, Nat.reduceBEq, Nat.reduceAdd, Nat.reduceMul, Nat.reduceSub, Nat.reduceLeDiff, Nat.reduceLT, reduceIte, reduceCtorEq, Int.reduceToNat, Int.reduceLE, Int.reduceLT, Int.reduceNeg, Bool.not_not, and_self, Bool.and_eq_false_iff, Int.cast_ofNat_Int, Int.reduceAdd, Int.reduceSub, Int.reduceMul, Int.reduceEq, Int.reduceNe]) rfl (fun _ => rb) (.inl rfl) ?_
              simp only [go_sem, Nat.reduceEqDiff, Nat.reduceBEq, Nat.reduceAdd, Nat.reduceMul, Nat.reduceSub, Nat.reduceLeDiff, Nat.reduceLT, reduceIte, reduceCtorEq, Int.reduceToNat, Int.reduceLE, Int.reduceLT, Int.reduceNeg, Bool.not_not, and_self, Bool.and_eq_false_iff, Int.cast_ofNat_Int, Int.reduceAdd, Int.reduceSub, Int.reduceMul, Int.reduceEq, Int.reduceNe]
              refine runR_callgf (by simp only [go_sem, Nat.reduceEqDiff, Nat.reduceBEq, Nat.reduceAdd, Nat.reduceMul, Nat.reduceSub, Nat.reduceLeDiff, Nat.reduceLT, reduceIte, reduceCtorEq, Int.reduceToNat, Int.reduceLE, Int.reduceLT, Int.reduceNeg, Bool.not_not, and_self, Bool.and_eq_false_iff, Int.cast_ofNat_Int, Int.reduceAdd, Int.reduceSub, Int.reduceMul, Int.reduceEq, Int.reduceNe]) (by simp only [go_sem, Nat.reduceEqDiff, Nat.reduceBEq, Nat.reduceAdd, Nat.reduceMul, Nat.reduceSub, Nat.reduceLeDiff, Nat.reduceLT, reduceIte, reduceCtorEq, Int.reduceToNat, Int.reduceLE, Int.reduceLT, Int.reduceNeg, Bool.not_not, and_self, Bool.and_eq_false_iff, Int.cast_ofNat_Int, Int.reduceAdd, Int.reduceSub, Int.reduceMul, Int.reduceEq, Int.reduceNe]) (by simp only [go_sem, Nat.reduceEqDiff, Nat.reduceBEq, Nat.reduceAdd, Nat.reduceMul, Nat.reduceSub, Nat.reduceLeDiff, Nat.reduceLT, reduceIte, reduceCtorEq, Int.reduceToNat, Int.reduceLE, Int.reduceLT, Int.reduceNeg, Bool.not_not, and_self, Bool.and_eq_false_iff, Int.cast_ofNat_Int, Int.reduceAdd, Int.reduceSub, Int.reduceMul, Int.reduceEq, Int.reduceNe] <;> rfl) (fun _ => rc) rfl ?_
              simp only [go_sem, Nat.reduceEqDiff, Nat.reduceBEq, Nat.reduceAdd, Nat.reduceMul, Nat.reduceSub, Nat.reduceLeDiff, Nat.reduceLT, reduceIte, reduceCtorEq, Int.reduceToNat, Int.reduceLE, Int.reduceLT, Int.reduceNeg, Bool.not_not, and_self, Bool.and_eq_false_iff, Int.cast_ofNat_Int, Int.reduceAdd, Int.reduceSub, Int.reduceMul, Int.reduceEq, Int.reduceNe]
              refine runR_callgf (by simp only [go_sem, Nat.reduceEqDiff, Nat.reduceBEq, Nat.reduceAdd, Nat.reduceMul, Nat.reduceSub, Nat.reduceLeDiff, Nat.reduceLT, reduceIte, reduceCtorEq, Int.reduceToNat, Int.reduceLE, Int.reduceLT, Int.reduceNeg, Bool.not_not, and_self, Bool.and_eq_false_iff, Int.cast_ofNat_Int, Int.reduceAdd, Int.reduceSub, Int.reduceMul, Int.reduceEq, Int.reduceNe]) (by simp only [go_sem, Nat.reduceEqDiff, Nat.reduceBEq, Nat.reduceAdd, Nat.reduceMul, Nat.reduceSub, Nat.reduceLeDiff, Nat.reduceLT, reduceIte, reduceCtorEq, Int.reduceToNat, Int.reduceLE, Int.reduceLT, Int.reduceNeg, Bool.not_not, and_self, Bool.and_eq_false_iff, Int.cast_ofNat_Int, Int.reduceAdd, Int.reduceSub, Int.reduceMul, Int.reduceEq, Int.reduceNe]) (by simp only [go_sem, Nat.reduceEqDiff, Nat.reduceBEq, Nat.reduceAdd, Nat.reduceMul, Nat.reduceSub, Nat.reduceLeDiff, Nat.reduceLT, reduceIte, reduceCtorEq, Int.reduceToNat, Int.reduceLE, Int.reduceLT, Int.reduceNeg, Bool.not_not, and_self, Bool.and_eq_false_iff, Int.cast_ofNat_Int, Int.reduceAdd, Int.reduceSub, Int.reduceMul, Int.reduceEq, Int.reduceNe] <;> rfl) (fun _ => fn22) rfl ?_
              simp only [go_sem, Nat.reduceEqDiff, Nat.reduceBEq, Nat.reduceAdd, Nat.reduceMul, Nat.reduceSub, Nat.reduceLeDiff, Nat.reduceLT, reduceIte, reduceCtorEq, Int.reduceToNat, Int.reduceLE, Int.reduceLT, Int.reduceNeg, Bool.not_not, and_self, Bool.and_eq_false_iff, Int.cast_ofNat_Int, Int.reduceAdd, Int.reduceSub, Int.reduceMul, Int.reduceEq, Int.reduceNe]
            | true =>
              have hAB := hsame hz9 hto
              subst hAB
              rw [decide_eq_true rfl] at rc
              simp only [go_sem, Nat.reduceEqDiff, Nat.reduceBEq, Nat.reduceAdd, Nat.reduceMul, Nat.reduceSub, Nat.reduceLeDiff, Nat.reduceLT, reduceIte, reduceCtorEq, Int.reduceToNat, Int.reduceLE, Int.reduceLT, Int.reduceNeg, Bool.not_not, and_self, Bool.and_eq_false_iff, Int.cast_ofNat_Int, Int.reduceAdd, Int.reduceSub, Int.reduceMul, Int.reduceEq, Int.reduceNe]
              refine runR_callg (by simp only [go_sem, Nat.reduceEqDiff, Nat.reduceBEq, Nat.reduceAdd, Nat.reduceMul, Nat.reduceSub, Nat.reduceLeDiff, Nat.reduceLT, reduceIte, reduceCtorEq, Int.reduceToNat, Int.reduceLE, Int.reduceLT, Int.reduceNeg, Bool.not_not, and_self, Bool.and_eq_false_iff, Int.cast_ofNat_Int, Int.reduceAdd, Int.reduceSub, Int.reduceMul, Int.reduceEq, Int.reduceNe]) (by simp only [go_sem, Nat.reduceEqDiff, Nat.reduceBEq, Nat.reduceAdd, Nat.reduceMul, Nat.reduceSub, Nat.reduceLeDiff, Nat.reduceLT, reduceIte, reduceCtorEq, Int.reduceToNat, Int.reduceLE, Int.reduceLT, Int.reduceNeg, Bool.not_not, and_self, Bool.and_eq_false_iff, Int.cast_ofNat_Int, Int.reduceAdd, Int.reduceSub, Int.reduceMul, Int.reduceEq, Int.reduceNe]) rfl (fun _ => ra) (.inl rfl) ?_
              simp only [go_sem, Nat.reduceEqDiff, Nat.reduceBEq, Nat.reduceAdd, Nat.reduceMul, Nat.reduceSub, Nat.reduceLeDiff, Nat.reduceLT, reduceIte, reduceCtorEq, Int.reduceToNat, Int.reduceLE, Int.reduceLT, Int.reduceNeg, Bool.not_not, and_self, Bool.and_eq_false_iff, Int.cast_ofNat_Int, Int.reduceAdd, Int.reduceSub, Int.reduceMul, Int.reduceEq, Int.reduceNe]
              refine runR_callg (by simp only [go_sem, Nat.reduceEqDiff, Nat.reduceBEq, Nat.reduceAdd, Nat.reduceMul, Nat.reduceSub, Nat.reduceLeDiff, Nat.reduceLT, reduceIte, reduceCtorEq, Int.reduceToNat, Int.reduceLE, Int.reduceLT, Int.reduceNeg, Bool.not_not, and_self, Bool.and_eq_false_iff, Int.cast_ofNat_Int, Int.reduceAdd, Int.reduceSub, Int.reduceMul, Int.reduceEq, Int.reduceNe]) (by simp only [go_sem, Nat.reduceEqDiff, Nat.reduceBEq, Nat.reduceAdd, Nat.reduceMul, Nat.reduceSub, Nat.reduceLeDiff, Nat.reduceLT, reduceIte, reduceCtorEq, Int.reduceToNat, Int.reduceLE, Int.reduceLT, Int.reduceNeg, Bool.not_not, and_self, Bool.and_eq_false_iff, Int.cast_ofNat_Int, Int.reduceAdd, Int.reduceSub, Int.reduceMul, Int.reduceEq, Int.reduceNe]) rfl (fun _ => rb) (.inl rfl) ?_
              simp only [go_sem, Nat.reduceEqDiff, Nat.reduceBEq, Nat.reduceAdd, Nat.reduceMul, Nat.reduceSub, Nat.reduceLeDiff, Nat.reduceLT, reduceIte, reduceCtorEq, Int.reduceToNat, Int.reduceLE, Int.reduceLT, Int.reduceNeg, Bool.not_not, and_self, Bool.and_eq_false_iff, Int.cast_ofNat_Int, Int.reduceAdd, Int.reduceSub, Int.reduceMul, Int.reduceEq, Int.reduceNe]
              refine runR_callgf (by simp only [go_sem, Nat.reduceEqDiff, Nat.reduceBEq, Nat.reduceAdd, Nat.reduceMul, Nat.reduceSub, Nat.reduceLeDiff, Nat.reduceLT, reduceIte, reduceCtorEq, Int.reduceToNat, Int.reduceLE, Int.reduceLT, Int.reduceNeg, Bool.not_not, and_self, Bool.and_eq_false_iff, Int.cast_ofNat_Int, Int.reduceAdd, Int.reduceSub, Int.reduceMul, Int.reduceEq, Int.reduceNe]) (by simp only [go_sem, Nat.reduceEqDiff, Nat.reduceBEq, Nat.reduceAdd, Nat.reduceMul, Nat.reduceSub, Nat.reduceLeDiff, Nat.reduceLT, reduceIte, reduceCtorEq, Int.reduceToNat, Int.reduceLE, Int.reduceLT, Int.reduceNeg, Bool.not_not, and_self, Bool.and_eq_false_iff, Int.cast_ofNat_Int, Int.reduceAdd, Int.reduceSub, Int.reduceMul, Int.reduceEq, Int.reduceNe]) (by simp only [go_sem, Nat.reduceEqDiff, Nat.reduceBEq, Nat.reduceAdd, Nat.reduceMul, Nat.reduceSub, Nat.reduceLeDiff, Nat.reduceLT, reduceIte, reduceCtorEq, Int.reduceToNat, Int.reduceLE, Int.reduceLT, Int.reduceNeg, Bool.not_not, and_self, Bool.and_eq_false_iff, Int.cast_ofNat_Int, Int.reduceAdd, Int.reduceSub, Int.reduceMul, Int.reduceEq, Int.reduceNe] <;> rfl) (fun _ => rc) rfl ?_
              simp only [go_sem, Nat.reduceEqDiff, Nat.reduceBEq, Nat.reduceAdd, Nat.reduceMul, Nat.reduceSub, Nat.reduceLeDiff, Nat.reduceLT, reduceIte, reduceCtorEq, Int.reduceToNat, Int.reduceLE, Int.reduceLT, Int.reduceNeg, Bool.not_not, and_self, Bool.and_eq_false_iff, Int.cast_ofNat_Int, Int.reduceAdd, Int.reduceSub, Int.reduceMul, Int.reduceEq, Int.reduceNe]
              refine runR_callgf (by simp only [go_sem, Nat.reduceEqDiff, Nat.reduceBEq, Nat.reduceAdd, Nat.reduceMul, Nat.reduceSub, Nat.reduceLeDiff, Nat.reduceLT, reduceIte, reduceCtorEq, Int.reduceToNat, Int.reduceLE, Int.reduceLT, Int.reduceNeg, Bool.not_not, and_self, Bool.and_eq_false_iff, Int.cast_ofNat_Int, Int.reduceAdd, Int.reduceSub, Int.reduceMul, Int.reduceEq, Int.reduceNe]) (by simp only [go_sem, Nat.reduceEqDiff, Nat.reduceBEq, Nat.reduceAdd, Nat.reduceMul, Nat.reduceSub, Nat.reduceLeDiff, Nat.reduceLT, reduceIte, reduceCtorEq, Int.reduceToNat, Int.reduceLE, Int.reduceLT, Int.reduceNeg, Bool.not_not, and_self, Bool.and_eq_false_iff, Int.cast_ofNat_Int, Int.reduceAdd, Int.reduceSub, Int.reduceMul, Int.reduceEq, Int.reduceNe]) (by simp only [go_sem, Nat.reduceEqDiff, Nat.reduceBEq, Nat.reduceAdd, Nat.reduceMul, Nat.reduceSub, Nat.reduceLeDiff, Nat.reduceLT, reduceIte, reduceCtorEq, Int.reduceToNat, Int.reduceLE, Int.reduceLT, Int.reduceNeg, Bool.not_not, and_self, Bool.and_eq_false_iff, Int.cast_ofNat_Int, Int.reduceAdd, Int.reduceSub, Int.reduceMul, Int.reduceEq, Int.reduceNe] <;> rfl) (fun _ => fn22) rfl ?_
              simp only [go_sem, Nat.reduceEqDiff, Nat.reduceBEq, Nat.reduceAdd, Nat.reduceMul, Nat.reduceSub, Nat.reduceLeDiff, Nat.reduceLT, reduceIte, reduceCtorEq, Int.reduceToNat, Int.reduceLE, Int.reduceLT, Int.reduceNeg, Bool.not_not, and_self, Bool.and_eq_false_iff, Int.cast_ofNat_Int, Int.reduceAdd, Int.reduceSub, Int.reduceMul, Int.reduceEq, Int.reduceNe]
  · generalize ofE gl 200 = e2 at h1
    simp only [go_sem, Nat.reduceEqDiff, Nat.reduceBEq, Nat.reduceAdd, Nat.reduceMul, Nat.reduceSub, Nat.reduceLeDiff, Nat.reduceLT, reduceIte, reduceCtorEq, Int.reduceToNat, Int.reduceLE, Int.reduceLT, Int.reduceNeg, Bool.not_not, and_self, Bool.and_eq_false_iff, Int.cast_ofNat_Int, Int.reduceAdd, Int.reduceSub, Int.reduceMul, Int.reduceEq, Int.reduceNe, h1]
    refine runR_callgf (by simp only [go_sem, Nat.reduceEqDiff, Nat.reduceBEq, Nat.reduceAdd, Nat.reduceMul, Nat.reduceSub, Nat.reduceLeDiff, Nat.reduceLT, reduceIte, reduceCtorEq, Int.reduceToNat, Int.reduceLE, Int.reduceLT, Int.reduceNeg, Bool.not_not, and_self, Bool.and_eq_false_iff, Int.cast_ofNat_Int, Int.reduceAdd, Int.reduceSub, Int.reduceMul, Int.reduceEq, Int.reduceNe]) (by simp only [go_sem, Nat.reduceEqDiff, Nat.reduceBEq, Nat.reduceAdd, Nat.reduceMul, Nat.reduceSub, Nat.reduceLeDiff, Nat.reduceLT, reduceIte, reduceCtorEq, Int.reduceToNat, Int.reduceLE, Int.reduceLT, Int.reduceNeg, Bool.not_not, and_self, Bool.and_eq_false_iff, Int.cast_ofNat_Int, Int.reduceAdd, Int.reduceSub, Int.reduceMul, Int.reduceEq, Int.reduceNe]) (by simp only [go_sem, Nat.reduceEqDiff, Nat.reduceBEq, Nat.reduceAdd, Nat.reduceMul, Nat.reduceSub, Nat.reduceLeDiff, Nat.reduceLT, reduceIte, reduceCtorEq, Int.reduceToNat, Int.reduceLE, Int.reduceLT, Int.reduceNeg, Bool.not_not, and_self, Bool.and_eq_false_iff, Int.cast_ofNat_Int, Int.reduceAdd, Int.reduceSub, Int.reduceMul, Int.reduceEq, Int.reduceNe] <;> rfl) (fun _ => fn26 q hts) rfl ?_
    simp only [go_sem, Nat.reduceEqDiff, Nat.reduceBEq, Nat.reduceAdd, Nat.reduceMul, Nat.reduceSub, Nat.reduceLeDiff, Nat.reduceLT, reduceIte, reduceCtorEq, Int.reduceToNat, Int.reduceLE, Int.reduceLT, Int.reduceNeg, Bool.not_not, and_self, Bool.and_eq_false_iff, Int.cast_ofNat_Int, Int.reduceAdd, Int.reduceSub, Int.reduceMul, Int.reduceEq, Int.reduceNe]
    refine runR_callf (by simp only [go_sem, Nat.reduceEqDiff, Nat.reduceBEq, Nat.reduceAdd, Nat.reduceMul, Nat.reduceSub, Nat.reduceLeDiff, Nat.reduceLT, reduceIte, reduceCtorEq, Int.reduceToNat, Int.reduceLE, Int.reduceLT, Int.reduceNeg, Bool.not_not, and_self, Bool.and_eq_false_iff, Int.cast_ofNat_Int, Int.reduceAdd, Int.reduceSub, Int.reduceMul, Int.reduceEq, Int.reduceNe]) (by simp only [go_sem, Nat.reduceEqDiff, Nat.reduceBEq, Nat.reduceAdd, Nat.reduceMul, Nat.reduceSub, Nat.reduceLeDiff, Nat.reduceLT, reduceIte, reduceCtorEq, Int.reduceToNat, Int.reduceLE, Int.reduceLT, Int.reduceNeg, Bool.not_not, and_self, Bool.and_eq_false_iff, Int.cast_ofNat_Int, Int.reduceAdd, Int.reduceSub, Int.reduceMul, Int.reduceEq, Int.reduceNe] <;> rfl) (fn22) ⟨rfl, trivial⟩ trivial ?_
    simp only [go_sem, Nat.reduceEqDiff, Nat.reduceBEq, Nat.reduceAdd, Nat.reduceMul, Nat.reduceSub, Nat.reduceLeDiff, Nat.reduceLT, reduceIte, reduceCtorEq, Int.reduceToNat, Int.reduceLE, Int.reduceLT, Int.reduceNeg, Bool.not_not, and_self, Bool.and_eq_false_iff, Int.cast_ofNat_Int, Int.reduceAdd, Int.reduceSub, Int.reduceMul, Int.reduceEq, Int.reduceNe]
end Go.Vc
