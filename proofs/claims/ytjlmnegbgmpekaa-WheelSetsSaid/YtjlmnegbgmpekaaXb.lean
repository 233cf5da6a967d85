/- A part of the proofs of the seat Ytjlmnegbgmpekaa: the contracts of functions, each proved out of its code. -/
import Derived.Test.YtjlmnegbgmpekaaVh
import Derived.Test.YtjlmnegbgmpekaaProg
import Derived.Test.YtjlmnegbgmpekaaWz
namespace Go.Vc
open Go.Proofs
set_option maxRecDepth 100000

/-- 'trystlaw11.WheelSets' -/
def M19 : MC := (.seq (.reg [⟨(some 6), none, (.q (.mv (.c (.bool false))))⟩] [] [0, 1, 2] [1021]) (.seq (.reg [⟨(some 20), none, (.q (.mv (.t 0)))⟩, ⟨(some 21), none, (.call (.f 53) [(.t 20)])⟩,
  ⟨(some 0), none, (.q (.mv (.t 21)))⟩] [] [0, 1, 2] [1021]) (.seq (.reg [⟨(some 22), none, (.q (.mv (.t 0)))⟩, ⟨(some 23), none, (.call (.f 53) [(.t 22)])⟩, ⟨(some 7), none,
  (.q (.mv (.t 23)))⟩] [] [0, 1, 2, 7] [1021, 1023]) (.seq (.reg [⟨(some 25), none, (.q (.mv (.t 0)))⟩, ⟨(some 26), none, (.q (.mv (.t 1)))⟩, ⟨(some 27), none, (.q (.mv (.t 2)))⟩, ⟨(some 28), none,
  (.call (.f 62) [(.t 25), (.t 26), (.t 27)])⟩, ⟨(some 24), none, (.q (.mv (.t 28)))⟩, ⟨(some 29), none, (.q (.ext (.t 24) 0))⟩, ⟨(some 30), none, (.q (.ext (.t 24) 1))⟩, ⟨(some 8), none,
  (.q (.mv (.t 29)))⟩, ⟨(some 9), none, (.q (.mv (.t 30)))⟩] [] [0, 1, 2, 7, 8, 9] [1021, 1023, 1028]) (.seq (.reg [⟨(some 32), none, (.q (.mv (.t 0)))⟩, ⟨(some 33), none, (.q (.mv (.t 1)))⟩,
  ⟨(some 34), none, (.q (.mv (.t 2)))⟩, ⟨(some 35), none, (.call (.f 65) [(.t 32), (.t 33), (.t 34)])⟩, ⟨(some 31), none, (.q (.mv (.t 35)))⟩, ⟨(some 36), none, (.q (.ext (.t 31) 0))⟩, ⟨(some 37),
  none, (.q (.ext (.t 31) 1))⟩, ⟨(some 10), none, (.q (.mv (.t 36)))⟩, ⟨(some 11), none, (.q (.mv (.t 37)))⟩] [] [0, 1, 7, 8, 9, 10, 11] [1021, 1023, 1028, 1035]) (.seq (.reg [⟨(some 39), none,
  (.q (.mv (.t 0)))⟩, ⟨(some 40), none, (.q (.mv (.t 1)))⟩, ⟨(some 41), none, (.call (.f 64) [(.t 39), (.t 40)])⟩, ⟨(some 38), none, (.q (.mv (.t 41)))⟩, ⟨(some 42), none, (.q (.ext (.t 38) 0))⟩,
  ⟨(some 43), none, (.q (.ext (.t 38) 1))⟩, ⟨(some 12), none, (.q (.mv (.t 42)))⟩, ⟨(some 13), none, (.q (.mv (.t 43)))⟩] [] [0, 1, 7, 8, 9, 10, 11, 12, 13] [1021, 1023, 1028, 1035, 1041])
  (.seq (.reg [⟨(some 45), none, (.q (.mv (.t 0)))⟩, ⟨(some 46), none, (.q (.mv (.t 1)))⟩, ⟨(some 47), none, (.call (.f 66) [(.t 45), (.t 46)])⟩, ⟨(some 44), none, (.q (.mv (.t 47)))⟩, ⟨(some 48),
  none, (.q (.ext (.t 44) 0))⟩, ⟨(some 49), none, (.q (.ext (.t 44) 1))⟩, ⟨(some 14), none, (.q (.mv (.t 48)))⟩, ⟨(some 15), none, (.q (.mv (.t 49)))⟩] [] [0, 1, 7, 8, 9, 10, 11, 12, 13, 14,
  15] [1021, 1023, 1028, 1035, 1041, 1047]) (.seq (.seq (.reg [⟨(some 50), none, (.q (.mv (.t 8)))⟩, ⟨(some 51), none, (.q (.mv (.t 10)))⟩, ⟨(some 52), none, (.call (.f 58) [(.t 50), (.t 51)])⟩,
  ⟨(some 53), none, (.q (.not (.t 52)))⟩, ⟨(some 54), none, (.q (.mv (.t 53)))⟩, ⟨(some 55), (some (54, false)), (.q (.mv (.t 9)))⟩, ⟨(some 56), (some (54, false)), (.q (.mv (.t 11)))⟩, ⟨(some 57),
  (some (54, false)), (.q (.bin .neq (.t 55) (.t 56)))⟩, ⟨(some 58), none, (.q (.pick (.t 54) (.c (.bool true)) (.t 57)))⟩, ⟨(some 59), none, (.q (.mv (.t 58)))⟩, ⟨(some 60), (some (59, false)),
  (.q (.mv (.t 12)))⟩, ⟨(some 61), (some (59, false)), (.q (.mv (.t 14)))⟩, ⟨(some 62), (some (59, false)), (.q (.bin .neq (.t 60) (.t 61)))⟩, ⟨(some 63), none, (.q (.pick (.t 59) (.c (.bool true))
  (.t 62)))⟩, ⟨(some 64), none, (.q (.mv (.t 63)))⟩, ⟨(some 65), (some (64, false)), (.q (.mv (.t 13)))⟩, ⟨(some 66), (some (64, false)), (.q (.mv (.t 15)))⟩, ⟨(some 67), (some (64, false)),
  (.q (.beq true (.t 65) (.t 66)))⟩, ⟨(some 68), none, (.q (.pick (.t 64) (.c (.bool true)) (.t 67)))⟩, ⟨(some 69), none, (.q (.mv (.t 68)))⟩, ⟨(some 70), (some (69, false)), (.q (.mv (.t 0)))⟩,
  ⟨(some 71), (some (69, false)), (.call (.f 60) [(.t 70)])⟩, ⟨(some 72), (some (69, false)), (.q (.bin .eql (.t 71) (.c (.int .i64 0))))⟩, ⟨(some 73), (some (69, false)), (.q (.mv (.t 0)))⟩,
  ⟨(some 74), (some (69, false)), (.call (.f 55) [(.t 73)])⟩, ⟨(some 75), (some (69, false)), (.q (.beq true (.t 72) (.t 74)))⟩, ⟨(some 76), none, (.q (.pick (.t 69) (.c (.bool true))
  (.t 75)))⟩] [] [0, 1, 7, 15, 76] [1021, 1023, 1028, 1035, 1041, 1047, 1052, 1071, 1074]) (.cond (.t 76) (.seq (.reg [⟨(some 6), none, (.q (.mv (.c (.bool false))))⟩] [] [6] [1047, 1080, 1085, 1103,
  1124, 1133, 1136]) .ret) .skip)) (.seq (.reg [⟨(some 78), none, (.q (.mv (.t 0)))⟩, ⟨(some 79), none, (.q (.mv (.t 1)))⟩, ⟨(some 80), none, (.call (.f 61) [(.t 78), (.t 79)])⟩, ⟨(some 77), none,
  (.q (.mv (.t 80)))⟩, ⟨(some 81), none, (.q (.ext (.t 77) 0))⟩, ⟨(some 82), none, (.q (.ext (.t 77) 1))⟩, ⟨(some 16), none, (.q (.mv (.t 81)))⟩, ⟨(some 17), none, (.q (.mv (.t 82)))⟩] [] [0, 1, 7,
  15, 16, 17] [1021, 1023, 1047, 1080]) (.seq (.reg [⟨(some 84), none, (.q (.mv (.t 0)))⟩, ⟨(some 85), none, (.call (.f 63) [(.t 84)])⟩, ⟨(some 83), none, (.q (.mv (.t 85)))⟩, ⟨(some 86), none,
  (.q (.ext (.t 83) 0))⟩, ⟨(some 87), none, (.q (.ext (.t 83) 1))⟩, ⟨(some 18), none, (.alloc [(.pv (.sc (.int .i64 0))), (.pv (.sc (.int .u64 0)))])⟩, ⟨none, none, (.st (.t 18) (.t 86) 2)⟩,
  ⟨(some 19), none, (.q (.mv (.t 87)))⟩] [] [0, 1, 7, 15, 16, 17, 18, 19] [18, 1021, 1023, 1047, 1080, 1085]) (.seq (.seq (.reg [⟨(some 88), none, (.q (.mv (.t 0)))⟩, ⟨(some 89), none, (.call (.f 55)
  [(.t 88)])⟩, ⟨(some 90), none, (.q (.not (.t 89)))⟩] [] [0, 1, 7, 15, 16, 17, 18, 19, 90] [18, 1021, 1023, 1047, 1080, 1085, 1089]) (.cond (.t 90) (.seq (.reg [⟨(some 91), none, (.q (.mv (.t 16)))⟩,
  ⟨(some 92), none, (.q (.len (.t 91) false))⟩, ⟨(some 93), none, (.q (.bin .eql (.t 92) (.c (.int .i64 0))))⟩, ⟨(some 94), none, (.q (.mv (.t 93)))⟩, ⟨(some 95), (some (94, true)),
  (.q (.mv (.t 17)))⟩, ⟨(some 96), (some (94, true)), (.q (.not (.t 95)))⟩, ⟨(some 97), none, (.q (.pick (.t 94) (.t 96) (.c (.bool false))))⟩, ⟨(some 98), none, (.q (.mv (.t 97)))⟩, ⟨(some 99),
  (some (98, true)), (.q (.mv (.t 19)))⟩, ⟨(some 100), (some (98, true)), (.q (.not (.t 99)))⟩, ⟨(some 101), none, (.q (.pick (.t 98) (.t 100) (.c (.bool false))))⟩, ⟨(some 102), none,
  (.q (.mv (.t 101)))⟩, ⟨(some 103), (some (102, true)), (.call (.f 56) [])⟩, ⟨(some 104), none, (.q (.pick (.t 102) (.t 103) (.c (.bool false))))⟩, ⟨(some 6), none,
  (.q (.mv (.t 104)))⟩] [] [6] [1047, 1080, 1085, 1103, 1124, 1133, 1136]) .ret) .skip)) (.seq (.seq (.reg [⟨(some 105), none, (.q (.mv (.t 19)))⟩, ⟨(some 106), none, (.q (.mv (.t 0)))⟩, ⟨(some 107),
  none, (.q (.len (.t 106) false))⟩, ⟨(some 108), none, (.q (.bin .gtr (.t 107) (.c (.int .i64 0))))⟩, ⟨(some 109), none, (.q (.beq true (.t 105) (.t 108)))⟩, ⟨(some 110), none, (.q (.mv (.t 109)))⟩,
  ⟨(some 111), (some (110, false)), (.q (.mv (.t 19)))⟩, ⟨(some 112), (some (110, false)), (.q (.mv (.t 111)))⟩, ⟨(some 113), (some (112, true)), (.q (.ld (.t 18) 2 true))⟩, ⟨(some 114), (some (112,
  true)), (.q (.mv (.t 0)))⟩, ⟨(some 115), (some (112, true)), (.q (.ia (.t 114) (.c (.int .i64 0)) 2))⟩, ⟨(some 116), (some (112, true)), (.q (.ld (.t 115) 2 true))⟩, ⟨(some 117), (some (112, true)),
  (.q (.seq true [0, 0] (.t 113) (.t 116)))⟩, ⟨(some 118), (some (110, false)), (.q (.pick (.t 112) (.t 117) (.c (.bool false))))⟩, ⟨(some 119), none, (.q (.pick (.t 110) (.c (.bool true))
  (.t 118)))⟩] [] [0, 1, 7, 15, 16, 17, 119] [1021, 1023, 1047, 1080, 1085]) (.cond (.t 119) (.seq (.reg [⟨(some 6), none, (.q (.mv (.c (.bool false))))⟩] [] [6] [1047, 1080, 1085, 1103, 1124, 1133,
  1136]) .ret) .skip)) (.seq (.reg [⟨(some 120), none, (.q (.mv (.t 16)))⟩, ⟨(some 121), none, (.q (.mv (.t 0)))⟩, ⟨(some 122), none, (.q (.mv (.t 1)))⟩, ⟨(some 123), none, (.call (.f 67) [(.t 121),
  (.t 122)])⟩, ⟨(some 124), none, (.call (.f 58) [(.t 120), (.t 123)])⟩, ⟨(some 125), none, (.q (.mv (.t 124)))⟩, ⟨(some 126), (some (125, true)), (.q (.mv (.t 17)))⟩, ⟨(some 127), (some (125, true)),
  (.q (.mv (.t 15)))⟩, ⟨(some 128), (some (125, true)), (.q (.beq false (.t 126) (.t 127)))⟩, ⟨(some 129), none, (.q (.pick (.t 125) (.t 128) (.c (.bool false))))⟩, ⟨(some 130), none,
  (.q (.mv (.t 129)))⟩, ⟨(some 131), (some (130, true)), (.q (.mv (.t 0)))⟩, ⟨(some 132), (some (130, true)), (.q (.mv (.t 7)))⟩, ⟨(some 133), (some (130, true)), (.call (.f 58) [(.t 131),
  (.t 132)])⟩, ⟨(some 134), none, (.q (.pick (.t 130) (.t 133) (.c (.bool false))))⟩, ⟨(some 135), none, (.q (.mv (.t 134)))⟩, ⟨(some 136), (some (135, true)), (.call (.f 56) [])⟩, ⟨(some 137), none,
  (.q (.pick (.t 135) (.t 136) (.c (.bool false))))⟩, ⟨(some 6), none, (.q (.mv (.t 137)))⟩] [] [6] [1047, 1080, 1085, 1103, 1124, 1133, 1136]) .ret)))))))))))))
theorem mc19 : ofCode Try.prog [] Try.f19.ntmps [(0, ⟨[0, 1, 2], [1021], [], 0, [], none⟩),
    (1, ⟨[0, 1, 2], [1021], [], 0, [], none⟩),
    (2, ⟨[0, 1, 2, 7], [1021, 1023], [], 0, [], none⟩),
    (3, ⟨[0, 1, 2, 7, 8, 9], [1021, 1023, 1028], [], 0, [], none⟩),
    (4, ⟨[0, 1, 7, 8, 9, 10, 11], [1021, 1023, 1028, 1035], [], 0, [], none⟩),
    (5, ⟨[0, 1, 7, 8, 9, 10, 11, 12, 13], [1021, 1023, 1028, 1035, 1041], [], 0, [], none⟩),
    (6, ⟨[0, 1, 7, 8, 9, 10, 11, 12, 13, 14, 15], [1021, 1023, 1028, 1035, 1041, 1047], [], 0, [], none⟩),
    (7, ⟨[0, 1, 7, 15, 76], [1021, 1023, 1028, 1035, 1041, 1047, 1052, 1071, 1074], [], 0, [], none⟩),
    (8, ⟨[6], [1047, 1080, 1085, 1103, 1124, 1133, 1136], [], 0, [], none⟩),
    (9, ⟨[0, 1, 7, 15, 16, 17], [1021, 1023, 1047, 1080], [], 0, [], none⟩),
    (10, ⟨[0, 1, 7, 15, 16, 17, 18, 19], [18, 1021, 1023, 1047, 1080, 1085], [], 0, [], none⟩),
    (11, ⟨[0, 1, 7, 15, 16, 17, 18, 19, 90], [18, 1021, 1023, 1047, 1080, 1085, 1089], [], 0, [], none⟩),
    (12, ⟨[6], [1047, 1080, 1085, 1103, 1124, 1133, 1136], [], 0, [], none⟩),
    (13, ⟨[0, 1, 7, 15, 16, 17, 119], [1021, 1023, 1047, 1080, 1085], [(0, 32753), (1, 32766), (2, 32764), (3, 32760), (4, 32752), (5, 32736), (6, 32704), (7, 32640), (8, 28928), (9, 32256), (10, 31744), (11, 30720), (12, 28672), (13, 24576), (14, 16384)], 32767, [], none⟩),
    (14, ⟨[6], [1047, 1080, 1085, 1103, 1124, 1133, 1136], [], 0, [], none⟩),
    (15, ⟨[6], [1047, 1080, 1085, 1103, 1124, 1133, 1136], [], 0, [], none⟩)] (Try.f19.body.getD .skip) = some M19 := by kernel_rfl
theorem Run19 {args : List PV} {v : AV} {rs : List (Nat × List PV)} (ids : List Bool) (h : args.length ≤ 138) (hv : run Try.prog (retK [RV.tmp 6] ids v rs) M19 [] ⟨entry 0 args, []⟩) : Fn Try.prog 19 args v rs :=
  Fn_run ids (by kernel_rfl) Try.func19 (by decide) rfl mc19 (by kernel_rfl) (by rw [Try.ntmps19]; exact h) (by rw [Try.ntmps19]; decide) hv

end Go.Vc

namespace Go.Vc
open Go.Proofs
set_option linter.unusedSimpArgs false
set_option linter.unusedVariables false
set_option maxRecDepth 10000

theorem fn66 (l : List Tm) (n : Int) (hl : l.length < 100000) : Fn Try.prog 66 [tm l, pU n] (.pv (.tup [pI (atT l n).1, pB (atT l n).2])) [] := by
  refine Run66 [] (by simp) ?_
  simp only [go_sem, Nat.reduceEqDiff, Nat.reduceBEq, Nat.reduceAdd, Nat.reduceMul, Nat.reduceSub, Nat.reduceLeDiff, Nat.reduceLT, reduceIte, reduceCtorEq, Int.reduceToNat, Int.reduceLE, Int.reduceLT, Int.reduceNeg, Bool.not_not, and_self, Bool.and_eq_false_iff, Int.cast_ofNat_Int, Int.reduceAdd, Int.reduceSub, Int.reduceMul, Int.reduceEq, Int.reduceNe, M66]
  have e3 := fn55 l hl
  refine run_loop (T := Nat) (fun i => ⟨[(0, .pv (tm l)), (1, .pv (pU n)), (6, .pv (pI i))], []⟩) (fun i => i ≤ l.length ∧ ∀ j (h : j < l.length), j < i → (l[j]).id ≠ n) (fun i => l.length - i) 0 rfl ⟨Nat.zero_le _, fun j _ h => absurd h (by omega)⟩ ?_
  intro i ⟨hi, hq⟩
  by_cases hlt : i < l.length
  · cases hc : checkT l with
    | false =>
      rw [hc] at e3
      have e : atT l n = (0, false) := by unfold atT; rw [if_pos hc]
      rw [e]
      simp only [go_sem, Nat.reduceEqDiff, Nat.reduceBEq, Nat.reduceAdd, Nat.reduceMul, Nat.reduceSub, Nat.reduceLeDiff, Nat.reduceLT, reduceIte, reduceCtorEq, Int.reduceToNat, Int.reduceLE, Int.reduceLT, Int.reduceNeg, Bool.not_not, and_self, Bool.and_eq_false_iff, Int.cast_ofNat_Int, Int.reduceAdd, Int.reduceSub, Int.reduceMul, Int.reduceEq, Int.reduceNe, B66_0, R66_0, show (i : Int) < (l.length : Int) by omega]
      refine runR_callgf (by simp only [go_sem, Nat.reduceEqDiff, Nat.reduceBEq, Nat.reduceAdd, Nat.reduceMul, Nat.reduceSub, Nat.reduceLeDiff, Nat.reduceLT, reduceIte, reduceCtorEq, Int.reduceToNat, Int.reduceLE, Int.reduceLT, Int.reduceNeg, Bool.not_not, and_self, Bool.and_eq_false_iff, Int.cast_ofNat_Int, Int.reduceAdd, Int.reduceSub, Int.reduceMul, Int.reduceEq, Int.reduceNe]) (by simp only [go_sem, Nat.reduceEqDiff, Nat.reduceBEq, Nat.reduceAdd, Nat.reduceMul, Nat.reduceSub, Nat.reduceLeDiff, Nat.reduceLT, reduceIte, reduceCtorEq, Int.reduceToNat, Int.reduceLE, Int.reduceLT, Int.reduceNeg, Bool.not_not, and_self, Bool.and_eq_false_iff, Int.cast_ofNat_Int, Int.reduceAdd, Int.reduceSub, Int.reduceMul, Int.reduceEq, Int.reduceNe]) (by simp only [go_sem, Nat.reduceEqDiff, Nat.reduceBEq, Nat.reduceAdd, Nat.reduceMul, Nat.reduceSub, Nat.reduceLeDiff, Nat.reduceLT, reduceIte, reduceCtorEq, Int.reduceToNat, Int.reduceLE, Int.reduceLT, Int.reduceNeg, Bool.not_not, and_self, Bool.and_eq_false_iff, Int.cast_ofNat_Int, Int.reduceAdd, Int.reduceSub, Int.reduceMul, Int.reduceEq, Int.reduceNe] <;> rfl) (fun _ => e3) rfl ?_
      simp only [go_sem, Nat.reduceEqDiff, Nat.reduceBEq, Nat.reduceAdd, Nat.reduceMul, Nat.reduceSub, Nat.reduceLeDiff, Nat.reduceLT, reduceIte, reduceCtorEq, Int.reduceToNat, Int.reduceLE, Int.reduceLT, Int.reduceNeg, Bool.not_not, and_self, Bool.and_eq_false_iff, Int.cast_ofNat_Int, Int.reduceAdd, Int.reduceSub, Int.reduceMul, Int.reduceEq, Int.reduceNe]
    | true =>
      rw [hc] at e3
      simp only [go_sem, Nat.reduceEqDiff, Nat.reduceBEq, Nat.reduceAdd, Nat.reduceMul, Nat.reduceSub, Nat.reduceLeDiff, Nat.reduceLT, reduceIte, reduceCtorEq, Int.reduceToNat, Int.reduceLE, Int.reduceLT, Int.reduceNeg, Bool.not_not, and_self, Bool.and_eq_false_iff, Int.cast_ofNat_Int, Int.reduceAdd, Int.reduceSub, Int.reduceMul, Int.reduceEq, Int.reduceNe, B66_0, R66_0, show (i : Int) < (l.length : Int) by omega]
      refine runR_callgf (by simp only [go_sem, Nat.reduceEqDiff, Nat.reduceBEq, Nat.reduceAdd, Nat.reduceMul, Nat.reduceSub, Nat.reduceLeDiff, Nat.reduceLT, reduceIte, reduceCtorEq, Int.reduceToNat, Int.reduceLE, Int.reduceLT, Int.reduceNeg, Bool.not_not, and_self, Bool.and_eq_false_iff, Int.cast_ofNat_Int, Int.reduceAdd, Int.reduceSub, Int.reduceMul, Int.reduceEq, Int.reduceNe]) (by simp only [go_sem, Nat.reduceEqDiff, Nat.reduceBEq, Nat.reduceAdd, Nat.reduceMul, Nat.reduceSub, Nat.reduceLeDiff, Nat.reduceLT, reduceIte, reduceCtorEq, Int.reduceToNat, Int.reduceLE, Int.reduceLT, Int.reduceNeg, Bool.not_not, and_self, Bool.and_eq_false_iff, Int.cast_ofNat_Int, Int.reduceAdd, Int.reduceSub, Int.reduceMul, Int.reduceEq, Int.reduceNe]) (by simp only [go_sem, Nat.reduceEqDiff, Nat.reduceBEq, Nat.reduceAdd, Nat.reduceMul, Nat.reduceSub, Nat.reduceLeDiff, Nat.reduceLT, reduceIte, reduceCtorEq, Int.reduceToNat, Int.reduceLE, Int.reduceLT, Int.reduceNeg, Bool.not_not, and_self, Bool.and_eq_false_iff, Int.cast_ofNat_Int, Int.reduceAdd, Int.reduceSub, Int.reduceMul, Int.reduceEq, Int.reduceNe] <;> rfl) (fun _ => e3) rfl ?_
      simp only [go_sem, Nat.reduceEqDiff, Nat.reduceBEq, Nat.reduceAdd, Nat.reduceMul, Nat.reduceSub, Nat.reduceLeDiff, Nat.reduceLT, reduceIte, reduceCtorEq, Int.reduceToNat, Int.reduceLE, Int.reduceLT, Int.reduceNeg, Bool.not_not, and_self, Bool.and_eq_false_iff, Int.cast_ofNat_Int, Int.reduceAdd, Int.reduceSub, Int.reduceMul, Int.reduceEq, Int.reduceNe, wf_tm, getD_map hlt, show (i : Int) < (l.length : Int) by omega]
      refine ⟨fun he => ?_, fun he => ?_⟩
      · have e : atT l n = ((l[i]).at_, true) := by
          unfold atT
          rw [if_neg (by rw [hc]; simp)]
          rcases findT_lt l n with ⟨_, h2⟩ | ⟨k, hk, h1, h2, h3⟩
          · exact absurd he (h2 _ (List.getElem_mem hlt))
          · have : k = i := by
              by_cases hki : k < i
              · exact absurd h2 (hq k hk hki)
              · by_cases hik : i < k
                · exact absurd he (h3 i hlt hik)
                · omega
            subst this
            rw [h1, if_neg (by omega), show ((k : Int)).toNat = k by omega, getD_get hk]
        rw [e]
      · refine ⟨⟨by omega, by omega⟩, i + 1, rfl, ⟨by omega, fun j hj hji => ?_⟩, by omega⟩
        by_cases hje : j = i
        · subst hje; exact he
        · exact hq j hj (by omega)
  · have e : atT l n = (0, false) := by
      unfold atT
      cases hc : checkT l with
      | false => rfl
      | true =>
        rw [if_neg (by simp)]
        rcases findT_lt l n with ⟨h1, _⟩ | ⟨k, hk, h1, h2, h3⟩
        · rw [h1]; rfl
        · exact absurd h2 (hq k hk (by omega))
    rw [e]
    simp only [go_sem, Nat.reduceEqDiff, Nat.reduceBEq, Nat.reduceAdd, Nat.reduceMul, Nat.reduceSub, Nat.reduceLeDiff, Nat.reduceLT, reduceIte, reduceCtorEq, Int.reduceToNat, Int.reduceLE, Int.reduceLT, Int.reduceNeg, Bool.not_not, and_self, Bool.and_eq_false_iff, Int.cast_ofNat_Int, Int.reduceAdd, Int.reduceSub, Int.reduceMul, Int.reduceEq, Int.reduceNe, B66_0, show ¬ ((i : Int) < (l.length : Int)) by omega]
    refine runR_callgf (p := pB true) (by simp only [go_sem, Nat.reduceEqDiff, Nat.reduceBEq, Nat.reduceAdd, Nat.reduceMul, Nat.reduceSub, Nat.reduceLeDiff, Nat.reduceLT, reduceIte, reduceCtorEq, Int.reduceToNat, Int.reduceLE, Int.reduceLT, Int.reduceNeg, Bool.not_not, and_self, Bool.and_eq_false_iff, Int.cast_ofNat_Int, Int.reduceAdd, Int.reduceSub, Int.reduceMul, Int.reduceEq, Int.reduceNe]) (by simp only [go_sem, Nat.reduceEqDiff, Nat.reduceBEq, Nat.reduceAdd, Nat.reduceMul, Nat.reduceSub, Nat.reduceLeDiff, Nat.reduceLT, reduceIte, reduceCtorEq, Int.reduceToNat, Int.reduceLE, Int.reduceLT, Int.reduceNeg, Bool.not_not, and_self, Bool.and_eq_false_iff, Int.cast_ofNat_Int, Int.reduceAdd, Int.reduceSub, Int.reduceMul, Int.reduceEq, Int.reduceNe]) (by simp only [go_sem, Nat.reduceEqDiff, Nat.reduceBEq, Nat.reduceAdd, Nat.reduceMul, Nat.reduceSub, Nat.reduceLeDiff, Nat.reduceLT, reduceIte, reduceCtorEq, Int.reduceToNat, Int.reduceLE, Int.reduceLT, Int.reduceNeg, Bool.not_not, and_self, Bool.and_eq_false_iff, Int.cast_ofNat_Int, Int.reduceAdd, Int.reduceSub, Int.reduceMul, Int.reduceEq, Int.reduceNe] <;> rfl) (fun h => absurd h (by simp only [go_sem, Nat.reduceEqDiff, Nat.reduceBEq, Nat.reduceAdd, Nat.reduceMul, Nat.reduceSub, Nat.reduceLeDiff, Nat.reduceLT, reduceIte, reduceCtorEq, Int.reduceToNat, Int.reduceLE, Int.reduceLT, Int.reduceNeg, Bool.not_not, and_self, Bool.and_eq_false_iff, Int.cast_ofNat_Int, Int.reduceAdd, Int.reduceSub, Int.reduceMul, Int.reduceEq, Int.reduceNe])) rfl ?_
    simp only [go_sem, Nat.reduceEqDiff, Nat.reduceBEq, Nat.reduceAdd, Nat.reduceMul, Nat.reduceSub, Nat.reduceLeDiff, Nat.reduceLT, reduceIte, reduceCtorEq, Int.reduceToNat, Int.reduceLE, Int.reduceLT, Int.reduceNeg, Bool.not_not, and_self, Bool.and_eq_false_iff, Int.cast_ofNat_Int, Int.reduceAdd, Int.reduceSub, Int.reduceMul, Int.reduceEq, Int.reduceNe, R66_0]
end Go.Vc

namespace Go.Vc
open Go.Proofs
set_option linter.unusedSimpArgs false
set_option linter.unusedVariables false
set_option maxRecDepth 10000

theorem off_full {l : List Tm} {n : Int} (hc : checkT l = true) : 120 ≤ (offT l n).length ↔ findT l n < 0 ∧ 120 ≤ l.length := by
  have h := checkT_split.1 hc
  rw [← woT_off h.2.2.2]
  rcases findT_lt l n with ⟨h1, _⟩ | ⟨k, hk, h1, _⟩
  · rw [h1]; unfold woT; rw [if_neg (by omega)]; omega
  · rw [h1]; unfold woT; rw [if_pos (by omega), List.length_eraseIdx]
    constructor
    · intro h5; split at h5 <;> omega
    · intro h5; omega
theorem fn65 (l : List Tm) (n t : Int) (hl : l.length < 100000) : Fn Try.prog 65 [tm l, pU n, pI t] (.pv (.tup [tm (setT l n t).1, pI (setT l n t).2])) [] := by
  refine Run65 [false, false] (by simp) ?_
  simp only [go_sem, Nat.reduceEqDiff, Nat.reduceBEq, Nat.reduceAdd, Nat.reduceMul, Nat.reduceSub, Nat.reduceLeDiff, Nat.reduceLT, reduceIte, reduceCtorEq, Int.reduceToNat, Int.reduceLE, Int.reduceLT, Int.reduceNeg, Bool.not_not, and_self, Bool.and_eq_false_iff, Int.cast_ofNat_Int, Int.reduceAdd, Int.reduceSub, Int.reduceMul, Int.reduceEq, Int.reduceNe, M65]
  refine runR_callf (by simp only [go_sem, Nat.reduceEqDiff, Nat.reduceBEq, Nat.reduceAdd, Nat.reduceMul, Nat.reduceSub, Nat.reduceLeDiff, Nat.reduceLT, reduceIte, reduceCtorEq, Int.reduceToNat, Int.reduceLE, Int.reduceLT, Int.reduceNeg, Bool.not_not, and_self, Bool.and_eq_false_iff, Int.cast_ofNat_Int, Int.reduceAdd, Int.reduceSub, Int.reduceMul, Int.reduceEq, Int.reduceNe]) (by simp only [go_sem, Nat.reduceEqDiff, Nat.reduceBEq, Nat.reduceAdd, Nat.reduceMul, Nat.reduceSub, Nat.reduceLeDiff, Nat.reduceLT, reduceIte, reduceCtorEq, Int.reduceToNat, Int.reduceLE, Int.reduceLT, Int.reduceNeg, Bool.not_not, and_self, Bool.and_eq_false_iff, Int.cast_ofNat_Int, Int.reduceAdd, Int.reduceSub, Int.reduceMul, Int.reduceEq, Int.reduceNe] <;> rfl) (fn55 l hl) ⟨rfl, trivial⟩ trivial ?_
  simp only [go_sem, Nat.reduceEqDiff, Nat.reduceBEq, Nat.reduceAdd, Nat.reduceMul, Nat.reduceSub, Nat.reduceLeDiff, Nat.reduceLT, reduceIte, reduceCtorEq, Int.reduceToNat, Int.reduceLE, Int.reduceLT, Int.reduceNeg, Bool.not_not, and_self, Bool.and_eq_false_iff, Int.cast_ofNat_Int, Int.reduceAdd, Int.reduceSub, Int.reduceMul, Int.reduceEq, Int.reduceNe]
  refine ⟨fun h => ?_, fun h => ?_⟩
  · have : checkT l = false ∨ atB t = false := by
      rcases h with (h | h) | h
      · exact .inl h
      · right; simp [atB]; omega
      · right; simp [atB]; omega
    unfold setT
    rw [if_pos this]; rfl
  have hat : atB t = true := by simp [atB]; omega
  have hc : checkT l = true := h.1.1
  refine runR_call (by simp only [go_sem, Nat.reduceEqDiff, Nat.reduceBEq, Nat.reduceAdd, Nat.reduceMul, Nat.reduceSub, Nat.reduceLeDiff, Nat.reduceLT, reduceIte, reduceCtorEq, Int.reduceToNat, Int.reduceLE, Int.reduceLT, Int.reduceNeg, Bool.not_not, and_self, Bool.and_eq_false_iff, Int.cast_ofNat_Int, Int.reduceAdd, Int.reduceSub, Int.reduceMul, Int.reduceEq, Int.reduceNe]) rfl (fn67 l n hl) (.inl rfl) trivial ?_
  simp only [go_sem, Nat.reduceEqDiff, Nat.reduceBEq, Nat.reduceAdd, Nat.reduceMul, Nat.reduceSub, Nat.reduceLeDiff, Nat.reduceLT, reduceIte, reduceCtorEq, Int.reduceToNat, Int.reduceLE, Int.reduceLT, Int.reduceNeg, Bool.not_not, and_self, Bool.and_eq_false_iff, Int.cast_ofNat_Int, Int.reduceAdd, Int.reduceSub, Int.reduceMul, Int.reduceEq, Int.reduceNe]
  refine ⟨fun h6 => ?_, fun h6 => ?_⟩
  · have e : setT l n t = ([], 6) := by
      unfold setT
      rw [if_neg (by simp [hc, hat]), if_pos ((off_full hc).1 (by omega))]
    rw [e]; rfl
  rw [setT_ok hc hat (fun h5 => h6 (by have := (off_full hc).2 h5; omega))]
  have hris : RisT (offT l n) := (checkT_split.1 hc).2.2.1.filter (fun y => decide (y.id ≠ n))
  have hlr : (offT l n).length < 100000 := by have : (offT l n).length ≤ l.length := List.length_filter_le _ _; omega
  clear h6
  generalize offT l n = r at hris hlr ⊢
  rw [← insT_ref (x := ⟨t, n⟩) hris]
  refine run_loop (T := Nat) (fun i => ⟨[(8, .pv (tm r)), (9, .ptr 9 0), (10, .row 2010 0 ((r.take i).filter (fun y => ltT y ⟨t, n⟩)).length), (11, .pv (pI i))], [(9, .box [.pv (pI t), .pv (pU n)]), (2010, .sl 2 (((r.take i).filter (fun y => ltT y ⟨t, n⟩)).map Tm.pv))]⟩) (fun i => i ≤ r.length) (fun i => r.length - i) 0 rfl (Nat.zero_le _) ?_
  intro i hi
  have hle : ((r.take i).filter (fun y => ltT y ⟨t, n⟩)).length ≤ r.length := filt_le
  by_cases hlt : i < r.length
  · have hsn : (r.take (i + 1)).filter (fun y => ltT y ⟨t, n⟩) = (r.take i).filter (fun y => ltT y ⟨t, n⟩) ++ if ltT r[i] ⟨t, n⟩ = true then [r[i]] else [] := filt_snoc hlt
    have tk := take_len_map Tm.pv ((r.take i).filter (fun y => ltT y ⟨t, n⟩))
    simp only [go_sem, Nat.reduceEqDiff, Nat.reduceBEq, Nat.reduceAdd, Nat.reduceMul, Nat.reduceSub, Nat.reduceLeDiff, Nat.reduceLT, reduceIte, reduceCtorEq, Int.reduceToNat, Int.reduceLE, Int.reduceLT, Int.reduceNeg, Bool.not_not, and_self, Bool.and_eq_false_iff, Int.cast_ofNat_Int, Int.reduceAdd, Int.reduceSub, Int.reduceMul, Int.reduceEq, Int.reduceNe, B65_0, wf_tm, getD_map hlt, show (i : Int) < (r.length : Int) by omega]
    refine runR_callf (by simp only [go_sem, Nat.reduceEqDiff, Nat.reduceBEq, Nat.reduceAdd, Nat.reduceMul, Nat.reduceSub, Nat.reduceLeDiff, Nat.reduceLT, reduceIte, reduceCtorEq, Int.reduceToNat, Int.reduceLE, Int.reduceLT, Int.reduceNeg, Bool.not_not, and_self, Bool.and_eq_false_iff, Int.cast_ofNat_Int, Int.reduceAdd, Int.reduceSub, Int.reduceMul, Int.reduceEq, Int.reduceNe]) (by simp only [go_sem, Nat.reduceEqDiff, Nat.reduceBEq, Nat.reduceAdd, Nat.reduceMul, Nat.reduceSub, Nat.reduceLeDiff, Nat.reduceLT, reduceIte, reduceCtorEq, Int.reduceToNat, Int.reduceLE, Int.reduceLT, Int.reduceNeg, Bool.not_not, and_self, Bool.and_eq_false_iff, Int.cast_ofNat_Int, Int.reduceAdd, Int.reduceSub, Int.reduceMul, Int.reduceEq, Int.reduceNe] <;> rfl) (fn93 r[i] ⟨t, n⟩) ⟨rfl, trivial⟩ trivial ?_
    simp only [go_sem, Nat.reduceEqDiff, Nat.reduceBEq, Nat.reduceAdd, Nat.reduceMul, Nat.reduceSub, Nat.reduceLeDiff, Nat.reduceLT, reduceIte, reduceCtorEq, Int.reduceToNat, Int.reduceLE, Int.reduceLT, Int.reduceNeg, Bool.not_not, and_self, Bool.and_eq_false_iff, Int.cast_ofNat_Int, Int.reduceAdd, Int.reduceSub, Int.reduceMul, Int.reduceEq, Int.reduceNe, wf_tm, getD_map hlt]
    refine ⟨fun h => ⟨by omega, ⟨wf_tm [r[i]], by omega, by omega⟩, ⟨by omega, by omega⟩, i + 1, ?_, by omega, by omega⟩, fun h => ⟨⟨by omega, by omega⟩, i + 1, ?_, by omega, by omega⟩⟩
    · rw [hsn, if_pos h, tk, List.map_append, List.length_append]; rfl
    · rw [hsn, if_neg (by rw [h]; simp), List.append_nil]; rfl
  · have hir : i = r.length := by omega
    subst hir
    rw [List.take_length] at hle ⊢
    obtain ⟨F, hF⟩ : ∃ F, F = r.filter (fun y => ltT y ⟨t, n⟩) := ⟨_, rfl⟩
    rw [← hF] at hle ⊢
    simp only [go_sem, Nat.reduceEqDiff, Nat.reduceBEq, Nat.reduceAdd, Nat.reduceMul, Nat.reduceSub, Nat.reduceLeDiff, Nat.reduceLT, reduceIte, reduceCtorEq, Int.reduceToNat, Int.reduceLE, Int.reduceLT, Int.reduceNeg, Bool.not_not, and_self, Bool.and_eq_false_iff, Int.cast_ofNat_Int, Int.reduceAdd, Int.reduceSub, Int.reduceMul, Int.reduceEq, Int.reduceNe, B65_0, R65_0, show ¬ ((r.length : Int) < (r.length : Int)) by omega, take_len_map]
    have d1 : (List.drop F.length (List.map Tm.pv r)) = (r.drop F.length).map Tm.pv := by rw [List.map_drop]
    rw [d1]
    refine ⟨⟨wf_tm [⟨t, n⟩], by omega, by omega⟩, ⟨by omega, by omega, wf_tm r⟩, ⟨wf_tm _, by simp; omega, by simp; omega⟩, ?_⟩
    have e2 : (List.map Tm.pv F ++ [PV.agg [pI t, pU n]]).take (F.length + 1) = List.map Tm.pv F ++ [PV.agg [pI t, pU n]] := List.take_of_length_le (by simp)
    rw [e2, List.take_of_length_le (by simp; omega)]
    simp [tm, List.map_append]
end Go.Vc

namespace Go.Vc
open Go.Proofs
set_option linter.unusedSimpArgs false
set_option linter.unusedVariables false
set_option maxRecDepth 10000

theorem law19 (l : List Tm) (n t : Int) (hl : l.length ≤ 9223372036854775807) : Fn Try.prog 19 [tm l, pU n, pI t] (.pv (pB true)) [] := by
  refine Run19 [] (by simp) ?_
  simp only [go_sem, Nat.reduceEqDiff, Nat.reduceBEq, Nat.reduceAdd, Nat.reduceMul, Nat.reduceSub, Nat.reduceLeDiff, Nat.reduceLT, reduceIte, reduceCtorEq, Int.reduceToNat, Int.reduceLE, Int.reduceLT, Int.reduceNeg, Bool.not_not, and_self, Bool.and_eq_false_iff, Int.cast_ofNat_Int, Int.reduceAdd, Int.reduceSub, Int.reduceMul, Int.reduceEq, Int.reduceNe, M19]
  refine runR_call (by simp only [go_sem, Nat.reduceEqDiff, Nat.reduceBEq, Nat.reduceAdd, Nat.reduceMul, Nat.reduceSub, Nat.reduceLeDiff, Nat.reduceLT, reduceIte, reduceCtorEq, Int.reduceToNat, Int.reduceLE, Int.reduceLT, Int.reduceNeg, Bool.not_not, and_self, Bool.and_eq_false_iff, Int.cast_ofNat_Int, Int.reduceAdd, Int.reduceSub, Int.reduceMul, Int.reduceEq, Int.reduceNe]) rfl (fn53 l hl) (.inl rfl) trivial ?_
  simp only [go_sem, Nat.reduceEqDiff, Nat.reduceBEq, Nat.reduceAdd, Nat.reduceMul, Nat.reduceSub, Nat.reduceLeDiff, Nat.reduceLT, reduceIte, reduceCtorEq, Int.reduceToNat, Int.reduceLE, Int.reduceLT, Int.reduceNeg, Bool.not_not, and_self, Bool.and_eq_false_iff, Int.cast_ofNat_Int, Int.reduceAdd, Int.reduceSub, Int.reduceMul, Int.reduceEq, Int.reduceNe]
  have hm : (l.take 121).length ≤ 121 := by simp; omega
  generalize l.take 121 = m at hm ⊢
  have e53 := fn53 m (by omega)
  rw [List.take_of_length_le hm] at e53
  refine runR_call (by simp only [go_sem, Nat.reduceEqDiff, Nat.reduceBEq, Nat.reduceAdd, Nat.reduceMul, Nat.reduceSub, Nat.reduceLeDiff, Nat.reduceLT, reduceIte, reduceCtorEq, Int.reduceToNat, Int.reduceLE, Int.reduceLT, Int.reduceNeg, Bool.not_not, and_self, Bool.and_eq_false_iff, Int.cast_ofNat_Int, Int.reduceAdd, Int.reduceSub, Int.reduceMul, Int.reduceEq, Int.reduceNe]) rfl (e53) (.inl rfl) trivial ?_
  simp only [go_sem, Nat.reduceEqDiff, Nat.reduceBEq, Nat.reduceAdd, Nat.reduceMul, Nat.reduceSub, Nat.reduceLeDiff, Nat.reduceLT, reduceIte, reduceCtorEq, Int.reduceToNat, Int.reduceLE, Int.reduceLT, Int.reduceNeg, Bool.not_not, and_self, Bool.and_eq_false_iff, Int.cast_ofNat_Int, Int.reduceAdd, Int.reduceSub, Int.reduceMul, Int.reduceEq, Int.reduceNe]
  refine runR_call (by simp only [go_sem, Nat.reduceEqDiff, Nat.reduceBEq, Nat.reduceAdd, Nat.reduceMul, Nat.reduceSub, Nat.reduceLeDiff, Nat.reduceLT, reduceIte, reduceCtorEq, Int.reduceToNat, Int.reduceLE, Int.reduceLT, Int.reduceNeg, Bool.not_not, and_self, Bool.and_eq_false_iff, Int.cast_ofNat_Int, Int.reduceAdd, Int.reduceSub, Int.reduceMul, Int.reduceEq, Int.reduceNe]) rfl (fn62 m n t (by omega)) (.inl rfl) trivial ?_
  simp only [go_sem, Nat.reduceEqDiff, Nat.reduceBEq, Nat.reduceAdd, Nat.reduceMul, Nat.reduceSub, Nat.reduceLeDiff, Nat.reduceLT, reduceIte, reduceCtorEq, Int.reduceToNat, Int.reduceLE, Int.reduceLT, Int.reduceNeg, Bool.not_not, and_self, Bool.and_eq_false_iff, Int.cast_ofNat_Int, Int.reduceAdd, Int.reduceSub, Int.reduceMul, Int.reduceEq, Int.reduceNe]
  refine runR_call (by simp only [go_sem, Nat.reduceEqDiff, Nat.reduceBEq, Nat.reduceAdd, Nat.reduceMul, Nat.reduceSub, Nat.reduceLeDiff, Nat.reduceLT, reduceIte, reduceCtorEq, Int.reduceToNat, Int.reduceLE, Int.reduceLT, Int.reduceNeg, Bool.not_not, and_self, Bool.and_eq_false_iff, Int.cast_ofNat_Int, Int.reduceAdd, Int.reduceSub, Int.reduceMul, Int.reduceEq, Int.reduceNe]) rfl (fn65 m n t (by omega)) (.inl rfl) trivial ?_
  simp only [go_sem, Nat.reduceEqDiff, Nat.reduceBEq, Nat.reduceAdd, Nat.reduceMul, Nat.reduceSub, Nat.reduceLeDiff, Nat.reduceLT, reduceIte, reduceCtorEq, Int.reduceToNat, Int.reduceLE, Int.reduceLT, Int.reduceNeg, Bool.not_not, and_self, Bool.and_eq_false_iff, Int.cast_ofNat_Int, Int.reduceAdd, Int.reduceSub, Int.reduceMul, Int.reduceEq, Int.reduceNe]
  refine runR_call (by simp only [go_sem, Nat.reduceEqDiff, Nat.reduceBEq, Nat.reduceAdd, Nat.reduceMul, Nat.reduceSub, Nat.reduceLeDiff, Nat.reduceLT, reduceIte, reduceCtorEq, Int.reduceToNat, Int.reduceLE, Int.reduceLT, Int.reduceNeg, Bool.not_not, and_self, Bool.and_eq_false_iff, Int.cast_ofNat_Int, Int.reduceAdd, Int.reduceSub, Int.reduceMul, Int.reduceEq, Int.reduceNe]) rfl (fn64 m n (by omega)) (.inl rfl) trivial ?_
  simp only [go_sem, Nat.reduceEqDiff, Nat.reduceBEq, Nat.reduceAdd, Nat.reduceMul, Nat.reduceSub, Nat.reduceLeDiff, Nat.reduceLT, reduceIte, reduceCtorEq, Int.reduceToNat, Int.reduceLE, Int.reduceLT, Int.reduceNeg, Bool.not_not, and_self, Bool.and_eq_false_iff, Int.cast_ofNat_Int, Int.reduceAdd, Int.reduceSub, Int.reduceMul, Int.reduceEq, Int.reduceNe]
  refine runR_call (by simp only [go_sem, Nat.reduceEqDiff, Nat.reduceBEq, Nat.reduceAdd, Nat.reduceMul, Nat.reduceSub, Nat.reduceLeDiff, Nat.reduceLT, reduceIte, reduceCtorEq, Int.reduceToNat, Int.reduceLE, Int.reduceLT, Int.reduceNeg, Bool.not_not, and_self, Bool.and_eq_false_iff, Int.cast_ofNat_Int, Int.reduceAdd, Int.reduceSub, Int.reduceMul, Int.reduceEq, Int.reduceNe]) rfl (fn66 m n (by omega)) (.inl rfl) trivial ?_
  simp only [go_sem, Nat.reduceEqDiff, Nat.reduceBEq, Nat.reduceAdd, Nat.reduceMul, Nat.reduceSub, Nat.reduceLeDiff, Nat.reduceLT, reduceIte, reduceCtorEq, Int.reduceToNat, Int.reduceLE, Int.reduceLT, Int.reduceNeg, Bool.not_not, and_self, Bool.and_eq_false_iff, Int.cast_ofNat_Int, Int.reduceAdd, Int.reduceSub, Int.reduceMul, Int.reduceEq, Int.reduceNe]
  have hls : (setT m n t).1.length < 1000 := by
    unfold setT
    split
    · simp
    · split
      · simp
      · have := woT_le m (findT m n)
        simp; omega
  refine runR_callf (by simp only [go_sem, Nat.reduceEqDiff, Nat.reduceBEq, Nat.reduceAdd, Nat.reduceMul, Nat.reduceSub, Nat.reduceLeDiff, Nat.reduceLT, reduceIte, reduceCtorEq, Int.reduceToNat, Int.reduceLE, Int.reduceLT, Int.reduceNeg, Bool.not_not, and_self, Bool.and_eq_false_iff, Int.cast_ofNat_Int, Int.reduceAdd, Int.reduceSub, Int.reduceMul, Int.reduceEq, Int.reduceNe]) (by simp only [go_sem, Nat.reduceEqDiff, Nat.reduceBEq, Nat.reduceAdd, Nat.reduceMul, Nat.reduceSub, Nat.reduceLeDiff, Nat.reduceLT, reduceIte, reduceCtorEq, Int.reduceToNat, Int.reduceLE, Int.reduceLT, Int.reduceNeg, Bool.not_not, and_self, Bool.and_eq_false_iff, Int.cast_ofNat_Int, Int.reduceAdd, Int.reduceSub, Int.reduceMul, Int.reduceEq, Int.reduceNe] <;> rfl) (fn58 (setT m n t).1 (setT m n t).1 (by omega) (by omega)) ⟨rfl, trivial⟩ trivial ?_
  simp only [go_sem, Nat.reduceEqDiff, Nat.reduceBEq, Nat.reduceAdd, Nat.reduceMul, Nat.reduceSub, Nat.reduceLeDiff, Nat.reduceLT, reduceIte, reduceCtorEq, Int.reduceToNat, Int.reduceLE, Int.reduceLT, Int.reduceNeg, Bool.not_not, and_self, Bool.and_eq_false_iff, Int.cast_ofNat_Int, Int.reduceAdd, Int.reduceSub, Int.reduceMul, Int.reduceEq, Int.reduceNe]
  have e5 := fn55 m (by omega)
  have e61 := fn61 m n (by omega)
  refine runR_callgf (by simp only [go_sem, Nat.reduceEqDiff, Nat.reduceBEq, Nat.reduceAdd, Nat.reduceMul, Nat.reduceSub, Nat.reduceLeDiff, Nat.reduceLT, reduceIte, reduceCtorEq, Int.reduceToNat, Int.reduceLE, Int.reduceLT, Int.reduceNeg, Bool.not_not, and_self, Bool.and_eq_false_iff, Int.cast_ofNat_Int, Int.reduceAdd, Int.reduceSub, Int.reduceMul, Int.reduceEq, Int.reduceNe]) (by simp only [go_sem, Nat.reduceEqDiff, Nat.reduceBEq, Nat.reduceAdd, Nat.reduceMul, Nat.reduceSub, Nat.reduceLeDiff, Nat.reduceLT, reduceIte, reduceCtorEq, Int.reduceToNat, Int.reduceLE, Int.reduceLT, Int.reduceNeg, Bool.not_not, and_self, Bool.and_eq_false_iff, Int.cast_ofNat_Int, Int.reduceAdd, Int.reduceSub, Int.reduceMul, Int.reduceEq, Int.reduceNe]) (by simp only [go_sem, Nat.reduceEqDiff, Nat.reduceBEq, Nat.reduceAdd, Nat.reduceMul, Nat.reduceSub, Nat.reduceLeDiff, Nat.reduceLT, reduceIte, reduceCtorEq, Int.reduceToNat, Int.reduceLE, Int.reduceLT, Int.reduceNeg, Bool.not_not, and_self, Bool.and_eq_false_iff, Int.cast_ofNat_Int, Int.reduceAdd, Int.reduceSub, Int.reduceMul, Int.reduceEq, Int.reduceNe] <;> rfl) (fun _ => fn60 m (by omega)) rfl ?_
  simp only [go_sem, Nat.reduceEqDiff, Nat.reduceBEq, Nat.reduceAdd, Nat.reduceMul, Nat.reduceSub, Nat.reduceLeDiff, Nat.reduceLT, reduceIte, reduceCtorEq, Int.reduceToNat, Int.reduceLE, Int.reduceLT, Int.reduceNeg, Bool.not_not, and_self, Bool.and_eq_false_iff, Int.cast_ofNat_Int, Int.reduceAdd, Int.reduceSub, Int.reduceMul, Int.reduceEq, Int.reduceNe, errN_dec, errN_iff]
  refine runR_callgf (by simp only [go_sem, Nat.reduceEqDiff, Nat.reduceBEq, Nat.reduceAdd, Nat.reduceMul, Nat.reduceSub, Nat.reduceLeDiff, Nat.reduceLT, reduceIte, reduceCtorEq, Int.reduceToNat, Int.reduceLE, Int.reduceLT, Int.reduceNeg, Bool.not_not, and_self, Bool.and_eq_false_iff, Int.cast_ofNat_Int, Int.reduceAdd, Int.reduceSub, Int.reduceMul, Int.reduceEq, Int.reduceNe]) (by simp only [go_sem, Nat.reduceEqDiff, Nat.reduceBEq, Nat.reduceAdd, Nat.reduceMul, Nat.reduceSub, Nat.reduceLeDiff, Nat.reduceLT, reduceIte, reduceCtorEq, Int.reduceToNat, Int.reduceLE, Int.reduceLT, Int.reduceNeg, Bool.not_not, and_self, Bool.and_eq_false_iff, Int.cast_ofNat_Int, Int.reduceAdd, Int.reduceSub, Int.reduceMul, Int.reduceEq, Int.reduceNe]) (by simp only [go_sem, Nat.reduceEqDiff, Nat.reduceBEq, Nat.reduceAdd, Nat.reduceMul, Nat.reduceSub, Nat.reduceLeDiff, Nat.reduceLT, reduceIte, reduceCtorEq, Int.reduceToNat, Int.reduceLE, Int.reduceLT, Int.reduceNeg, Bool.not_not, and_self, Bool.and_eq_false_iff, Int.cast_ofNat_Int, Int.reduceAdd, Int.reduceSub, Int.reduceMul, Int.reduceEq, Int.reduceNe] <;> rfl) (fun _ => e5) rfl ?_
  simp only [go_sem, Nat.reduceEqDiff, Nat.reduceBEq, Nat.reduceAdd, Nat.reduceMul, Nat.reduceSub, Nat.reduceLeDiff, Nat.reduceLT, reduceIte, reduceCtorEq, Int.reduceToNat, Int.reduceLE, Int.reduceLT, Int.reduceNeg, Bool.not_not, and_self, Bool.and_eq_false_iff, Int.cast_ofNat_Int, Int.reduceAdd, Int.reduceSub, Int.reduceMul, Int.reduceEq, Int.reduceNe]
  have e67 := fn67 m n (by omega)
  have e63 := fn63 m (by omega)
  cases hc : checkT m with
  | false =>
    have s1 : stopT m n = ([], false) := by unfold stopT; rw [if_pos hc]
    have n1 : nextT m = (default, false) := by unfold nextT; rw [if_pos (.inr hc)]
    rw [s1] at e61
    rw [n1] at e63
    rw [hc] at e5
    refine runR_call (by simp only [go_sem, Nat.reduceEqDiff, Nat.reduceBEq, Nat.reduceAdd, Nat.reduceMul, Nat.reduceSub, Nat.reduceLeDiff, Nat.reduceLT, reduceIte, reduceCtorEq, Int.reduceToNat, Int.reduceLE, Int.reduceLT, Int.reduceNeg, Bool.not_not, and_self, Bool.and_eq_false_iff, Int.cast_ofNat_Int, Int.reduceAdd, Int.reduceSub, Int.reduceMul, Int.reduceEq, Int.reduceNe]) rfl (e61) (.inl rfl) trivial ?_
    simp only [go_sem, Nat.reduceEqDiff, Nat.reduceBEq, Nat.reduceAdd, Nat.reduceMul, Nat.reduceSub, Nat.reduceLeDiff, Nat.reduceLT, reduceIte, reduceCtorEq, Int.reduceToNat, Int.reduceLE, Int.reduceLT, Int.reduceNeg, Bool.not_not, and_self, Bool.and_eq_false_iff, Int.cast_ofNat_Int, Int.reduceAdd, Int.reduceSub, Int.reduceMul, Int.reduceEq, Int.reduceNe]
    refine runR_call (by simp only [go_sem, Nat.reduceEqDiff, Nat.reduceBEq, Nat.reduceAdd, Nat.reduceMul, Nat.reduceSub, Nat.reduceLeDiff, Nat.reduceLT, reduceIte, reduceCtorEq, Int.reduceToNat, Int.reduceLE, Int.reduceLT, Int.reduceNeg, Bool.not_not, and_self, Bool.and_eq_false_iff, Int.cast_ofNat_Int, Int.reduceAdd, Int.reduceSub, Int.reduceMul, Int.reduceEq, Int.reduceNe]) rfl (e63) (.inl rfl) trivial ?_
    simp only [go_sem, Nat.reduceEqDiff, Nat.reduceBEq, Nat.reduceAdd, Nat.reduceMul, Nat.reduceSub, Nat.reduceLeDiff, Nat.reduceLT, reduceIte, reduceCtorEq, Int.reduceToNat, Int.reduceLE, Int.reduceLT, Int.reduceNeg, Bool.not_not, and_self, Bool.and_eq_false_iff, Int.cast_ofNat_Int, Int.reduceAdd, Int.reduceSub, Int.reduceMul, Int.reduceEq, Int.reduceNe]
    refine runR_callf (by simp only [go_sem, Nat.reduceEqDiff, Nat.reduceBEq, Nat.reduceAdd, Nat.reduceMul, Nat.reduceSub, Nat.reduceLeDiff, Nat.reduceLT, reduceIte, reduceCtorEq, Int.reduceToNat, Int.reduceLE, Int.reduceLT, Int.reduceNeg, Bool.not_not, and_self, Bool.and_eq_false_iff, Int.cast_ofNat_Int, Int.reduceAdd, Int.reduceSub, Int.reduceMul, Int.reduceEq, Int.reduceNe]) (by simp only [go_sem, Nat.reduceEqDiff, Nat.reduceBEq, Nat.reduceAdd, Nat.reduceMul, Nat.reduceSub, Nat.reduceLeDiff, Nat.reduceLT, reduceIte, reduceCtorEq, Int.reduceToNat, Int.reduceLE, Int.reduceLT, Int.reduceNeg, Bool.not_not, and_self, Bool.and_eq_false_iff, Int.cast_ofNat_Int, Int.reduceAdd, Int.reduceSub, Int.reduceMul, Int.reduceEq, Int.reduceNe] <;> rfl) (e5) ⟨rfl, trivial⟩ trivial ?_
    simp only [go_sem, Nat.reduceEqDiff, Nat.reduceBEq, Nat.reduceAdd, Nat.reduceMul, Nat.reduceSub, Nat.reduceLeDiff, Nat.reduceLT, reduceIte, reduceCtorEq, Int.reduceToNat, Int.reduceLE, Int.reduceLT, Int.reduceNeg, Bool.not_not, and_self, Bool.and_eq_false_iff, Int.cast_ofNat_Int, Int.reduceAdd, Int.reduceSub, Int.reduceMul, Int.reduceEq, Int.reduceNe]
    refine runR_callgf (by simp only [go_sem, Nat.reduceEqDiff, Nat.reduceBEq, Nat.reduceAdd, Nat.reduceMul, Nat.reduceSub, Nat.reduceLeDiff, Nat.reduceLT, reduceIte, reduceCtorEq, Int.reduceToNat, Int.reduceLE, Int.reduceLT, Int.reduceNeg, Bool.not_not, and_self, Bool.and_eq_false_iff, Int.cast_ofNat_Int, Int.reduceAdd, Int.reduceSub, Int.reduceMul, Int.reduceEq, Int.reduceNe]) (by simp only [go_sem, Nat.reduceEqDiff, Nat.reduceBEq, Nat.reduceAdd, Nat.reduceMul, Nat.reduceSub, Nat.reduceLeDiff, Nat.reduceLT, reduceIte, reduceCtorEq, Int.reduceToNat, Int.reduceLE, Int.reduceLT, Int.reduceNeg, Bool.not_not, and_self, Bool.and_eq_false_iff, Int.cast_ofNat_Int, Int.reduceAdd, Int.reduceSub, Int.reduceMul, Int.reduceEq, Int.reduceNe]) (by simp only [go_sem, Nat.reduceEqDiff, Nat.reduceBEq, Nat.reduceAdd, Nat.reduceMul, Nat.reduceSub, Nat.reduceLeDiff, Nat.reduceLT, reduceIte, reduceCtorEq, Int.reduceToNat, Int.reduceLE, Int.reduceLT, Int.reduceNeg, Bool.not_not, and_self, Bool.and_eq_false_iff, Int.cast_ofNat_Int, Int.reduceAdd, Int.reduceSub, Int.reduceMul, Int.reduceEq, Int.reduceNe] <;> rfl) (fun _ => fn56) rfl ?_
    simp only [go_sem, Nat.reduceEqDiff, Nat.reduceBEq, Nat.reduceAdd, Nat.reduceMul, Nat.reduceSub, Nat.reduceLeDiff, Nat.reduceLT, reduceIte, reduceCtorEq, Int.reduceToNat, Int.reduceLE, Int.reduceLT, Int.reduceNeg, Bool.not_not, and_self, Bool.and_eq_false_iff, Int.cast_ofNat_Int, Int.reduceAdd, Int.reduceSub, Int.reduceMul, Int.reduceEq, Int.reduceNe]
  | true =>
    have hid := (checkT_split.1 hc).2.2.2
    have s1 : stopT m n = (offT m n, decide (0 ≤ findT m n)) := by unfold stopT; rw [if_neg (by rw [hc]; simp), woT_off hid]
    have a1 : (atT m n).2 = decide (0 ≤ findT m n) := by
      unfold atT
      rw [if_neg (by rw [hc]; simp)]
      split
      · simp; omega
      · simp; omega
    have hle : (offT m n).length ≤ m.length := List.length_filter_le _ _
    rw [s1] at e61
    rw [hc] at e5
    refine runR_call (by simp only [go_sem, Nat.reduceEqDiff, Nat.reduceBEq, Nat.reduceAdd, Nat.reduceMul, Nat.reduceSub, Nat.reduceLeDiff, Nat.reduceLT, reduceIte, reduceCtorEq, Int.reduceToNat, Int.reduceLE, Int.reduceLT, Int.reduceNeg, Bool.not_not, and_self, Bool.and_eq_false_iff, Int.cast_ofNat_Int, Int.reduceAdd, Int.reduceSub, Int.reduceMul, Int.reduceEq, Int.reduceNe]) rfl (e61) (.inl rfl) trivial ?_
    simp only [go_sem, Nat.reduceEqDiff, Nat.reduceBEq, Nat.reduceAdd, Nat.reduceMul, Nat.reduceSub, Nat.reduceLeDiff, Nat.reduceLT, reduceIte, reduceCtorEq, Int.reduceToNat, Int.reduceLE, Int.reduceLT, Int.reduceNeg, Bool.not_not, and_self, Bool.and_eq_false_iff, Int.cast_ofNat_Int, Int.reduceAdd, Int.reduceSub, Int.reduceMul, Int.reduceEq, Int.reduceNe]
    by_cases h0 : m.length = 0
    · have n1 : nextT m = (default, false) := by unfold nextT; rw [if_pos (.inl h0)]
      rw [n1] at e63
      refine runR_call (by simp only [go_sem, Nat.reduceEqDiff, Nat.reduceBEq, Nat.reduceAdd, Nat.reduceMul, Nat.reduceSub, Nat.reduceLeDiff, Nat.reduceLT, reduceIte, reduceCtorEq, Int.reduceToNat, Int.reduceLE, Int.reduceLT, Int.reduceNeg, Bool.not_not, and_self, Bool.and_eq_false_iff, Int.cast_ofNat_Int, Int.reduceAdd, Int.reduceSub, Int.reduceMul, Int.reduceEq, Int.reduceNe]) rfl (e63) (.inl rfl) trivial ?_
      simp only [go_sem, Nat.reduceEqDiff, Nat.reduceBEq, Nat.reduceAdd, Nat.reduceMul, Nat.reduceSub, Nat.reduceLeDiff, Nat.reduceLT, reduceIte, reduceCtorEq, Int.reduceToNat, Int.reduceLE, Int.reduceLT, Int.reduceNeg, Bool.not_not, and_self, Bool.and_eq_false_iff, Int.cast_ofNat_Int, Int.reduceAdd, Int.reduceSub, Int.reduceMul, Int.reduceEq, Int.reduceNe]
      refine runR_callf (by simp only [go_sem, Nat.reduceEqDiff, Nat.reduceBEq, Nat.reduceAdd, Nat.reduceMul, Nat.reduceSub, Nat.reduceLeDiff, Nat.reduceLT, reduceIte, reduceCtorEq, Int.reduceToNat, Int.reduceLE, Int.reduceLT, Int.reduceNeg, Bool.not_not, and_self, Bool.and_eq_false_iff, Int.cast_ofNat_Int, Int.reduceAdd, Int.reduceSub, Int.reduceMul, Int.reduceEq, Int.reduceNe]) (by simp only [go_sem, Nat.reduceEqDiff, Nat.reduceBEq, Nat.reduceAdd, Nat.reduceMul, Nat.reduceSub, Nat.reduceLeDiff, Nat.reduceLT, reduceIte, reduceCtorEq, Int.reduceToNat, Int.reduceLE, Int.reduceLT, Int.reduceNeg, Bool.not_not, and_self, Bool.and_eq_false_iff, Int.cast_ofNat_Int, Int.reduceAdd, Int.reduceSub, Int.reduceMul, Int.reduceEq, Int.reduceNe] <;> rfl) (e5) ⟨rfl, trivial⟩ trivial ?_
      simp only [go_sem, Nat.reduceEqDiff, Nat.reduceBEq, Nat.reduceAdd, Nat.reduceMul, Nat.reduceSub, Nat.reduceLeDiff, Nat.reduceLT, reduceIte, reduceCtorEq, Int.reduceToNat, Int.reduceLE, Int.reduceLT, Int.reduceNeg, Bool.not_not, and_self, Bool.and_eq_false_iff, Int.cast_ofNat_Int, Int.reduceAdd, Int.reduceSub, Int.reduceMul, Int.reduceEq, Int.reduceNe, h0]
      refine runR_call (by simp only [go_sem, Nat.reduceEqDiff, Nat.reduceBEq, Nat.reduceAdd, Nat.reduceMul, Nat.reduceSub, Nat.reduceLeDiff, Nat.reduceLT, reduceIte, reduceCtorEq, Int.reduceToNat, Int.reduceLE, Int.reduceLT, Int.reduceNeg, Bool.not_not, and_self, Bool.and_eq_false_iff, Int.cast_ofNat_Int, Int.reduceAdd, Int.reduceSub, Int.reduceMul, Int.reduceEq, Int.reduceNe]) rfl (e67) (.inl rfl) trivial ?_
      simp only [go_sem, Nat.reduceEqDiff, Nat.reduceBEq, Nat.reduceAdd, Nat.reduceMul, Nat.reduceSub, Nat.reduceLeDiff, Nat.reduceLT, reduceIte, reduceCtorEq, Int.reduceToNat, Int.reduceLE, Int.reduceLT, Int.reduceNeg, Bool.not_not, and_self, Bool.and_eq_false_iff, Int.cast_ofNat_Int, Int.reduceAdd, Int.reduceSub, Int.reduceMul, Int.reduceEq, Int.reduceNe]
      refine runR_callf (by simp only [go_sem, Nat.reduceEqDiff, Nat.reduceBEq, Nat.reduceAdd, Nat.reduceMul, Nat.reduceSub, Nat.reduceLeDiff, Nat.reduceLT, reduceIte, reduceCtorEq, Int.reduceToNat, Int.reduceLE, Int.reduceLT, Int.reduceNeg, Bool.not_not, and_self, Bool.and_eq_false_iff, Int.cast_ofNat_Int, Int.reduceAdd, Int.reduceSub, Int.reduceMul, Int.reduceEq, Int.reduceNe]) (by simp only [go_sem, Nat.reduceEqDiff, Nat.reduceBEq, Nat.reduceAdd, Nat.reduceMul, Nat.reduceSub, Nat.reduceLeDiff, Nat.reduceLT, reduceIte, reduceCtorEq, Int.reduceToNat, Int.reduceLE, Int.reduceLT, Int.reduceNeg, Bool.not_not, and_self, Bool.and_eq_false_iff, Int.cast_ofNat_Int, Int.reduceAdd, Int.reduceSub, Int.reduceMul, Int.reduceEq, Int.reduceNe] <;> rfl) (fn58 (offT m n) (offT m n) (by omega) (by omega)) ⟨rfl, trivial⟩ trivial ?_
      simp only [go_sem, Nat.reduceEqDiff, Nat.reduceBEq, Nat.reduceAdd, Nat.reduceMul, Nat.reduceSub, Nat.reduceLeDiff, Nat.reduceLT, reduceIte, reduceCtorEq, Int.reduceToNat, Int.reduceLE, Int.reduceLT, Int.reduceNeg, Bool.not_not, and_self, Bool.and_eq_false_iff, Int.cast_ofNat_Int, Int.reduceAdd, Int.reduceSub, Int.reduceMul, Int.reduceEq, Int.reduceNe, a1]
      refine runR_callgf (by simp only [go_sem, Nat.reduceEqDiff, Nat.reduceBEq, Nat.reduceAdd, Nat.reduceMul, Nat.reduceSub, Nat.reduceLeDiff, Nat.reduceLT, reduceIte, reduceCtorEq, Int.reduceToNat, Int.reduceLE, Int.reduceLT, Int.reduceNeg, Bool.not_not, and_self, Bool.and_eq_false_iff, Int.cast_ofNat_Int, Int.reduceAdd, Int.reduceSub, Int.reduceMul, Int.reduceEq, Int.reduceNe]) (by simp only [go_sem, Nat.reduceEqDiff, Nat.reduceBEq, Nat.reduceAdd, Nat.reduceMul, Nat.reduceSub, Nat.reduceLeDiff, Nat.reduceLT, reduceIte, reduceCtorEq, Int.reduceToNat, Int.reduceLE, Int.reduceLT, Int.reduceNeg, Bool.not_not, and_self, Bool.and_eq_false_iff, Int.cast_ofNat_Int, Int.reduceAdd, Int.reduceSub, Int.reduceMul, Int.reduceEq, Int.reduceNe]) (by simp only [go_sem, Nat.reduceEqDiff, Nat.reduceBEq, Nat.reduceAdd, Nat.reduceMul, Nat.reduceSub, Nat.reduceLeDiff, Nat.reduceLT, reduceIte, reduceCtorEq, Int.reduceToNat, Int.reduceLE, Int.reduceLT, Int.reduceNeg, Bool.not_not, and_self, Bool.and_eq_false_iff, Int.cast_ofNat_Int, Int.reduceAdd, Int.reduceSub, Int.reduceMul, Int.reduceEq, Int.reduceNe] <;> rfl) (fun _ => fn58 m m (by omega) (by omega)) rfl ?_
      simp only [go_sem, Nat.reduceEqDiff, Nat.reduceBEq, Nat.reduceAdd, Nat.reduceMul, Nat.reduceSub, Nat.reduceLeDiff, Nat.reduceLT, reduceIte, reduceCtorEq, Int.reduceToNat, Int.reduceLE, Int.reduceLT, Int.reduceNeg, Bool.not_not, and_self, Bool.and_eq_false_iff, Int.cast_ofNat_Int, Int.reduceAdd, Int.reduceSub, Int.reduceMul, Int.reduceEq, Int.reduceNe]
      refine runR_callgf (by simp only [go_sem, Nat.reduceEqDiff, Nat.reduceBEq, Nat.reduceAdd, Nat.reduceMul, Nat.reduceSub, Nat.reduceLeDiff, Nat.reduceLT, reduceIte, reduceCtorEq, Int.reduceToNat, Int.reduceLE, Int.reduceLT, Int.reduceNeg, Bool.not_not, and_self, Bool.and_eq_false_iff, Int.cast_ofNat_Int, Int.reduceAdd, Int.reduceSub, Int.reduceMul, Int.reduceEq, Int.reduceNe]) (by simp only [go_sem, Nat.reduceEqDiff, Nat.reduceBEq, Nat.reduceAdd, Nat.reduceMul, Nat.reduceSub, Nat.reduceLeDiff, Nat.reduceLT, reduceIte, reduceCtorEq, Int.reduceToNat, Int.reduceLE, Int.reduceLT, Int.reduceNeg, Bool.not_not, and_self, Bool.and_eq_false_iff, Int.cast_ofNat_Int, Int.reduceAdd, Int.reduceSub, Int.reduceMul, Int.reduceEq, Int.reduceNe]) (by simp only [go_sem, Nat.reduceEqDiff, Nat.reduceBEq, Nat.reduceAdd, Nat.reduceMul, Nat.reduceSub, Nat.reduceLeDiff, Nat.reduceLT, reduceIte, reduceCtorEq, Int.reduceToNat, Int.reduceLE, Int.reduceLT, Int.reduceNeg, Bool.not_not, and_self, Bool.and_eq_false_iff, Int.cast_ofNat_Int, Int.reduceAdd, Int.reduceSub, Int.reduceMul, Int.reduceEq, Int.reduceNe] <;> rfl) (fun _ => fn56) rfl ?_
      simp only [go_sem, Nat.reduceEqDiff, Nat.reduceBEq, Nat.reduceAdd, Nat.reduceMul, Nat.reduceSub, Nat.reduceLeDiff, Nat.reduceLT, reduceIte, reduceCtorEq, Int.reduceToNat, Int.reduceLE, Int.reduceLT, Int.reduceNeg, Bool.not_not, and_self, Bool.and_eq_false_iff, Int.cast_ofNat_Int, Int.reduceAdd, Int.reduceSub, Int.reduceMul, Int.reduceEq, Int.reduceNe]
    · have hpos : 0 < m.length := by omega
      have n1 : nextT m = (m[0], true) := by unfold nextT; rw [if_neg (by simp [hc]; exact fun e => by simp [e] at hpos), getD_get hpos]
      rw [n1] at e63
      refine runR_call (by simp only [go_sem, Nat.reduceEqDiff, Nat.reduceBEq, Nat.reduceAdd, Nat.reduceMul, Nat.reduceSub, Nat.reduceLeDiff, Nat.reduceLT, reduceIte, reduceCtorEq, Int.reduceToNat, Int.reduceLE, Int.reduceLT, Int.reduceNeg, Bool.not_not, and_self, Bool.and_eq_false_iff, Int.cast_ofNat_Int, Int.reduceAdd, Int.reduceSub, Int.reduceMul, Int.reduceEq, Int.reduceNe]) rfl (e63) (.inl rfl) trivial ?_
      simp only [go_sem, Nat.reduceEqDiff, Nat.reduceBEq, Nat.reduceAdd, Nat.reduceMul, Nat.reduceSub, Nat.reduceLeDiff, Nat.reduceLT, reduceIte, reduceCtorEq, Int.reduceToNat, Int.reduceLE, Int.reduceLT, Int.reduceNeg, Bool.not_not, and_self, Bool.and_eq_false_iff, Int.cast_ofNat_Int, Int.reduceAdd, Int.reduceSub, Int.reduceMul, Int.reduceEq, Int.reduceNe]
      refine runR_callf (by simp only [go_sem, Nat.reduceEqDiff, Nat.reduceBEq, Nat.reduceAdd, Nat.reduceMul, Nat.reduceSub, Nat.reduceLeDiff, Nat.reduceLT, reduceIte, reduceCtorEq, Int.reduceToNat, Int.reduceLE, Int.reduceLT, Int.reduceNeg, Bool.not_not, and_self, Bool.and_eq_false_iff, Int.cast_ofNat_Int, Int.reduceAdd, Int.reduceSub, Int.reduceMul, Int.reduceEq, Int.reduceNe]) (by simp only [go_sem, Nat.reduceEqDiff, Nat.reduceBEq, Nat.reduceAdd, Nat.reduceMul, Nat.reduceSub, Nat.reduceLeDiff, Nat.reduceLT, reduceIte, reduceCtorEq, Int.reduceToNat, Int.reduceLE, Int.reduceLT, Int.reduceNeg, Bool.not_not, and_self, Bool.and_eq_false_iff, Int.cast_ofNat_Int, Int.reduceAdd, Int.reduceSub, Int.reduceMul, Int.reduceEq, Int.reduceNe] <;> rfl) (e5) ⟨rfl, trivial⟩ trivial ?_
      simp only [go_sem, Nat.reduceEqDiff, Nat.reduceBEq, Nat.reduceAdd, Nat.reduceMul, Nat.reduceSub, Nat.reduceLeDiff, Nat.reduceLT, reduceIte, reduceCtorEq, Int.reduceToNat, Int.reduceLE, Int.reduceLT, Int.reduceNeg, Bool.not_not, and_self, Bool.and_eq_false_iff, Int.cast_ofNat_Int, Int.reduceAdd, Int.reduceSub, Int.reduceMul, Int.reduceEq, Int.reduceNe, wf_tm, getD_map hpos, show (0 : Int) < (m.length : Int) by omega]
      refine runR_call (by simp only [go_sem, Nat.reduceEqDiff, Nat.reduceBEq, Nat.reduceAdd, Nat.reduceMul, Nat.reduceSub, Nat.reduceLeDiff, Nat.reduceLT, reduceIte, reduceCtorEq, Int.reduceToNat, Int.reduceLE, Int.reduceLT, Int.reduceNeg, Bool.not_not, and_self, Bool.and_eq_false_iff, Int.cast_ofNat_Int, Int.reduceAdd, Int.reduceSub, Int.reduceMul, Int.reduceEq, Int.reduceNe]) rfl (e67) (.inl rfl) trivial ?_
      simp only [go_sem, Nat.reduceEqDiff, Nat.reduceBEq, Nat.reduceAdd, Nat.reduceMul, Nat.reduceSub, Nat.reduceLeDiff, Nat.reduceLT, reduceIte, reduceCtorEq, Int.reduceToNat, Int.reduceLE, Int.reduceLT, Int.reduceNeg, Bool.not_not, and_self, Bool.and_eq_false_iff, Int.cast_ofNat_Int, Int.reduceAdd, Int.reduceSub, Int.reduceMul, Int.reduceEq, Int.reduceNe]
      refine runR_callf (by simp only [go_sem, Nat.reduceEqDiff, Nat.reduceBEq, Nat.reduceAdd, Nat.reduceMul, Nat.reduceSub, Nat.reduceLeDiff, Nat.reduceLT, reduceIte, reduceCtorEq, Int.reduceToNat, Int.reduceLE, Int.reduceLT, Int.reduceNeg, Bool.not_not, and_self, Bool.and_eq_false_iff, Int.cast_ofNat_Int, Int.reduceAdd, Int.reduceSub, Int.reduceMul, Int.reduceEq, Int.reduceNe]) (by simp only [go_sem, Nat.reduceEqDiff, Nat.reduceBEq, Nat.reduceAdd, Nat.reduceMul, Nat.reduceSub, Nat.reduceLeDiff, Nat.reduceLT, reduceIte, reduceCtorEq, Int.reduceToNat, Int.reduceLE, Int.reduceLT, Int.reduceNeg, Bool.not_not, and_self, Bool.and_eq_false_iff, Int.cast_ofNat_Int, Int.reduceAdd, Int.reduceSub, Int.reduceMul, Int.reduceEq, Int.reduceNe] <;> rfl) (fn58 (offT m n) (offT m n) (by omega) (by omega)) ⟨rfl, trivial⟩ trivial ?_
      simp only [go_sem, Nat.reduceEqDiff, Nat.reduceBEq, Nat.reduceAdd, Nat.reduceMul, Nat.reduceSub, Nat.reduceLeDiff, Nat.reduceLT, reduceIte, reduceCtorEq, Int.reduceToNat, Int.reduceLE, Int.reduceLT, Int.reduceNeg, Bool.not_not, and_self, Bool.and_eq_false_iff, Int.cast_ofNat_Int, Int.reduceAdd, Int.reduceSub, Int.reduceMul, Int.reduceEq, Int.reduceNe, a1]
      refine runR_callgf (by simp only [go_sem, Nat.reduceEqDiff, Nat.reduceBEq, Nat.reduceAdd, Nat.reduceMul, Nat.reduceSub, Nat.reduceLeDiff, Nat.reduceLT, reduceIte, reduceCtorEq, Int.reduceToNat, Int.reduceLE, Int.reduceLT, Int.reduceNeg, Bool.not_not, and_self, Bool.and_eq_false_iff, Int.cast_ofNat_Int, Int.reduceAdd, Int.reduceSub, Int.reduceMul, Int.reduceEq, Int.reduceNe]) (by simp only [go_sem, Nat.reduceEqDiff, Nat.reduceBEq, Nat.reduceAdd, Nat.reduceMul, Nat.reduceSub, Nat.reduceLeDiff, Nat.reduceLT, reduceIte, reduceCtorEq, Int.reduceToNat, Int.reduceLE, Int.reduceLT, Int.reduceNeg, Bool.not_not, and_self, Bool.and_eq_false_iff, Int.cast_ofNat_Int, Int.reduceAdd, Int.reduceSub, Int.reduceMul, Int.reduceEq, Int.reduceNe]) (by simp only [go_sem, Nat.reduceEqDiff, Nat.reduceBEq, Nat.reduceAdd, Nat.reduceMul, Nat.reduceSub, Nat.reduceLeDiff, Nat.reduceLT, reduceIte, reduceCtorEq, Int.reduceToNat, Int.reduceLE, Int.reduceLT, Int.reduceNeg, Bool.not_not, and_self, Bool.and_eq_false_iff, Int.cast_ofNat_Int, Int.reduceAdd, Int.reduceSub, Int.reduceMul, Int.reduceEq, Int.reduceNe] <;> rfl) (fun _ => fn58 m m (by omega) (by omega)) rfl ?_
      simp only [go_sem, Nat.reduceEqDiff, Nat.reduceBEq, Nat.reduceAdd, Nat.reduceMul, Nat.reduceSub, Nat.reduceLeDiff, Nat.reduceLT, reduceIte, reduceCtorEq, Int.reduceToNat, Int.reduceLE, Int.reduceLT, Int.reduceNeg, Bool.not_not, and_self, Bool.and_eq_false_iff, Int.cast_ofNat_Int, Int.reduceAdd, Int.reduceSub, Int.reduceMul, Int.reduceEq, Int.reduceNe]
      refine runR_callgf (by simp only [go_sem, Nat.reduceEqDiff, Nat.reduceBEq, Nat.reduceAdd, Nat.reduceMul, Nat.reduceSub, Nat.reduceLeDiff, Nat.reduceLT, reduceIte, reduceCtorEq, Int.reduceToNat, Int.reduceLE, Int.reduceLT, Int.reduceNeg, Bool.not_not, and_self, Bool.and_eq_false_iff, Int.cast_ofNat_Int, Int.reduceAdd, Int.reduceSub, Int.reduceMul, Int.reduceEq, Int.reduceNe]) (by simp only [go_sem, Nat.reduceEqDiff, Nat.reduceBEq, Nat.reduceAdd, Nat.reduceMul, Nat.reduceSub, Nat.reduceLeDiff, Nat.reduceLT, reduceIte, reduceCtorEq, Int.reduceToNat, Int.reduceLE, Int.reduceLT, Int.reduceNeg, Bool.not_not, and_self, Bool.and_eq_false_iff, Int.cast_ofNat_Int, Int.reduceAdd, Int.reduceSub, Int.reduceMul, Int.reduceEq, Int.reduceNe]) (by simp only [go_sem, Nat.reduceEqDiff, Nat.reduceBEq, Nat.reduceAdd, Nat.reduceMul, Nat.reduceSub, Nat.reduceLeDiff, Nat.reduceLT, reduceIte, reduceCtorEq, Int.reduceToNat, Int.reduceLE, Int.reduceLT, Int.reduceNeg, Bool.not_not, and_self, Bool.and_eq_false_iff, Int.cast_ofNat_Int, Int.reduceAdd, Int.reduceSub, Int.reduceMul, Int.reduceEq, Int.reduceNe] <;> rfl) (fun _ => fn56) rfl ?_
      simp only [go_sem, Nat.reduceEqDiff, Nat.reduceBEq, Nat.reduceAdd, Nat.reduceMul, Nat.reduceSub, Nat.reduceLeDiff, Nat.reduceLT, reduceIte, reduceCtorEq, Int.reduceToNat, Int.reduceLE, Int.reduceLT, Int.reduceNeg, Bool.not_not, and_self, Bool.and_eq_false_iff, Int.cast_ofNat_Int, Int.reduceAdd, Int.reduceSub, Int.reduceMul, Int.reduceEq, Int.reduceNe]
end Go.Vc
