/- A part of the proofs of the seat Ytcjhccdbgphboaa: the contracts of functions, each proved out of its code. -/
import Derived.Test.YtcjhccdbgphboaaJc
import Derived.Test.YtcjhccdbgphboaaProg
namespace Go.Vc
open Go.Proofs
set_option maxRecDepth 100000

/-- 'join.Feed' -/
def B19_0 : MC := (.seq (.reg [⟨(some 66), none, (.q (.bin .lss (.t 65) (.t 64)))⟩] [] [11, 13, 14, 15, 63, 64, 65, 66] [51, 85, 89, 1041, 1054, 2014, 2015]) (.seq (.cond (.t 66) .skip (.exit 0))
  (.seq (.block 1 (.seq (.reg [⟨(some 67), none, (.q (.mv (.t 65)))⟩, ⟨(some 68), none, (.q (.ia (.t 63) (.t 65) 3))⟩, ⟨(some 69), none, (.q (.ld (.t 68) 3 true))⟩, ⟨(some 17), none,
  (.alloc [(.pv (.sc (.int .i64 0))), (.pv (.sc (.int .u64 0))), (.pv (.sc (.int .i64 0)))])⟩, ⟨(some 16), none, (.q (.mv (.t 67)))⟩, ⟨none, none, (.st (.t 17) (.t 69) 3)⟩] [] [11, 13, 14, 15, 16, 17,
  63, 64, 65] [17, 51, 85, 89, 1041, 1054, 2014, 2015]) (.seq (.reg [⟨(some 70), none, (.q (.mv (.t 13)))⟩, ⟨(some 71), none, (.q (.len (.t 70) false))⟩, ⟨(some 72), none, (.q (.bin .gtr (.t 71)
  (.c (.int .i64 0))))⟩, ⟨(some 73), none, (.q (.mv (.t 72)))⟩, ⟨(some 74), (some (73, true)), (.q (.mv (.t 13)))⟩, ⟨(some 75), (some (73, true)), (.q (.ia (.t 74) (.c (.int .i64 0)) 1))⟩, ⟨(some 76),
  (some (73, true)), (.q (.ld (.t 75) 1 false))⟩, ⟨(some 77), (some (73, true)), (.q (.mv (.t 16)))⟩, ⟨(some 78), (some (73, true)), (.q (.bin .eql (.t 76) (.t 77)))⟩, ⟨(some 79), none,
  (.q (.pick (.t 73) (.t 78) (.c (.bool false))))⟩] [] [11, 13, 14, 15, 17, 63, 64, 65, 79] [17, 51, 85, 89, 1041, 1054, 2014, 2015]) (.cond (.t 79) (.seq (.reg [⟨(some 80), none, (.q (.mv (.t 13)))⟩,
  ⟨(some 81), none, (.q (.slc (.t 80) (some (.c (.int .i64 1))) none 1 false))⟩, ⟨(some 13), none, (.q (.mv (.t 81)))⟩] [] [11, 13, 14, 15, 17, 63, 64, 65] [17, 51, 85, 89, 1041, 1054, 2014, 2015])
  (.reg [⟨(some 82), none, (.q (.mv (.t 15)))⟩, ⟨(some 83), none, (.q (.ld (.t 17) 3 true))⟩, ⟨(some 84), none, (.lits [(.t 83)] 3)⟩, ⟨(some 85), none, (.app (.t 82) (.t 84) 3 24)⟩, ⟨(some 15), none,
  (.q (.mv (.t 85)))⟩] [] [11, 13, 14, 15, 63, 64, 65] [51, 85, 89, 1041, 1054, 2014, 2015])) (.reg [⟨(some 86), none, (.q (.mv (.t 14)))⟩, ⟨(some 87), none, (.q (.ld (.t 17) 3 true))⟩, ⟨(some 88),
  none, (.lits [(.t 87)] 3)⟩, ⟨(some 89), none, (.app (.t 86) (.t 88) 3 24)⟩, ⟨(some 14), none, (.q (.mv (.t 89)))⟩] [] [11, 13, 14, 15, 63, 64, 65] [51, 85, 89, 1041, 1054, 2014, 2015])))))
  (.reg [⟨(some 90), none, (.q (.bin .add (.t 65) (.c (.int .i64 1))))⟩, ⟨(some 65), none, (.q (.mv (.t 90)))⟩] [] [11, 13, 14, 15, 63, 64, 65] [51, 85, 89, 1041, 1054, 2014, 2015]))))
def R19_0 : MC := (.seq (.reg [⟨(some 91), none, (.q (.mv (.t 14)))⟩, ⟨(some 92), none, (.q (.mv (.t 15)))⟩, ⟨(some 93), none, (.q (.mv (.t 11)))⟩, ⟨(some 6), none, (.q (.mv (.t 91)))⟩, ⟨(some 7),
  none, (.q (.mv (.t 92)))⟩, ⟨(some 8), none, (.q (.mv (.t 93)))⟩, ⟨(some 9), none, (.q (.mv (.c (.int .i64 0))))⟩] [] [6, 7, 8, 9] [51, 85, 89, 1041, 2014, 2015]) .ret)
def M19 : MC := (.seq (.reg [⟨(some 3), none, (.box (.t 0))⟩, ⟨(some 5), none, (.box (.t 2))⟩, ⟨(some 6), none, (.q (.mv .nil))⟩, ⟨(some 7), none, (.q (.mv .nil))⟩, ⟨(some 8), none, (.q (.mv .nil))⟩,
  ⟨(some 9), none, (.q (.mv (.c (.int .i64 0))))⟩] [] [1, 3, 5] [3, 5]) (.seq (.seq (.reg [⟨(some 18), none, (.q (.ld (.t 3) 4 true))⟩, ⟨(some 19), none, (.q (.mv (.t 1)))⟩, ⟨(some 20), none,
  (.call (.f 24) [(.t 18), (.t 19)])⟩, ⟨(some 21), none, (.q (.bin .neq (.t 20) (.c (.int .i64 0))))⟩, ⟨(some 22), none, (.q (.mv (.t 21)))⟩, ⟨(some 23), (some (22, false)), (.q (.ld (.t 3) 4 true))⟩,
  ⟨(some 24), (some (22, false)), (.q (.ld (.t 5) 3 true))⟩, ⟨(some 25), (some (22, false)), (.call (.f 45) [(.t 23), (.t 24)])⟩, ⟨(some 26), (some (22, false)), (.q (.not (.t 25)))⟩, ⟨(some 27),
  none, (.q (.pick (.t 22) (.c (.bool true)) (.t 26)))⟩] [] [1, 3, 5, 27] [3, 5, 1020, 1025]) (.cond (.t 27) (.seq (.reg [⟨(some 6), none, (.q (.mv .nil))⟩, ⟨(some 7), none, (.q (.mv .nil))⟩,
  ⟨(some 8), none, (.q (.mv .nil))⟩, ⟨(some 9), none, (.q (.mv (.c (.int .i64 1))))⟩] [] [6, 7, 8, 9] [51, 85, 89, 1041, 2014, 2015]) .ret) .skip)) (.seq (.seq (.reg [⟨(some 28), none,
  (.q (.mv (.t 1)))⟩, ⟨(some 29), none, (.q (.fa (.t 5) 2))⟩, ⟨(some 30), none, (.q (.ld (.t 29) 1 false))⟩, ⟨(some 31), none, (.call (.f 46) [(.t 28), (.t 30)])⟩] [] [1, 3, 5, 31] [3, 5, 1031])
  (.cond (.t 31) (.seq (.reg [⟨(some 6), none, (.q (.mv .nil))⟩, ⟨(some 7), none, (.q (.mv .nil))⟩, ⟨(some 8), none, (.q (.mv .nil))⟩, ⟨(some 9), none, (.q (.mv (.c (.int .i64 8))))⟩] [] [6, 7, 8,
  9] [51, 85, 89, 1041, 2014, 2015]) .ret) .skip)) (.seq (.seq (.reg [⟨(some 32), none, (.q (.mv (.t 1)))⟩, ⟨(some 33), none, (.q (.fa (.t 5) 1))⟩, ⟨(some 34), none, (.q (.ld (.t 33) 1 false))⟩,
  ⟨(some 35), none, (.call (.f 47) [(.t 32), (.t 34)])⟩] [] [1, 3, 5, 35] [3, 5, 1035]) (.cond (.t 35) (.seq (.reg [⟨(some 6), none, (.q (.mv .nil))⟩, ⟨(some 7), none, (.q (.mv .nil))⟩, ⟨(some 8),
  none, (.q (.mv .nil))⟩, ⟨(some 9), none, (.q (.mv (.c (.int .i64 5))))⟩] [] [6, 7, 8, 9] [51, 85, 89, 1041, 2014, 2015]) .ret) .skip)) (.seq (.reg [⟨(some 37), none, (.q (.ld (.t 3) 4 true))⟩,
  ⟨(some 38), none, (.q (.mv (.t 1)))⟩, ⟨(some 39), none, (.q (.fa (.t 5) 2))⟩, ⟨(some 40), none, (.q (.ld (.t 39) 1 false))⟩, ⟨(some 41), none, (.call (.f 27) [(.t 37), (.t 38), (.t 40)])⟩,
  ⟨(some 36), none, (.q (.mv (.t 41)))⟩, ⟨(some 42), none, (.q (.ext (.t 36) 0))⟩, ⟨(some 43), none, (.q (.ext (.t 36) 1))⟩, ⟨(some 44), none, (.q (.ext (.t 36) 2))⟩, ⟨(some 10), none,
  (.q (.mv (.t 42)))⟩, ⟨(some 11), none, (.q (.mv (.t 43)))⟩, ⟨(some 12), none, (.q (.mv (.t 44)))⟩] [] [3, 5, 10, 11, 12] [3, 5, 51, 1041]) (.seq (.seq (.reg [⟨(some 45), none, (.q (.mv (.t 12)))⟩,
  ⟨(some 46), none, (.q (.bin .neq (.t 45) (.c (.int .i64 0))))⟩] [] [3, 5, 10, 11, 12, 46] [3, 5, 51, 1041]) (.cond (.t 46) (.seq (.reg [⟨(some 47), none, (.q (.mv (.t 12)))⟩, ⟨(some 6), none,
  (.q (.mv .nil))⟩, ⟨(some 7), none, (.q (.mv .nil))⟩, ⟨(some 8), none, (.q (.mv .nil))⟩, ⟨(some 9), none, (.q (.mv (.t 47)))⟩] [] [6, 7, 8, 9] [51, 85, 89, 1041, 2014, 2015]) .ret) .skip))
  (.seq (.reg [⟨(some 48), none, (.q (.mv (.t 10)))⟩, ⟨(some 49), none, (.q (.ld (.t 5) 3 true))⟩, ⟨(some 50), none, (.lits [(.t 49)] 3)⟩, ⟨(some 51), none, (.app (.t 48) (.t 50) 3 24)⟩, ⟨(some 10),
  none, (.q (.mv (.t 51)))⟩] [(1041, 1041, 0)] [3, 10, 11] [3, 51, 1041]) (.seq (.reg [⟨(some 52), none, (.q (.ld (.t 3) 4 true))⟩, ⟨(some 53), none, (.q (.mv (.t 10)))⟩, ⟨(some 54), none,
  (.call (.f 48) [(.t 52), (.t 53)])⟩, ⟨(some 13), none, (.q (.mv (.t 54)))⟩] [] [10, 11, 13] [51, 1041, 1054]) (.seq (.seq (.reg [⟨(some 55), none, (.q (.mv (.t 13)))⟩, ⟨(some 56), none,
  (.q (.len (.t 55) false))⟩, ⟨(some 57), none, (.q (.bin .eql (.t 56) (.c (.int .i64 0))))⟩] [] [10, 11, 13, 57] [51, 1041, 1054]) (.cond (.t 57) (.seq (.seq (.reg [⟨(some 58), none,
  (.q (.mv (.t 10)))⟩, ⟨(some 59), none, (.q (.len (.t 58) false))⟩, ⟨(some 60), none, (.q (.bin .geq (.t 59) (.c (.int .i64 30))))⟩] [] [10, 11, 60] [51, 1041]) (.cond (.t 60) (.seq (.reg [⟨(some 6),
  none, (.q (.mv .nil))⟩, ⟨(some 7), none, (.q (.mv .nil))⟩, ⟨(some 8), none, (.q (.mv .nil))⟩, ⟨(some 9), none, (.q (.mv (.c (.int .i64 6))))⟩] [] [6, 7, 8, 9] [51, 85, 89, 1041, 2014, 2015]) .ret)
  .skip)) (.seq (.reg [⟨(some 61), none, (.q (.mv (.t 10)))⟩, ⟨(some 62), none, (.q (.mv (.t 11)))⟩, ⟨(some 6), none, (.q (.mv (.t 61)))⟩, ⟨(some 7), none, (.q (.mv .nil))⟩, ⟨(some 8), none,
  (.q (.mv (.t 62)))⟩, ⟨(some 9), none, (.q (.mv (.c (.int .i64 0))))⟩] [] [6, 7, 8, 9] [51, 85, 89, 1041, 2014, 2015]) .ret)) .skip)) (.seq (.reg [⟨(some 14), none, (.q (.mv .nil))⟩, ⟨(some 15),
  none, (.q (.mv .nil))⟩] [(14, 2014, 3), (15, 2015, 3)] [10, 11, 13, 14, 15] [51, 85, 89, 1041, 1054, 2014, 2015]) (.seq (.seq (.reg [⟨(some 63), none, (.q (.mv (.t 10)))⟩, ⟨(some 64), none,
  (.q (.len (.t 63) false))⟩, ⟨(some 65), none, (.q (.mv (.c (.int .i64 0))))⟩] [] [11, 13, 14, 15, 63, 64, 65] [51, 85, 89, 1041, 1054, 2014, 2015]) (.block 0 (.loop B19_0))) R19_0)))))))))))
theorem mc19 : ofCode Try.prog [] Try.f19.ntmps [(0, ⟨[1, 3, 5], [3, 5], [], 0, [], none⟩),
    (1, ⟨[1, 3, 5, 27], [3, 5, 1020, 1025], [], 0, [], none⟩),
    (2, ⟨[6, 7, 8, 9], [51, 85, 89, 1041, 2014, 2015], [], 0, [], none⟩),
    (3, ⟨[1, 3, 5, 31], [3, 5, 1031], [], 0, [], none⟩),
    (4, ⟨[6, 7, 8, 9], [51, 85, 89, 1041, 2014, 2015], [], 0, [], none⟩),
    (5, ⟨[1, 3, 5, 35], [3, 5, 1035], [], 0, [], none⟩),
    (6, ⟨[6, 7, 8, 9], [51, 85, 89, 1041, 2014, 2015], [], 0, [], none⟩),
    (7, ⟨[3, 5, 10, 11, 12], [3, 5, 51, 1041], [], 0, [], none⟩),
    (8, ⟨[3, 5, 10, 11, 12, 46], [3, 5, 51, 1041], [], 0, [], none⟩),
    (9, ⟨[6, 7, 8, 9], [51, 85, 89, 1041, 2014, 2015], [], 0, [], none⟩),
    (10, ⟨[3, 10, 11], [3, 51, 1041], [], 0, [(1041, 1041, 0)], none⟩),
    (11, ⟨[10, 11, 13], [51, 1041, 1054], [], 0, [], none⟩),
    (12, ⟨[10, 11, 13, 57], [51, 1041, 1054], [], 0, [], none⟩),
    (13, ⟨[10, 11, 60], [51, 1041], [], 0, [], none⟩),
    (14, ⟨[6, 7, 8, 9], [51, 85, 89, 1041, 2014, 2015], [], 0, [], none⟩),
    (15, ⟨[6, 7, 8, 9], [51, 85, 89, 1041, 2014, 2015], [], 0, [], none⟩),
    (16, ⟨[10, 11, 13, 14, 15], [51, 85, 89, 1041, 1054, 2014, 2015], [], 0, [(14, 2014, 3), (15, 2015, 3)], none⟩),
    (17, ⟨[11, 13, 14, 15, 63, 64, 65], [51, 85, 89, 1041, 1054, 2014, 2015], [], 0, [], none⟩),
    (18, ⟨[11, 13, 14, 15, 63, 64, 65, 66], [51, 85, 89, 1041, 1054, 2014, 2015], [], 0, [], none⟩),
    (19, ⟨[11, 13, 14, 15, 16, 17, 63, 64, 65], [17, 51, 85, 89, 1041, 1054, 2014, 2015], [], 0, [], none⟩),
    (20, ⟨[11, 13, 14, 15, 17, 63, 64, 65, 79], [17, 51, 85, 89, 1041, 1054, 2014, 2015], [], 0, [], none⟩),
    (21, ⟨[11, 13, 14, 15, 17, 63, 64, 65], [17, 51, 85, 89, 1041, 1054, 2014, 2015], [], 0, [], none⟩),
    (22, ⟨[11, 13, 14, 15, 63, 64, 65], [51, 85, 89, 1041, 1054, 2014, 2015], [], 0, [], none⟩),
    (23, ⟨[11, 13, 14, 15, 63, 64, 65], [51, 85, 89, 1041, 1054, 2014, 2015], [], 0, [], none⟩),
    (24, ⟨[11, 13, 14, 15, 63, 64, 65], [51, 85, 89, 1041, 1054, 2014, 2015], [], 0, [], none⟩),
    (25, ⟨[6, 7, 8, 9], [51, 85, 89, 1041, 2014, 2015], [], 0, [], none⟩)] (Try.f19.body.getD .skip) = some M19 := by kernel_rfl
theorem Run19 {args : List PV} {v : AV} {rs : List (Nat × List PV)} (ids : List Bool) (h : args.length ≤ 94) (hv : run Try.prog (retK [RV.tmp 6, RV.tmp 7, RV.tmp 8, RV.tmp 9] ids v rs) M19 [] ⟨entry 0 args, []⟩) : Fn Try.prog 19 args v rs :=
  Fn_run ids (by kernel_rfl) Try.func19 (by decide) rfl mc19 (by kernel_rfl) (by rw [Try.ntmps19]; exact h) (by rw [Try.ntmps19]; decide) hv

/-- 'trystref09.Feed' -/
def B20_0 : MC := (.seq (.seq (.reg [⟨(some 59), none, (.q (.mv (.t 10)))⟩, ⟨(some 60), none, (.q (.mv (.t 1)))⟩, ⟨(some 61), none, (.q (.len (.t 60) false))⟩, ⟨(some 62), none, (.q (.bin .lss (.t 59)
  (.t 61)))⟩] [] [1, 3, 5, 10, 62] [3, 5]) (.cond (.t 62) .skip (.exit 0))) (.seq (.block 1 (.seq (.reg [⟨(some 65), none, (.q (.mv (.t 1)))⟩, ⟨(some 66), none, (.q (.mv (.t 10)))⟩, ⟨(some 67), none,
  (.q (.ia (.t 65) (.t 66) 3))⟩, ⟨(some 68), none, (.q (.fa (.t 67) 1))⟩, ⟨(some 69), none, (.q (.ld (.t 68) 1 false))⟩, ⟨(some 70), none, (.q (.fa (.t 5) 1))⟩, ⟨(some 71), none, (.q (.ld (.t 70)
  1 false))⟩, ⟨(some 72), none, (.q (.bin .eql (.t 69) (.t 71)))⟩] [] [1, 3, 5, 10, 72] [3, 5]) (.cond (.t 72) (.seq (.reg [⟨(some 6), none, (.q (.mv .nil))⟩, ⟨(some 7), none, (.q (.mv .nil))⟩,
  ⟨(some 8), none, (.q (.mv .nil))⟩, ⟨(some 9), none, (.q (.mv (.c (.int .i64 5))))⟩] [] [6, 7, 8, 9] [117, 124, 1078, 2015, 2016]) .ret) .skip))) (.reg [⟨(some 63), none, (.q (.mv (.t 10)))⟩,
  ⟨(some 64), none, (.q (.bin .add (.t 63) (.c (.int .i64 1))))⟩, ⟨(some 10), none, (.q (.mv (.t 64)))⟩] [] [1, 3, 5, 10] [3, 5])))
def B20_1 : MC := (.seq (.seq (.reg [⟨(some 98), none, (.q (.mv (.t 17)))⟩, ⟨(some 99), none, (.q (.mv (.t 11)))⟩, ⟨(some 100), none, (.q (.len (.t 99) false))⟩, ⟨(some 101), none,
  (.q (.bin .lss (.t 98) (.t 100)))⟩] [] [11, 12, 13, 14, 15, 16, 17, 101] [84, 117, 124, 1078, 1088, 2015, 2016]) (.cond (.t 101) .skip (.exit 2))) (.seq (.block 3 (.seq (.reg [⟨(some 104), none,
  (.q (.mv (.t 14)))⟩, ⟨(some 105), none, (.q (.mv (.t 104)))⟩, ⟨(some 106), (some (105, true)), (.q (.mv (.t 13)))⟩, ⟨(some 107), (some (105, true)), (.q (.mv (.t 17)))⟩, ⟨(some 108), (some (105,
  true)), (.q (.ia (.t 106) (.t 107) 1))⟩, ⟨(some 109), (some (105, true)), (.q (.ld (.t 108) 1 false))⟩, ⟨(some 110), none, (.q (.pick (.t 105) (.t 109) (.c (.bool false))))⟩] [] [11, 12, 13, 14, 15,
  16, 17, 110] [84, 117, 124, 1078, 1088, 2015, 2016]) (.cond (.t 110) (.reg [⟨(some 111), none, (.q (.mv (.t 16)))⟩, ⟨(some 112), none, (.q (.mv (.t 11)))⟩, ⟨(some 113), none, (.q (.mv (.t 17)))⟩,
  ⟨(some 114), none, (.q (.ia (.t 112) (.t 113) 3))⟩, ⟨(some 115), none, (.q (.ld (.t 114) 3 true))⟩, ⟨(some 116), none, (.lits [(.t 115)] 3)⟩, ⟨(some 117), none, (.app (.t 111) (.t 116) 3 24)⟩,
  ⟨(some 16), none, (.q (.mv (.t 117)))⟩] [] [11, 12, 13, 14, 15, 16, 17] [84, 117, 124, 1078, 1088, 2015, 2016]) (.reg [⟨(some 118), none, (.q (.mv (.t 15)))⟩, ⟨(some 119), none, (.q (.mv (.t 11)))⟩,
  ⟨(some 120), none, (.q (.mv (.t 17)))⟩, ⟨(some 121), none, (.q (.ia (.t 119) (.t 120) 3))⟩, ⟨(some 122), none, (.q (.ld (.t 121) 3 true))⟩, ⟨(some 123), none, (.lits [(.t 122)] 3)⟩, ⟨(some 124),
  none, (.app (.t 118) (.t 123) 3 24)⟩, ⟨(some 15), none, (.q (.mv (.t 124)))⟩] [] [11, 12, 13, 14, 15, 16, 17] [84, 117, 124, 1078, 1088, 2015, 2016])))) (.reg [⟨(some 102), none,
  (.q (.mv (.t 17)))⟩, ⟨(some 103), none, (.q (.bin .add (.t 102) (.c (.int .i64 1))))⟩, ⟨(some 17), none, (.q (.mv (.t 103)))⟩] [] [11, 12, 13, 14, 15, 16, 17] [84, 117, 124, 1078, 1088, 2015,
  2016])))
def R20_1 : MC := (.seq (.reg [⟨(some 125), none, (.q (.mv (.t 15)))⟩, ⟨(some 126), none, (.q (.mv (.t 16)))⟩, ⟨(some 127), none, (.q (.mv (.t 12)))⟩, ⟨(some 6), none, (.q (.mv (.t 125)))⟩, ⟨(some 7),
  none, (.q (.mv (.t 126)))⟩, ⟨(some 8), none, (.q (.mv (.t 127)))⟩, ⟨(some 9), none, (.q (.mv (.c (.int .i64 0))))⟩] [] [6, 7, 8, 9] [117, 124, 1078, 2015, 2016]) .ret)
def R20_0 : MC := (.seq (.reg [⟨(some 74), none, (.q (.ld (.t 3) 4 true))⟩, ⟨(some 75), none, (.q (.mv (.t 1)))⟩, ⟨(some 76), none, (.q (.fa (.t 5) 2))⟩, ⟨(some 77), none, (.q (.ld (.t 76) 1 false))⟩,
  ⟨(some 78), none, (.call (.f 28) [(.t 74), (.t 75), (.t 77)])⟩, ⟨(some 73), none, (.q (.mv (.t 78)))⟩, ⟨(some 79), none, (.q (.ext (.t 73) 0))⟩, ⟨(some 80), none, (.q (.ext (.t 73) 1))⟩, ⟨(some 11),
  none, (.q (.mv (.t 79)))⟩, ⟨(some 12), none, (.q (.mv (.t 80)))⟩] [] [3, 5, 11, 12] [3, 5, 84, 1078]) (.seq (.reg [⟨(some 81), none, (.q (.mv (.t 11)))⟩, ⟨(some 82), none, (.q (.ld (.t 5) 3 true))⟩,
  ⟨(some 83), none, (.lits [(.t 82)] 3)⟩, ⟨(some 84), none, (.app (.t 81) (.t 83) 3 24)⟩, ⟨(some 11), none, (.q (.mv (.t 84)))⟩] [(1078, 1078, 0)] [3, 11, 12] [3, 84, 1078]) (.seq (.reg [⟨(some 86),
  none, (.q (.ld (.t 3) 4 true))⟩, ⟨(some 87), none, (.q (.mv (.t 11)))⟩, ⟨(some 88), none, (.call (.f 49) [(.t 86), (.t 87)])⟩, ⟨(some 85), none, (.q (.mv (.t 88)))⟩, ⟨(some 89), none,
  (.q (.ext (.t 85) 0))⟩, ⟨(some 90), none, (.q (.ext (.t 85) 1))⟩, ⟨(some 13), none, (.q (.mv (.t 89)))⟩, ⟨(some 14), none, (.q (.mv (.t 90)))⟩] [(1088, 1088, 0)] [11, 12, 13, 14] [84, 1078, 1088])
  (.seq (.seq (.reg [⟨(some 91), none, (.q (.mv (.t 14)))⟩, ⟨(some 92), none, (.q (.not (.t 91)))⟩, ⟨(some 93), none, (.q (.mv (.t 92)))⟩, ⟨(some 94), (some (93, true)), (.q (.mv (.t 11)))⟩,
  ⟨(some 95), (some (93, true)), (.q (.len (.t 94) false))⟩, ⟨(some 96), (some (93, true)), (.q (.bin .geq (.t 95) (.c (.int .i64 30))))⟩, ⟨(some 97), none, (.q (.pick (.t 93) (.t 96)
  (.c (.bool false))))⟩] [] [11, 12, 13, 14, 97] [84, 1078, 1088]) (.cond (.t 97) (.seq (.reg [⟨(some 6), none, (.q (.mv .nil))⟩, ⟨(some 7), none, (.q (.mv .nil))⟩, ⟨(some 8), none, (.q (.mv .nil))⟩,
  ⟨(some 9), none, (.q (.mv (.c (.int .i64 6))))⟩] [] [6, 7, 8, 9] [117, 124, 1078, 2015, 2016]) .ret) .skip)) (.seq (.reg [⟨(some 15), none, (.q (.mv .nil))⟩, ⟨(some 16), none,
  (.q (.mv .nil))⟩] [(15, 2015, 3), (16, 2016, 3)] [11, 12, 13, 14, 15, 16] [84, 117, 124, 1078, 1088, 2015, 2016]) (.seq (.seq (.reg [⟨(some 17), none, (.q (.mv (.c (.int .i64 0))))⟩] [] [11, 12, 13,
  14, 15, 16, 17] [84, 117, 124, 1078, 1088, 2015, 2016]) (.block 2 (.loop B20_1))) R20_1))))))
def M20 : MC := (.seq (.reg [⟨(some 3), none, (.box (.t 0))⟩, ⟨(some 5), none, (.box (.t 2))⟩, ⟨(some 6), none, (.q (.mv .nil))⟩, ⟨(some 7), none, (.q (.mv .nil))⟩, ⟨(some 8), none, (.q (.mv .nil))⟩,
  ⟨(some 9), none, (.q (.mv (.c (.int .i64 0))))⟩] [] [1, 3, 5] [3, 5]) (.seq (.seq (.reg [⟨(some 18), none, (.q (.ld (.t 3) 4 true))⟩, ⟨(some 19), none, (.q (.mv (.t 1)))⟩, ⟨(some 20), none,
  (.call (.f 25) [(.t 18), (.t 19)])⟩, ⟨(some 21), none, (.q (.not (.t 20)))⟩, ⟨(some 22), none, (.q (.mv (.t 21)))⟩, ⟨(some 23), (some (22, false)), (.q (.fa (.t 5) 0))⟩, ⟨(some 24), (some (22,
  false)), (.q (.ld (.t 23) 1 false))⟩, ⟨(some 25), (some (22, false)), (.q (.bin .lss (.t 24) (.c (.int .i64 0))))⟩, ⟨(some 26), none, (.q (.pick (.t 22) (.c (.bool true)) (.t 25)))⟩, ⟨(some 27),
  none, (.q (.mv (.t 26)))⟩, ⟨(some 28), (some (27, false)), (.q (.fa (.t 5) 0))⟩, ⟨(some 29), (some (27, false)), (.q (.ld (.t 28) 1 false))⟩, ⟨(some 30), (some (27, false)), (.q (.fa (.t 3) 1))⟩,
  ⟨(some 31), (some (27, false)), (.q (.ld (.t 30) 1 false))⟩, ⟨(some 32), (some (27, false)), (.q (.bin .geq (.t 29) (.t 31)))⟩, ⟨(some 33), none, (.q (.pick (.t 27) (.c (.bool true)) (.t 32)))⟩,
  ⟨(some 34), none, (.q (.mv (.t 33)))⟩, ⟨(some 35), (some (34, false)), (.q (.fa (.t 5) 2))⟩, ⟨(some 36), (some (34, false)), (.q (.ld (.t 35) 1 false))⟩, ⟨(some 37), (some (34, false)),
  (.q (.bin .lss (.t 36) (.c (.int .i64 0))))⟩, ⟨(some 38), none, (.q (.pick (.t 34) (.c (.bool true)) (.t 37)))⟩, ⟨(some 39), none, (.q (.mv (.t 38)))⟩, ⟨(some 40), (some (39, false)),
  (.q (.fa (.t 5) 2))⟩, ⟨(some 41), (some (39, false)), (.q (.ld (.t 40) 1 false))⟩, ⟨(some 42), (some (39, false)), (.q (.bin .gtr (.t 41) (.c (.int .i64 1099511627775))))⟩, ⟨(some 43), none,
  (.q (.pick (.t 39) (.c (.bool true)) (.t 42)))⟩] [] [1, 3, 5, 43] [3, 5, 1020]) (.cond (.t 43) (.seq (.reg [⟨(some 6), none, (.q (.mv .nil))⟩, ⟨(some 7), none, (.q (.mv .nil))⟩, ⟨(some 8), none,
  (.q (.mv .nil))⟩, ⟨(some 9), none, (.q (.mv (.c (.int .i64 1))))⟩] [] [6, 7, 8, 9] [117, 124, 1078, 2015, 2016]) .ret) .skip)) (.seq (.seq (.reg [⟨(some 44), none, (.q (.mv (.t 1)))⟩, ⟨(some 45),
  none, (.q (.len (.t 44) false))⟩, ⟨(some 46), none, (.q (.bin .gtr (.t 45) (.c (.int .i64 0))))⟩, ⟨(some 47), none, (.q (.mv (.t 46)))⟩, ⟨(some 48), (some (47, true)), (.q (.fa (.t 5) 2))⟩,
  ⟨(some 49), (some (47, true)), (.q (.ld (.t 48) 1 false))⟩, ⟨(some 50), (some (47, true)), (.q (.mv (.t 1)))⟩, ⟨(some 51), (some (47, true)), (.q (.mv (.t 1)))⟩, ⟨(some 52), (some (47, true)),
  (.q (.len (.t 51) false))⟩, ⟨(some 53), (some (47, true)), (.q (.bin .sub (.t 52) (.c (.int .i64 1))))⟩, ⟨(some 54), (some (47, true)), (.q (.ia (.t 50) (.t 53) 3))⟩, ⟨(some 55), (some (47, true)),
  (.q (.fa (.t 54) 2))⟩, ⟨(some 56), (some (47, true)), (.q (.ld (.t 55) 1 false))⟩, ⟨(some 57), (some (47, true)), (.q (.bin .lss (.t 49) (.t 56)))⟩, ⟨(some 58), none, (.q (.pick (.t 47) (.t 57)
  (.c (.bool false))))⟩] [] [1, 3, 5, 58] [3, 5]) (.cond (.t 58) (.seq (.reg [⟨(some 6), none, (.q (.mv .nil))⟩, ⟨(some 7), none, (.q (.mv .nil))⟩, ⟨(some 8), none, (.q (.mv .nil))⟩, ⟨(some 9), none,
  (.q (.mv (.c (.int .i64 8))))⟩] [] [6, 7, 8, 9] [117, 124, 1078, 2015, 2016]) .ret) .skip)) (.seq (.seq (.reg [⟨(some 10), none, (.q (.mv (.c (.int .i64 0))))⟩] [] [1, 3, 5, 10] [3, 5])
  (.block 0 (.loop B20_0))) R20_0))))
theorem mc20 : ofCode Try.prog [] Try.f20.ntmps [(0, ⟨[1, 3, 5], [3, 5], [], 0, [], none⟩),
    (1, ⟨[1, 3, 5, 43], [3, 5, 1020], [], 0, [], none⟩),
    (2, ⟨[6, 7, 8, 9], [117, 124, 1078, 2015, 2016], [], 0, [], none⟩),
    (3, ⟨[1, 3, 5, 58], [3, 5], [(0, 32767), (1, 32766), (2, 32764), (3, 32760), (4, 24624), (5, 24608), (6, 31808), (7, 32640), (8, 32512), (9, 32256), (10, 31744), (11, 30720), (12, 28672), (13, 24576), (14, 16384)], 32767, [], none⟩),
    (4, ⟨[6, 7, 8, 9], [117, 124, 1078, 2015, 2016], [], 0, [], none⟩),
    (5, ⟨[1, 3, 5, 10], [3, 5], [], 0, [], none⟩),
    (6, ⟨[1, 3, 5, 10, 62], [3, 5], [], 0, [], none⟩),
    (7, ⟨[1, 3, 5, 10], [3, 5], [], 0, [], none⟩),
    (8, ⟨[1, 3, 5, 10, 72], [3, 5], [(0, 157), (1, 158), (2, 156), (3, 152), (4, 144), (5, 224), (6, 192), (7, 128)], 255, [], none⟩),
    (9, ⟨[6, 7, 8, 9], [117, 124, 1078, 2015, 2016], [], 0, [], none⟩),
    (10, ⟨[3, 5, 11, 12], [3, 5, 84, 1078], [], 0, [], none⟩),
    (11, ⟨[3, 11, 12], [3, 84, 1078], [], 0, [(1078, 1078, 0)], none⟩),
    (12, ⟨[11, 12, 13, 14], [84, 1078, 1088], [], 0, [(1088, 1088, 0)], none⟩),
    (13, ⟨[11, 12, 13, 14, 97], [84, 1078, 1088], [], 0, [], none⟩),
    (14, ⟨[6, 7, 8, 9], [117, 124, 1078, 2015, 2016], [], 0, [], none⟩),
    (15, ⟨[11, 12, 13, 14, 15, 16], [84, 117, 124, 1078, 1088, 2015, 2016], [], 0, [(15, 2015, 3), (16, 2016, 3)], none⟩),
    (16, ⟨[11, 12, 13, 14, 15, 16, 17], [84, 117, 124, 1078, 1088, 2015, 2016], [], 0, [], none⟩),
    (17, ⟨[11, 12, 13, 14, 15, 16, 17, 101], [84, 117, 124, 1078, 1088, 2015, 2016], [], 0, [], none⟩),
    (18, ⟨[11, 12, 13, 14, 15, 16, 17], [84, 117, 124, 1078, 1088, 2015, 2016], [], 0, [], none⟩),
    (19, ⟨[11, 12, 13, 14, 15, 16, 17, 110], [84, 117, 124, 1078, 1088, 2015, 2016], [], 0, [], none⟩),
    (20, ⟨[11, 12, 13, 14, 15, 16, 17], [84, 117, 124, 1078, 1088, 2015, 2016], [], 0, [], none⟩),
    (21, ⟨[11, 12, 13, 14, 15, 16, 17], [84, 117, 124, 1078, 1088, 2015, 2016], [], 0, [], none⟩),
    (22, ⟨[6, 7, 8, 9], [117, 124, 1078, 2015, 2016], [], 0, [], none⟩)] (Try.f20.body.getD .skip) = some M20 := by kernel_rfl
theorem Run20 {args : List PV} {v : AV} {rs : List (Nat × List PV)} (ids : List Bool) (h : args.length ≤ 128) (hv : run Try.prog (retK [RV.tmp 6, RV.tmp 7, RV.tmp 8, RV.tmp 9] ids v rs) M20 [] ⟨entry 0 args, []⟩) : Fn Try.prog 20 args v rs :=
  Fn_run ids (by kernel_rfl) Try.func20 (by decide) rfl mc20 (by kernel_rfl) (by rw [Try.ntmps20]; exact h) (by rw [Try.ntmps20]; decide) hv

end Go.Vc

namespace Go.Vc
open Go.Proofs
set_option linter.unusedSimpArgs false

/-! ## What a feed comes to -/
def pickK (q : Nat → Bool) (ws : List Kp) (i : Nat) : List Kp := ((List.range i).filter q).map fun k => ws.getD k default
structure FR where
  left : List Kp
  fired : List Kp
  over : List Kp
  err : Int
abbrev FR.pv (r : FR) : PV := .tup [ks r.left, ks r.fired, ks r.over, pI r.err]
def frErr (e : Int) : FR := ⟨[], [], [], e⟩
def metJ (j : Jn) (ws : List Kp) : Bool := decide (needJ j ≤ (fireCnt j ws ws.length : Int))
def waitsJ (j : Jn) (l : List Kp) (x : Kp) : List Kp := l.drop (nOver j x.at_ l) ++ [x]
def idIn (l : List Kp) (n : Int) : Bool := l.any fun k => decide (k.id = n)
def feedR (j : Jn) (l : List Kp) (x : Kp) : FR :=
  if !checkJ j l || !fitsK j x then frErr 1
  else if earlyK l x.at_ then frErr 8
  else if idIn l x.id then frErr 5
  else if metJ j (waitsJ j l x) then ⟨pickK (fun i => !fireAt j (waitsJ j l x) i) (waitsJ j l x) (waitsJ j l x).length, pickK (fireAt j (waitsJ j l x)) (waitsJ j l x) (waitsJ j l x).length, l.take (nOver j x.at_ l), 0⟩
  else if 30 ≤ (waitsJ j l x).length then frErr 6
  else ⟨waitsJ j l x, [], l.take (nOver j x.at_ l), 0⟩
theorem pick_succ (q : Nat → Bool) (ws : List Kp) (i : Nat) : pickK q ws (i + 1) = pickK q ws i ++ if q i = true then [ws.getD i default] else [] := by
  simp only [pickK, List.range_succ, List.filter_append, List.map_append]
  by_cases h : q i = true <;> simp [h]
theorem pick_le (q : Nat → Bool) (ws : List Kp) (i : Nat) : (pickK q ws i).length ≤ i := by
  have := List.length_filter_le q (List.range i)
  simpa [pickK] using this
theorem pick_all (ws : List Kp) : pickK (fun _ => true) ws ws.length = ws := by
  have e : (List.range ws.length).filter (fun _ => true) = List.range ws.length := List.filter_eq_self.2 fun _ _ => rfl
  simp only [pickK, e]
  apply List.ext_getElem
  · simp
  · intro n h1 h2
    simp [List.getD_eq_getElem?_getD, h2]
theorem filter_tw {q : Kp → Bool} : ∀ {l : List Kp}, l.Pairwise (fun a b => q b = true → q a = true) → l.filter q = l.takeWhile q ∧ (l.filter fun k => !q k) = l.drop (l.takeWhile q).length
  | [], _ => ⟨rfl, rfl⟩
  | a :: l, h => by
    rw [List.pairwise_cons] at h
    obtain ⟨h1, h2⟩ := filter_tw h.2
    by_cases ha : q a = true
    · rw [List.takeWhile_cons, if_pos ha, List.filter_cons, if_pos ha, List.filter_cons, h1, h2]
      simp [ha]
    · have hn : ∀ b ∈ l, q b = false := fun b hb => by
        cases hq : q b with
        | false => rfl
        | true => exact absurd (h.1 b hb hq) ha
      rw [List.takeWhile_cons, if_neg ha, List.filter_cons, if_neg ha, List.filter_cons]
      have e1 : l.filter q = [] := List.filter_eq_nil_iff.2 fun b hb => by simp [hn b hb]
      have e2 : (l.filter fun k => !q k) = l := List.filter_eq_self.2 fun b hb => by simp [hn b hb]
      simp [ha, e1, e2]
theorem okAt_prev {j : Jn} {l : List Kp} {i : Nat} (h : i + 1 < l.length) (hok : okTo j l l.length = true) : (l.getD i default).at_ ≤ (l.getD (i + 1) default).at_ := by
  have := (okAt_iff j l (i + 1) h).1 (okTo_at hok h)
  exact this.2.2.2.2.1 (by omega)
theorem at_mono {j : Jn} {l : List Kp} (hok : okTo j l l.length = true) : ∀ (d i : Nat), i + d < l.length → (l.getD i default).at_ ≤ (l.getD (i + d) default).at_
  | 0, _, _ => Int.le_refl _
  | d + 1, i, h => Int.le_trans (at_mono hok d i (by omega)) (okAt_prev (by omega) hok)
theorem at_sorted {j : Jn} {l : List Kp} (hok : okTo j l l.length = true) : l.Pairwise (fun a b => a.at_ ≤ b.at_) := by
  rw [List.pairwise_iff_getElem]
  intro a b ha hb hab
  have := at_mono hok (b - a) a (by omega)
  rw [show a + (b - a) = b by omega, getD_get ha, getD_get hb] at this
  exact this
theorem over_split {j : Jn} {l : List Kp} (hok : okTo j l l.length = true) (now : Int) : l.filter (isOver j now) = l.take (nOver j now l) ∧ (l.filter fun k => !isOver j now k) = l.drop (nOver j now l) := by
  obtain ⟨h1, h2⟩ := filter_tw (q := isOver j now) ((at_sorted hok).imp fun {a b} h => by simp only [isOver, decide_eq_true_eq]; omega)
  refine ⟨?_, h2⟩
  rw [h1, nOver]
  exact (List.prefix_iff_eq_take.1 (List.takeWhile_prefix _))
theorem fits_iff (j : Jn) (x : Kp) : fitsK j x = true ↔ 0 ≤ x.part ∧ x.part < j.parts ∧ 0 ≤ x.at_ ∧ x.at_ ≤ 1099511627775 := by
  simp [fitsK, timeB]; omega
theorem checkJ_at {j : Jn} {l : List Kp} (h : checkJ j l = true) : ∀ k ∈ l, 0 ≤ k.at_ ∧ k.at_ ≤ 1099511627775 := fun k hk => fitsK_at (okTo_fits (checkJ_parts h).2.2.1 k hk)
theorem flat_ks (l : List Kp) : ∀ p ∈ l.map Kp.pv, p.flat = true := by
  intro p hp
  obtain ⟨k, _, rfl⟩ := List.mem_map.1 hp
  rfl
theorem waits_len (j : Jn) (l : List Kp) (x : Kp) : (waitsJ j l x).length = l.length - nOver j x.at_ l + 1 := by simp [waitsJ]
theorem fires_get {j : Jn} {ws : List Kp} {i : Nat} (h : i < ws.length) : (firesTo j ws ws.length).getD i default = pB (fireAt j ws i) := by
  simp [firesTo, List.getD_eq_getElem?_getD, h]
theorem fires_len (j : Jn) (ws : List Kp) : (firesTo j ws ws.length).length = ws.length := by simp [firesTo]
theorem wf_fires (j : Jn) (ws : List Kp) : WfL 1 (firesTo j ws ws.length) := by
  intro p hp
  simp only [firesTo, List.mem_map] at hp
  obtain ⟨k, _, rfl⟩ := hp
  exact ⟨rfl, fun c hc => by simp only [PV.cells, List.mem_singleton] at hc; subst hc; rfl⟩
theorem waits_map (j : Jn) (l : List Kp) (x : Kp) : List.map Kp.pv (l.drop (nOver j x.at_ l)) ++ [x.pv] = List.map Kp.pv (waitsJ j l x) := by simp [waitsJ]
theorem R20_0_ok (j : Jn) (l : List Kp) (x : Kp) (hl : l.length < 100000) (hc : checkJ j l = true) (hf : fitsK j x = true) (he : earlyK l x.at_ = false) (hi : idIn l x.id = false) :
    run Try.prog (retK [RV.tmp 6, RV.tmp 7, RV.tmp 8, RV.tmp 9] [] (.pv (feedR j l x).pv) []) R20_0 [] ⟨[(1, .pv (ks l)), (3, .ptr 3 0), (5, .ptr 5 0), (10, .pv (pI l.length)), (62, .pv (pB false))], [(3, .box [.pv (pS j.kind), .pv (pI j.parts), .pv (pI j.need), .pv (pI j.window)]), (5, .box [.pv (pI x.part), .pv (pU x.id), .pv (pI x.at_)])]⟩ := by
  obtain ⟨c1, c2, c3, c4⟩ := checkJ_parts hc
  obtain ⟨e1, e2⟩ := over_split c3 x.at_
  have h28 := fn28 j l x.at_ hl (mayJ_win c1) (checkJ_at hc)
  rw [e1, e2, List.length_drop] at h28
  have hle := nOver_le j x.at_ l
  have hwl := waits_len j l x
  simp only [go_sem, Nat.reduceEqDiff, Nat.reduceBEq, Nat.reduceAdd, Nat.reduceMul, Nat.reduceSub, Nat.reduceLeDiff, Nat.reduceLT, reduceIte, reduceCtorEq, Int.reduceToNat, Int.reduceLE, Int.reduceLT, Int.reduceNeg, Bool.not_not, and_self, Bool.and_eq_false_iff, Int.cast_ofNat_Int, R20_0]
  refine runR_call (by simp only [go_sem, Nat.reduceEqDiff, Nat.reduceBEq, Nat.reduceAdd, Nat.reduceMul, Nat.reduceSub, Nat.reduceLeDiff, Nat.reduceLT, reduceIte, reduceCtorEq, Int.reduceToNat, Int.reduceLE, Int.reduceLT, Int.reduceNeg, Bool.not_not, and_self, Bool.and_eq_false_iff, Int.cast_ofNat_Int]) rfl h28 (.inl rfl) trivial ?_
  have hw : List.take (l.length - nOver j x.at_ l + 1) (List.take (l.length - nOver j x.at_ l) (List.map Kp.pv (l.drop (nOver j x.at_ l))) ++ [.agg [pI x.part, pU x.id, pI x.at_]]) = (waitsJ j l x).map Kp.pv := by
    rw [List.take_of_length_le (by simp), List.take_of_length_le (by simp)]
    simp [waitsJ]
  simp only [go_sem, Nat.reduceEqDiff, Nat.reduceBEq, Nat.reduceAdd, Nat.reduceMul, Nat.reduceSub, Nat.reduceLeDiff, Nat.reduceLT, reduceIte, reduceCtorEq, Int.reduceToNat, Int.reduceLE, Int.reduceLT, Int.reduceNeg, Bool.not_not, and_self, Bool.and_eq_false_iff, Int.cast_ofNat_Int, wf_one, hw]
  have hwl' : (l.length - nOver j x.at_ l) + 1 = (waitsJ j l x).length := hwl.symm
  have hr0 : checkJ j l = true ∧ fitsK j x = true := ⟨hc, hf⟩
  generalize hW : waitsJ j l x = ws at *
  refine ⟨by omega, runR_callf (by simp only [go_sem, Nat.reduceEqDiff, Nat.reduceBEq, Nat.reduceAdd, Nat.reduceMul, Nat.reduceSub, Nat.reduceLeDiff, Nat.reduceLT, reduceIte, reduceCtorEq, Int.reduceToNat, Int.reduceLE, Int.reduceLT, Int.reduceNeg, Bool.not_not, and_self, Bool.and_eq_false_iff, Int.cast_ofNat_Int]) (by simp only [go_sem, Nat.reduceEqDiff, Nat.reduceBEq, Nat.reduceAdd, Nat.reduceMul, Nat.reduceSub, Nat.reduceLeDiff, Nat.reduceLT, reduceIte, reduceCtorEq, Int.reduceToNat, Int.reduceLE, Int.reduceLT, Int.reduceNeg, Bool.not_not, and_self, Bool.and_eq_false_iff, Int.cast_ofNat_Int]) (fn49 j ws (by omega)) ⟨rfl, flat_fires j ws⟩ trivial ?_⟩
  have htf : List.take ws.length (firesTo j ws ws.length) = firesTo j ws ws.length := List.take_of_length_le (by rw [fires_len]; exact Nat.le_refl _)
  simp only [go_sem, Nat.reduceEqDiff, Nat.reduceBEq, Nat.reduceAdd, Nat.reduceMul, Nat.reduceSub, Nat.reduceLeDiff, Nat.reduceLT, reduceIte, reduceCtorEq, Int.reduceToNat, Int.reduceLE, Int.reduceLT, Int.reduceNeg, Bool.not_not, and_self, Bool.and_eq_false_iff, Int.cast_ofNat_Int, take_len_map, htf]
  have hm : metJ j ws = decide (needJ j ≤ (fireCnt j ws ws.length : Int)) := rfl
  have hfr : feedR j l x = if metJ j ws then ⟨pickK (fun i => !fireAt j ws i) ws ws.length, pickK (fireAt j ws) ws ws.length, l.take (nOver j x.at_ l), 0⟩
      else if 30 ≤ ws.length then frErr 6 else ⟨ws, [], l.take (nOver j x.at_ l), 0⟩ := by
    unfold feedR
    rw [hW]
    simp [hc, hf, he, hi]
  rw [hfr]
  refine ⟨fun h => ?_, fun h => ?_⟩
  · have h1 : metJ j ws = false := by rw [hm]; simp; omega
    simp [h1, show 30 ≤ ws.length by omega, frErr]
  · have hq : ∀ (q : Nat → Bool), (∀ i, i < ws.length → (metJ j ws && fireAt j ws i) = q i) → run Try.prog (retK [RV.tmp 6, RV.tmp 7, RV.tmp 8, RV.tmp 9] [] (.pv (FR.pv ⟨pickK (fun i => !q i) ws ws.length, pickK q ws ws.length, l.take (nOver j x.at_ l), 0⟩)) []) (.loop B20_1) [.blk 2, .code R20_1]
       ⟨[(11, .pv (ks ws)), (12, .pv (ks (l.take (nOver j x.at_ l)))), (13, .pv (.lst (firesTo j ws ws.length))), (14, .pv (pB (metJ j ws))), (15, .row 2015 0 0), (16, .row 2016 0 0), (17, .pv (pI 0))], [(2015, .sl 3 []), (2016, .sl 3 [])]⟩ := by
      intro q hq
      refine run_loop (T := Nat) (fun i => ⟨[(11, .pv (ks ws)), (12, .pv (ks (l.take (nOver j x.at_ l)))), (13, .pv (.lst (firesTo j ws ws.length))), (14, .pv (pB (metJ j ws))), (15, .row 2015 0 (pickK (fun i => !q i) ws i).length), (16, .row 2016 0 (pickK q ws i).length), (17, .pv (pI i))],
          [(2015, .sl 3 ((pickK (fun i => !q i) ws i).map Kp.pv)), (2016, .sl 3 ((pickK q ws i).map Kp.pv))]⟩)
        (fun i => i ≤ ws.length) (fun i => ws.length - i) 0 rfl (Nat.zero_le _) ?_
      intro i hi
      by_cases hlt : i < ws.length
      · have p1 := pick_le (fun i => !q i) ws i
        have p2 := pick_le q ws i
        simp only [go_sem, Nat.reduceEqDiff, Nat.reduceBEq, Nat.reduceAdd, Nat.reduceMul, Nat.reduceSub, Nat.reduceLeDiff, Nat.reduceLT, reduceIte, reduceCtorEq, Int.reduceToNat, Int.reduceLE, Int.reduceLT, Int.reduceNeg, Bool.not_not, and_self, Bool.and_eq_false_iff, Int.cast_ofNat_Int, B20_1, wf_ks, wf_fires, wf_one, fires_get hlt, fires_len, getD_ks hlt, show (i : Int) < (ws.length : Int) by omega, take_len_map]
        refine ⟨fun hh => ⟨by omega, by omega, i + 1, ?_, hlt, by omega⟩, fun hh => ⟨by omega, by omega, i + 1, ?_, hlt, by omega⟩⟩
        · have : q i = true := by rw [← hq i hlt, hh.1, hh.2]; rfl
          simp [pick_succ, this]
        · have : q i = false := by
            rw [← hq i hlt]
            rcases hh with hh | hh <;> rw [hh] <;> simp
          simp [pick_succ, this]
      · have e : i = ws.length := by omega
        subst e
        simp only [go_sem, Nat.reduceEqDiff, Nat.reduceBEq, Nat.reduceAdd, Nat.reduceMul, Nat.reduceSub, Nat.reduceLeDiff, Nat.reduceLT, reduceIte, reduceCtorEq, Int.reduceToNat, Int.reduceLE, Int.reduceLT, Int.reduceNeg, Bool.not_not, and_self, Bool.and_eq_false_iff, Int.cast_ofNat_Int, B20_1, show ¬ (ws.length : Int) < (ws.length : Int) by omega]
        simp only [go_sem, Nat.reduceEqDiff, Nat.reduceBEq, Nat.reduceAdd, Nat.reduceMul, Nat.reduceSub, Nat.reduceLeDiff, Nat.reduceLT, reduceIte, reduceCtorEq, Int.reduceToNat, Int.reduceLE, Int.reduceLT, Int.reduceNeg, Bool.not_not, and_self, Bool.and_eq_false_iff, Int.cast_ofNat_Int, R20_1, take_len_map]
    by_cases hmet : metJ j ws = true
    · rw [if_pos hmet]
      have := hq (fireAt j ws) (fun i _ => by rw [hmet]; rfl)
      rw [hm] at this
      exact this
    · have hmf : metJ j ws = false := by simpa using hmet
      have h30 : ¬ 30 ≤ ws.length := by
        rw [hm] at hmf
        simp at hmf
        omega
      rw [if_neg hmet, if_neg h30]
      have := hq (fun _ => false) (fun i _ => by rw [hmf]; rfl)
      rw [hm] at this
      have e1 : pickK (fun _ => !false) ws ws.length = ws := pick_all ws
      have e2 : pickK (fun _ => false) ws ws.length = [] := by simp [pickK]
      rw [e1, e2] at this
      exact this
theorem fn20 (j : Jn) (l : List Kp) (x : Kp) (hl : l.length < 100000) : Fn Try.prog 20 [j.pv, ks l, x.pv] (.pv (feedR j l x).pv) [] := by
  refine Run20 [] (by simp) ?_
  have main : checkJ j l = true → fitsK j x = true → earlyK l x.at_ = false → run Try.prog (retK [RV.tmp 6, RV.tmp 7, RV.tmp 8, RV.tmp 9] [] (.pv (feedR j l x).pv) []) (.loop B20_0) [.blk 0, .code R20_0]
      ⟨[(1, .pv (ks l)), (3, .ptr 3 0), (5, .ptr 5 0), (10, .pv (pI 0))], [(3, .box [.pv (pS j.kind), .pv (pI j.parts), .pv (pI j.need), .pv (pI j.window)]), (5, .box [.pv (pI x.part), .pv (pU x.id), .pv (pI x.at_)])]⟩ := by
    intro hc hf he
    refine run_loop (T := Nat) (fun i => ⟨[(1, .pv (ks l)), (3, .ptr 3 0), (5, .ptr 5 0), (10, .pv (pI i))], [(3, .box [.pv (pS j.kind), .pv (pI j.parts), .pv (pI j.need), .pv (pI j.window)]), (5, .box [.pv (pI x.part), .pv (pU x.id), .pv (pI x.at_)])]⟩)
      (fun i => i ≤ l.length ∧ idIn (l.take i) x.id = false) (fun i => l.length - i) 0 rfl ⟨Nat.zero_le _, rfl⟩ ?_
    intro i ⟨hi, hn⟩
    by_cases hlt : i < l.length
    · simp only [go_sem, Nat.reduceEqDiff, Nat.reduceBEq, Nat.reduceAdd, Nat.reduceMul, Nat.reduceSub, Nat.reduceLeDiff, Nat.reduceLT, reduceIte, reduceCtorEq, Int.reduceToNat, Int.reduceLE, Int.reduceLT, Int.reduceNeg, Bool.not_not, and_self, Bool.and_eq_false_iff, Int.cast_ofNat_Int, B20_0, wf_ks, getD_ks hlt, show (i : Int) < (l.length : Int) by omega]
      refine ⟨fun h => ?_, fun h => ⟨by omega, i + 1, rfl, ⟨hlt, ?_⟩, by omega⟩⟩
      · have h1 : idIn l x.id = true := by
          have := any_take (q := fun k => decide (k.id = x.id)) (show i < l.length from hlt) hlt (by simp [h, -List.getD_eq_getElem?_getD])
          rwa [List.take_length] at this
        simp [feedR, hc, hf, he, h1, frErr]
      · unfold idIn at hn ⊢
        rw [any_take_succ hlt, hn]; simp [h, -List.getD_eq_getElem?_getD]
    · have e : i = l.length := by omega
      subst e
      rw [List.take_length] at hn
      simp only [go_sem, Nat.reduceEqDiff, Nat.reduceBEq, Nat.reduceAdd, Nat.reduceMul, Nat.reduceSub, Nat.reduceLeDiff, Nat.reduceLT, reduceIte, reduceCtorEq, Int.reduceToNat, Int.reduceLE, Int.reduceLT, Int.reduceNeg, Bool.not_not, and_self, Bool.and_eq_false_iff, Int.cast_ofNat_Int, B20_0, show ¬ (l.length : Int) < (l.length : Int) by omega]
      exact R20_0_ok j l x hl hc hf he hn
  have hfi := fits_iff j x
  have cfalse : checkJ j l = false ∨ fitsK j x = false → feedR j l x = frErr 1 := by
    intro h
    rcases h with h | h <;> simp [feedR, h]
  by_cases h0 : 0 < l.length
  · simp only [go_sem, Nat.reduceEqDiff, Nat.reduceBEq, Nat.reduceAdd, Nat.reduceMul, Nat.reduceSub, Nat.reduceLeDiff, Nat.reduceLT, reduceIte, reduceCtorEq, Int.reduceToNat, Int.reduceLE, Int.reduceLT, Int.reduceNeg, Bool.not_not, and_self, Bool.and_eq_false_iff, Int.cast_ofNat_Int, M20]
    refine runR_callf (by simp only [go_sem, Nat.reduceEqDiff, Nat.reduceBEq, Nat.reduceAdd, Nat.reduceMul, Nat.reduceSub, Nat.reduceLeDiff, Nat.reduceLT, reduceIte, reduceCtorEq, Int.reduceToNat, Int.reduceLE, Int.reduceLT, Int.reduceNeg, Bool.not_not, and_self, Bool.and_eq_false_iff, Int.cast_ofNat_Int]) (by simp only [go_sem, Nat.reduceEqDiff, Nat.reduceBEq, Nat.reduceAdd, Nat.reduceMul, Nat.reduceSub, Nat.reduceLeDiff, Nat.reduceLT, reduceIte, reduceCtorEq, Int.reduceToNat, Int.reduceLE, Int.reduceLT, Int.reduceNeg, Bool.not_not, and_self, Bool.and_eq_false_iff, Int.cast_ofNat_Int]) (fn25 j l hl) ⟨rfl, trivial⟩ trivial ?_
    simp only [go_sem, Nat.reduceEqDiff, Nat.reduceBEq, Nat.reduceAdd, Nat.reduceMul, Nat.reduceSub, Nat.reduceLeDiff, Nat.reduceLT, reduceIte, reduceCtorEq, Int.reduceToNat, Int.reduceLE, Int.reduceLT, Int.reduceNeg, Bool.not_not, and_self, Bool.and_eq_false_iff, Int.cast_ofNat_Int, show ((l.length : Int) - 1).toNat = l.length - 1 by omega, getD_ks (show l.length - 1 < l.length by omega), wf_ks, show (0 : Int) < (l.length : Int) by omega]
    have hee : earlyK l x.at_ = decide (x.at_ < (l.getD (l.length - 1) default).at_) := by simp [earlyK, h0, -List.getD_eq_getElem?_getD]
    refine ⟨fun h => ?_, fun h => ⟨by omega, by omega, fun h1 => ?_, fun h1 => ?_⟩⟩
    · rw [cfalse (by rcases h with (((h | h) | h) | h) | h <;> first | (left; exact h) | (right; rw [Bool.eq_false_iff]; intro ht; have := hfi.1 ht; omega))]; rfl
    · have hf := hfi.2 ⟨by omega, by omega, by omega, by omega⟩
      have he : earlyK l x.at_ = true := by rw [hee]; simp [h1, -List.getD_eq_getElem?_getD]
      simp [feedR, h.1.1.1.1, hf, he, frErr]
    · exact main h.1.1.1.1 (hfi.2 ⟨by omega, by omega, by omega, by omega⟩) (by rw [hee]; simp [h1, -List.getD_eq_getElem?_getD])
  · have e : l = [] := List.eq_nil_of_length_eq_zero (by omega)
    subst e
    simp only [go_sem, Nat.reduceEqDiff, Nat.reduceBEq, Nat.reduceAdd, Nat.reduceMul, Nat.reduceSub, Nat.reduceLeDiff, Nat.reduceLT, reduceIte, reduceCtorEq, Int.reduceToNat, Int.reduceLE, Int.reduceLT, Int.reduceNeg, Bool.not_not, and_self, Bool.and_eq_false_iff, Int.cast_ofNat_Int, M20, List.map_nil, List.length_nil]
    refine runR_callf (by simp only [go_sem, Nat.reduceEqDiff, Nat.reduceBEq, Nat.reduceAdd, Nat.reduceMul, Nat.reduceSub, Nat.reduceLeDiff, Nat.reduceLT, reduceIte, reduceCtorEq, Int.reduceToNat, Int.reduceLE, Int.reduceLT, Int.reduceNeg, Bool.not_not, and_self, Bool.and_eq_false_iff, Int.cast_ofNat_Int]) (by simp only [go_sem, Nat.reduceEqDiff, Nat.reduceBEq, Nat.reduceAdd, Nat.reduceMul, Nat.reduceSub, Nat.reduceLeDiff, Nat.reduceLT, reduceIte, reduceCtorEq, Int.reduceToNat, Int.reduceLE, Int.reduceLT, Int.reduceNeg, Bool.not_not, and_self, Bool.and_eq_false_iff, Int.cast_ofNat_Int]) (fn25 j [] hl) ⟨rfl, trivial⟩ trivial ?_
    simp only [go_sem, Nat.reduceEqDiff, Nat.reduceBEq, Nat.reduceAdd, Nat.reduceMul, Nat.reduceSub, Nat.reduceLeDiff, Nat.reduceLT, reduceIte, reduceCtorEq, Int.reduceToNat, Int.reduceLE, Int.reduceLT, Int.reduceNeg, Bool.not_not, and_self, Bool.and_eq_false_iff, Int.cast_ofNat_Int, List.map_nil, List.length_nil]
    refine ⟨fun h => ?_, fun h => ?_⟩
    · rw [cfalse (by rcases h with (((h | h) | h) | h) | h <;> first | (left; exact h) | (right; rw [Bool.eq_false_iff]; intro ht; have := hfi.1 ht; omega))]; rfl
    · exact main h.1.1.1.1 (hfi.2 ⟨by omega, by omega, by omega, by omega⟩) rfl
end Go.Vc

namespace Go.Vc
open Go.Proofs
set_option linter.unusedSimpArgs false

theorem range_lt (n m : Nat) : ((List.range n).filter fun i => decide (i < m)) = List.range (min n m) := by
  induction n with
  | zero => simp
  | succ n ih =>
    rw [List.range_succ, List.filter_append, ih]
    by_cases h : n < m
    · simp [h, show min (n + 1) m = n + 1 by omega, show min n m = n by omega, List.range_succ]
    · simp [h, show min (n + 1) m = min n m by omega]
theorem places_met {j : Jn} {ws : List Kp} (hm : mayJ j = true) : places j ws = if metJ j ws then (List.range ws.length).filter (fireAt j ws) else [] := by
  have h0 := met_places j ws hm
  by_cases h : metJ j ws = true
  · rw [if_pos h]
    have hn : places j ws ≠ [] := by rw [Ne, h0, metJ] at *; simpa using h
    have h1 := ne_AC
    have h2 := ne_YC
    have h3 := ne_AY
    rcases mayKinds hm with ⟨hk, hp⟩ | hk | ⟨hk, hn1, hn2⟩
    · simp only [places, hk, if_true] at hn ⊢
      split at hn
      · exact absurd rfl hn
      · rename_i hc
        rw [if_neg hc]
        simp only [firstsTo]
        congr 1
        funext i
        simp [fireAt, hk, h1, h3]
    · simp only [places, hk, h3.symm, if_true, if_false, upto] at hn ⊢
      split at hn
      · exact absurd rfl hn
      · rename_i hc
        rw [if_neg hc]
        have e : (List.range ws.length).filter (fireAt j ws) = (List.range ws.length).filter fun i => decide (i < 1) := by
          congr 1
          funext i
          simp [fireAt, hk, h2, h3.symm]
        rw [e, range_lt]
        congr 1; omega
    · simp only [places, hk, h1.symm, h2.symm, if_true, if_false, upto] at hn ⊢
      split at hn
      · exact absurd rfl hn
      · rename_i hc
        rw [if_neg hc]
        have e : (List.range ws.length).filter (fireAt j ws) = (List.range ws.length).filter fun i => decide (i < j.need.toNat) := by
          congr 1
          funext i
          simp [fireAt, hk, h1.symm, h2.symm]
        rw [e, range_lt]
        congr 1; omega
  · rw [if_neg h, h0, metJ] at *
    simpa using h
def tailN (f : Nat → Bool) (n i : Nat) : List Nat := (List.range' i (n - i)).filter f
theorem tailN_zero (f : Nat → Bool) (n : Nat) : tailN f n 0 = (List.range n).filter f := by rw [tailN, List.range_eq_range']; rfl
theorem tailN_step (f : Nat → Bool) {n i : Nat} (h : i < n) : tailN f n i = (if f i = true then [i] else []) ++ tailN f n (i + 1) := by
  have e : n - i = (n - (i + 1)) + 1 := by omega
  rw [tailN, tailN, e, List.range'_succ, List.filter_cons]
  by_cases hf : f i = true <;> simp [hf]
theorem tailN_ge {f : Nat → Bool} {n i m : Nat} (h : m ∈ tailN f n i) : i ≤ m := by
  simp only [tailN, List.mem_filter, List.mem_range'_1] at h
  exact h.1.1
theorem tailN_len (f : Nat → Bool) (n i : Nat) : (tailN f n i).length ≤ n - i := by
  have := List.length_filter_le f (List.range' i (n - i))
  rw [List.length_range'] at this
  exact this
theorem wf_ns (l : List Nat) : WfL 1 (l.map pN) := by
  intro p hp
  obtain ⟨k, _, rfl⟩ := List.mem_map.1 hp
  exact ⟨rfl, fun c hc => by simp only [PV.cells, List.mem_singleton] at hc; subst hc; rfl⟩
theorem wf_nsc (a : Nat) (l : List Nat) : WfL 1 (pN a :: l.map pN) := wf_ns (a :: l)
theorem places_parts {j : Jn} {l : List Kp} {x : Kp} (hm : mayJ j = true) (hok : okTo j l l.length = true) (hf : fitsK j x = true) : ∀ k ∈ waitsJ j l x, 0 ≤ k.part ∧ k.part < 6 := by
  intro k hk
  simp only [waitsJ, List.mem_append, List.mem_singleton] at hk
  rcases hk with hk | rfl
  · exact fits_part hm (okTo_fits hok k (List.mem_of_mem_drop hk))
  · exact fits_part hm hf
theorem fn19 (j : Jn) (l : List Kp) (x : Kp) (hl : l.length < 100000) : Fn Try.prog 19 [j.pv, ks l, x.pv] (.pv (feedR j l x).pv) [] := by
  refine Run19 [] (by simp) ?_
  simp only [go_sem, Nat.reduceEqDiff, Nat.reduceBEq, Nat.reduceAdd, Nat.reduceMul, Nat.reduceSub, Nat.reduceLeDiff, Nat.reduceLT, reduceIte, reduceCtorEq, Int.reduceToNat, Int.reduceLE, Int.reduceLT, Int.reduceNeg, Bool.not_not, and_self, Bool.and_eq_false_iff, Int.cast_ofNat_Int, M19]
  refine runR_callf (by simp only [go_sem, Nat.reduceEqDiff, Nat.reduceBEq, Nat.reduceAdd, Nat.reduceMul, Nat.reduceSub, Nat.reduceLeDiff, Nat.reduceLT, reduceIte, reduceCtorEq, Int.reduceToNat, Int.reduceLE, Int.reduceLT, Int.reduceNeg, Bool.not_not, and_self, Bool.and_eq_false_iff, Int.cast_ofNat_Int]) (by simp only [go_sem, Nat.reduceEqDiff, Nat.reduceBEq, Nat.reduceAdd, Nat.reduceMul, Nat.reduceSub, Nat.reduceLeDiff, Nat.reduceLT, reduceIte, reduceCtorEq, Int.reduceToNat, Int.reduceLE, Int.reduceLT, Int.reduceNeg, Bool.not_not, and_self, Bool.and_eq_false_iff, Int.cast_ofNat_Int]) (fn24 j l hl) ⟨rfl, trivial⟩ trivial ?_
  simp only [go_sem, Nat.reduceEqDiff, Nat.reduceBEq, Nat.reduceAdd, Nat.reduceMul, Nat.reduceSub, Nat.reduceLeDiff, Nat.reduceLT, reduceIte, reduceCtorEq, Int.reduceToNat, Int.reduceLE, Int.reduceLT, Int.reduceNeg, Bool.not_not, and_self, Bool.and_eq_false_iff, Int.cast_ofNat_Int, checkJ_err, checkJ_err']
  refine runR_callgf (by simp only [go_sem, Nat.reduceEqDiff, Nat.reduceBEq, Nat.reduceAdd, Nat.reduceMul, Nat.reduceSub, Nat.reduceLeDiff, Nat.reduceLT, reduceIte, reduceCtorEq, Int.reduceToNat, Int.reduceLE, Int.reduceLT, Int.reduceNeg, Bool.not_not, and_self, Bool.and_eq_false_iff, Int.cast_ofNat_Int]) (by simp only [go_sem, Nat.reduceEqDiff, Nat.reduceBEq, Nat.reduceAdd, Nat.reduceMul, Nat.reduceSub, Nat.reduceLeDiff, Nat.reduceLT, reduceIte, reduceCtorEq, Int.reduceToNat, Int.reduceLE, Int.reduceLT, Int.reduceNeg, Bool.not_not, and_self, Bool.and_eq_false_iff, Int.cast_ofNat_Int]) (by simp only [go_sem, Nat.reduceEqDiff, Nat.reduceBEq, Nat.reduceAdd, Nat.reduceMul, Nat.reduceSub, Nat.reduceLeDiff, Nat.reduceLT, reduceIte, reduceCtorEq, Int.reduceToNat, Int.reduceLE, Int.reduceLT, Int.reduceNeg, Bool.not_not, and_self, Bool.and_eq_false_iff, Int.cast_ofNat_Int]) (fun _ => fn45 j x) rfl ?_
  simp only [go_sem, Nat.reduceEqDiff, Nat.reduceBEq, Nat.reduceAdd, Nat.reduceMul, Nat.reduceSub, Nat.reduceLeDiff, Nat.reduceLT, reduceIte, reduceCtorEq, Int.reduceToNat, Int.reduceLE, Int.reduceLT, Int.reduceNeg, Bool.not_not, and_self, Bool.and_eq_false_iff, Int.cast_ofNat_Int]
  refine ⟨fun h => ?_, fun ⟨hc, hf⟩ => ?_⟩
  · have : feedR j l x = frErr 1 := by rcases h with h | h <;> simp [feedR, h]
    rw [this]; rfl
  refine runR_callf (by simp only [go_sem, Nat.reduceEqDiff, Nat.reduceBEq, Nat.reduceAdd, Nat.reduceMul, Nat.reduceSub, Nat.reduceLeDiff, Nat.reduceLT, reduceIte, reduceCtorEq, Int.reduceToNat, Int.reduceLE, Int.reduceLT, Int.reduceNeg, Bool.not_not, and_self, Bool.and_eq_false_iff, Int.cast_ofNat_Int]) (by simp only [go_sem, Nat.reduceEqDiff, Nat.reduceBEq, Nat.reduceAdd, Nat.reduceMul, Nat.reduceSub, Nat.reduceLeDiff, Nat.reduceLT, reduceIte, reduceCtorEq, Int.reduceToNat, Int.reduceLE, Int.reduceLT, Int.reduceNeg, Bool.not_not, and_self, Bool.and_eq_false_iff, Int.cast_ofNat_Int]) (fn46 l x.at_ (by omega)) ⟨rfl, trivial⟩ trivial ?_
  simp only [go_sem, Nat.reduceEqDiff, Nat.reduceBEq, Nat.reduceAdd, Nat.reduceMul, Nat.reduceSub, Nat.reduceLeDiff, Nat.reduceLT, reduceIte, reduceCtorEq, Int.reduceToNat, Int.reduceLE, Int.reduceLT, Int.reduceNeg, Bool.not_not, and_self, Bool.and_eq_false_iff, Int.cast_ofNat_Int]
  refine ⟨fun he => ?_, fun he => ?_⟩
  · simp [feedR, hc, hf, he, frErr]
  refine runR_callf (by simp only [go_sem, Nat.reduceEqDiff, Nat.reduceBEq, Nat.reduceAdd, Nat.reduceMul, Nat.reduceSub, Nat.reduceLeDiff, Nat.reduceLT, reduceIte, reduceCtorEq, Int.reduceToNat, Int.reduceLE, Int.reduceLT, Int.reduceNeg, Bool.not_not, and_self, Bool.and_eq_false_iff, Int.cast_ofNat_Int]) (by simp only [go_sem, Nat.reduceEqDiff, Nat.reduceBEq, Nat.reduceAdd, Nat.reduceMul, Nat.reduceSub, Nat.reduceLeDiff, Nat.reduceLT, reduceIte, reduceCtorEq, Int.reduceToNat, Int.reduceLE, Int.reduceLT, Int.reduceNeg, Bool.not_not, and_self, Bool.and_eq_false_iff, Int.cast_ofNat_Int]) (fn47 l x.id hl) ⟨rfl, trivial⟩ trivial ?_
  simp only [go_sem, Nat.reduceEqDiff, Nat.reduceBEq, Nat.reduceAdd, Nat.reduceMul, Nat.reduceSub, Nat.reduceLeDiff, Nat.reduceLT, reduceIte, reduceCtorEq, Int.reduceToNat, Int.reduceLE, Int.reduceLT, Int.reduceNeg, Bool.not_not, and_self, Bool.and_eq_false_iff, Int.cast_ofNat_Int]
  refine ⟨fun hi => ?_, fun hi => ?_⟩
  · have hi' : idIn l x.id = true := hi
    simp [feedR, hc, hf, he, hi', frErr]
  have hi' : idIn l x.id = false := hi
  obtain ⟨c1, c2, c3, c4⟩ := checkJ_parts hc
  have htm : timeB x.at_ = true := by have := (fits_iff j x).1 hf; simp [timeB]; omega
  refine runR_call (by simp only [go_sem, Nat.reduceEqDiff, Nat.reduceBEq, Nat.reduceAdd, Nat.reduceMul, Nat.reduceSub, Nat.reduceLeDiff, Nat.reduceLT, reduceIte, reduceCtorEq, Int.reduceToNat, Int.reduceLE, Int.reduceLT, Int.reduceNeg, Bool.not_not, and_self, Bool.and_eq_false_iff, Int.cast_ofNat_Int]) rfl (fn27 j l x.at_ hl (by simp [expOk, hc, htm, he])) (.inl rfl) trivial ?_
  have hle := nOver_le j x.at_ l
  have hwl := waits_len j l x
  have hw : List.take (l.length - nOver j x.at_ l + 1) (List.take (l.length - nOver j x.at_ l) (List.map Kp.pv (l.drop (nOver j x.at_ l))) ++ [.agg [pI x.part, pU x.id, pI x.at_]]) = (waitsJ j l x).map Kp.pv := by
    rw [List.take_of_length_le (by simp), List.take_of_length_le (by simp)]
    simp [waitsJ]
  simp only [go_sem, Nat.reduceEqDiff, Nat.reduceBEq, Nat.reduceAdd, Nat.reduceMul, Nat.reduceSub, Nat.reduceLeDiff, Nat.reduceLT, reduceIte, reduceCtorEq, Int.reduceToNat, Int.reduceLE, Int.reduceLT, Int.reduceNeg, Bool.not_not, and_self, Bool.and_eq_false_iff, Int.cast_ofNat_Int, wf_one, hw]
  have hparts := places_parts (x := x) c1 c3 hf
  generalize hW : waitsJ j l x = ws at *
  have hfr : feedR j l x = if metJ j ws then ⟨pickK (fun i => !fireAt j ws i) ws ws.length, pickK (fireAt j ws) ws ws.length, l.take (nOver j x.at_ l), 0⟩
      else if 30 ≤ ws.length then frErr 6 else ⟨ws, [], l.take (nOver j x.at_ l), 0⟩ := by
    unfold feedR
    rw [hW]
    simp [hc, hf, he, hi']
  rw [hfr]
  refine ⟨by omega, ?_⟩
  refine runR_call (by simp only [go_sem, Nat.reduceEqDiff, Nat.reduceBEq, Nat.reduceAdd, Nat.reduceMul, Nat.reduceSub, Nat.reduceLeDiff, Nat.reduceLT, reduceIte, reduceCtorEq, Int.reduceToNat, Int.reduceLE, Int.reduceLT, Int.reduceNeg, Bool.not_not, and_self, Bool.and_eq_false_iff, Int.cast_ofNat_Int]) rfl (fn48 j ws (by omega) c1 hparts) (.inl rfl) trivial ?_
  rw [places_met c1]
  by_cases hmet : metJ j ws = true
  · simp only [hmet, if_true]
    have hpos : 0 < ((List.range ws.length).filter (fireAt j ws)).length := by
      have h0 := met_places j ws c1
      have h1 := places_met (ws := ws) c1
      rw [if_pos hmet] at h1
      rw [← h1]
      refine List.length_pos_iff.2 fun hn => (h0.1 hn) ?_
      simpa [metJ] using hmet
    simp only [go_sem, Nat.reduceEqDiff, Nat.reduceBEq, Nat.reduceAdd, Nat.reduceMul, Nat.reduceSub, Nat.reduceLeDiff, Nat.reduceLT, reduceIte, reduceCtorEq, Int.reduceToNat, Int.reduceLE, Int.reduceLT, Int.reduceNeg, Bool.not_not, and_self, Bool.and_eq_false_iff, Int.cast_ofNat_Int, show ¬ ((((List.range ws.length).filter (fireAt j ws)).length : Nat) : Int) = 0 by omega]
    refine run_loop (T := Nat) (fun i => ⟨[(11, .pv (ks (l.take (nOver j x.at_ l)))), (13, .pv (ns (tailN (fireAt j ws) ws.length i))), (14, .row 2014 0 (pickK (fun i => !fireAt j ws i) ws i).length), (15, .row 2015 0 (pickK (fireAt j ws) ws i).length), (63, .pv (ks ws)), (64, .pv (pI ws.length)), (65, .pv (pI i))],
        [(2014, .sl 3 ((pickK (fun i => !fireAt j ws i) ws i).map Kp.pv)), (2015, .sl 3 ((pickK (fireAt j ws) ws i).map Kp.pv))]⟩)
      (fun i => i ≤ ws.length) (fun i => ws.length - i) 0 ?_ (Nat.zero_le _) ?_
    · rw [tailN_zero]; rfl
    intro i hi
    by_cases hlt : i < ws.length
    · have p1 := pick_le (fun i => !fireAt j ws i) ws i
      have p2 := pick_le (fireAt j ws) ws i
      have hst := tailN_step (fireAt j ws) hlt
      have hge : ∀ m ∈ tailN (fireAt j ws) ws.length (i + 1), i + 1 ≤ m := fun m hm => tailN_ge hm
      by_cases hfi : fireAt j ws i = true
      · rw [hst, if_pos hfi]
        generalize hT : tailN (fireAt j ws) ws.length (i + 1) = T at *
        have hTl : T.length ≤ ws.length := by rw [← hT]; have := tailN_len (fireAt j ws) ws.length (i + 1); omega
        simp only [go_sem, Nat.reduceEqDiff, Nat.reduceBEq, Nat.reduceAdd, Nat.reduceMul, Nat.reduceSub, Nat.reduceLeDiff, Nat.reduceLT, reduceIte, reduceCtorEq, Int.reduceToNat, Int.reduceLE, Int.reduceLT, Int.reduceNeg, Bool.not_not, and_self, Bool.and_eq_false_iff, Int.cast_ofNat_Int, B19_0, wf_ks, wf_one, getD_ks hlt, show (i : Int) < (ws.length : Int) by omega, take_len_map, wf_nsc, show (0 : Int) < ((T.length + 1 : Nat) : Int) by omega]
        refine ⟨⟨by omega, by omega⟩, by omega, by omega, i + 1, ?_, hlt, by omega⟩
        rw [hT, pick_succ, pick_succ, hfi]
        simp
      · have hff : fireAt j ws i = false := by simpa using hfi
        rw [if_neg hfi, List.nil_append] at hst
        rw [hst]
        cases hT : tailN (fireAt j ws) ws.length (i + 1) with
        | nil =>
          simp only [go_sem, Nat.reduceEqDiff, Nat.reduceBEq, Nat.reduceAdd, Nat.reduceMul, Nat.reduceSub, Nat.reduceLeDiff, Nat.reduceLT, reduceIte, reduceCtorEq, Int.reduceToNat, Int.reduceLE, Int.reduceLT, Int.reduceNeg, Bool.not_not, and_self, Bool.and_eq_false_iff, Int.cast_ofNat_Int, B19_0, wf_ks, wf_one, getD_ks hlt, show (i : Int) < (ws.length : Int) by omega, take_len_map]
          refine ⟨by omega, by omega, i + 1, ?_, hlt, by omega⟩
          rw [hT, pick_succ, pick_succ, hff]
          simp
        | cons a T =>
          have ha := hge a (by rw [hT]; exact List.mem_cons_self)
          have hTl : T.length ≤ ws.length := by have := tailN_len (fireAt j ws) ws.length (i + 1); rw [hT, List.length_cons] at this; omega
          simp only [go_sem, Nat.reduceEqDiff, Nat.reduceBEq, Nat.reduceAdd, Nat.reduceMul, Nat.reduceSub, Nat.reduceLeDiff, Nat.reduceLT, reduceIte, reduceCtorEq, Int.reduceToNat, Int.reduceLE, Int.reduceLT, Int.reduceNeg, Bool.not_not, and_self, Bool.and_eq_false_iff, Int.cast_ofNat_Int, B19_0, wf_ks, wf_one, getD_ks hlt, show (i : Int) < (ws.length : Int) by omega, take_len_map, wf_nsc, show (0 : Int) < ((T.length + 1 : Nat) : Int) by omega, show ¬ (a : Int) = (i : Int) by omega]
          refine ⟨by omega, by omega, i + 1, ?_, hlt, by omega⟩
          rw [hT, pick_succ, pick_succ, hff]
          simp
    · have e : i = ws.length := by omega
      subst e
      simp only [go_sem, Nat.reduceEqDiff, Nat.reduceBEq, Nat.reduceAdd, Nat.reduceMul, Nat.reduceSub, Nat.reduceLeDiff, Nat.reduceLT, reduceIte, reduceCtorEq, Int.reduceToNat, Int.reduceLE, Int.reduceLT, Int.reduceNeg, Bool.not_not, and_self, Bool.and_eq_false_iff, Int.cast_ofNat_Int, B19_0, show ¬ (ws.length : Int) < (ws.length : Int) by omega]
      simp only [go_sem, Nat.reduceEqDiff, Nat.reduceBEq, Nat.reduceAdd, Nat.reduceMul, Nat.reduceSub, Nat.reduceLeDiff, Nat.reduceLT, reduceIte, reduceCtorEq, Int.reduceToNat, Int.reduceLE, Int.reduceLT, Int.reduceNeg, Bool.not_not, and_self, Bool.and_eq_false_iff, Int.cast_ofNat_Int, R19_0, take_len_map]
  · rw [if_neg hmet, if_neg hmet]
    simp only [go_sem, Nat.reduceEqDiff, Nat.reduceBEq, Nat.reduceAdd, Nat.reduceMul, Nat.reduceSub, Nat.reduceLeDiff, Nat.reduceLT, reduceIte, reduceCtorEq, Int.reduceToNat, Int.reduceLE, Int.reduceLT, Int.reduceNeg, Bool.not_not, and_self, Bool.and_eq_false_iff, Int.cast_ofNat_Int, List.map_nil, List.length_nil]
    refine ⟨fun h => ?_, fun h => ?_⟩
    · rw [if_pos (by omega)]; rfl
    · rw [if_neg (by omega)]; rfl
end Go.Vc
