/- A part of the proofs of the seat Ytcjhccdbgphboaa: the contracts of functions, each proved out of its code. -/
import Derived.Test.YtcjhccdbgphboaaId
import Derived.Test.YtcjhccdbgphboaaProg
import Derived.Test.YtcjhccdbgphboaaVf
import Derived.Test.YtcjhccdbgphboaaJl
namespace Go.Vc
open Go.Proofs
set_option maxRecDepth 100000

/-- 'trystlaw10.InstOne' -/
def B11_0 : MC := (.seq (.seq (.reg [⟨(some 23), none, (.q (.mv (.t 9)))⟩, ⟨(some 24), none, (.q (.mv (.t 1)))⟩, ⟨(some 25), none, (.q (.len (.t 24) false))⟩, ⟨(some 26), none, (.q (.bin .lss (.t 23)
  (.t 25)))⟩, ⟨(some 27), none, (.q (.mv (.t 26)))⟩, ⟨(some 28), (some (27, true)), (.q (.mv (.t 9)))⟩, ⟨(some 29), (some (27, true)), (.q (.bin .lss (.t 28) (.c (.int .i64 30))))⟩, ⟨(some 30), none,
  (.q (.pick (.t 27) (.t 29) (.c (.bool false))))⟩] [] [1, 3, 5, 7, 8, 9, 30] [3, 5, 1020, 1022, 1045, 1054]) (.cond (.t 30) .skip (.exit 0))) (.seq (.block 1 (.seq (.reg [⟨(some 33), none,
  (.q (.mv (.t 1)))⟩, ⟨(some 34), none, (.q (.mv (.t 9)))⟩, ⟨(some 35), none, (.q (.ia (.t 33) (.t 34) 3))⟩, ⟨(some 36), none, (.q (.ld (.t 35) 3 true))⟩, ⟨(some 10), none,
  (.alloc [(.pv (.sc (.int .i64 0))), (.pv (.sc (.int .u64 0))), (.pv (.sc (.int .i64 0)))])⟩, ⟨none, none, (.st (.t 10) (.t 36) 3)⟩] [] [1, 3, 5, 7, 8, 9, 10] [3, 5, 10, 1020, 1022, 1045, 1054])
  (.seq (.reg [⟨(some 37), none, (.q (.mv (.t 9)))⟩, ⟨(some 38), none, (.q (.conv .u64 (.t 37)))⟩, ⟨(some 39), none, (.q (.fa (.t 10) 1))⟩, ⟨none, none, (.st (.t 39) (.t 38) 1)⟩] [] [1, 3, 5, 7, 8, 9,
  10] [3, 5, 10, 1020, 1022, 1045, 1054]) (.seq (.reg [⟨(some 41), none, (.q (.ld (.t 3) 4 true))⟩, ⟨(some 42), none, (.q (.mv (.t 7)))⟩, ⟨(some 43), none, (.q (.ld (.t 5) 3 true))⟩, ⟨(some 44), none,
  (.q (.ld (.t 10) 3 true))⟩, ⟨(some 45), none, (.call (.f 30) [(.t 41), (.t 42), (.t 43), (.t 44)])⟩, ⟨(some 40), none, (.q (.mv (.t 45)))⟩, ⟨(some 46), none, (.q (.ext (.t 40) 0))⟩, ⟨(some 47),
  none, (.q (.ext (.t 40) 1))⟩, ⟨(some 48), none, (.q (.ext (.t 40) 2))⟩, ⟨(some 49), none, (.q (.ext (.t 40) 3))⟩, ⟨(some 11), none, (.q (.mv (.t 46)))⟩, ⟨(some 12), none, (.q (.mv (.t 47)))⟩,
  ⟨(some 13), none, (.q (.mv (.t 48)))⟩, ⟨(some 14), none, (.q (.mv (.t 49)))⟩] [] [1, 3, 5, 7, 8, 9, 10, 11, 12, 13, 14] [3, 5, 10, 1020, 1022, 1045, 1054]) (.seq (.reg [⟨(some 51), none,
  (.q (.ld (.t 3) 4 true))⟩, ⟨(some 52), none, (.q (.mv (.t 8)))⟩, ⟨(some 53), none, (.q (.ld (.t 10) 3 true))⟩, ⟨(some 54), none, (.call (.f 19) [(.t 51), (.t 52), (.t 53)])⟩, ⟨(some 50), none,
  (.q (.mv (.t 54)))⟩, ⟨(some 55), none, (.q (.ext (.t 50) 0))⟩, ⟨(some 56), none, (.q (.ext (.t 50) 1))⟩, ⟨(some 57), none, (.q (.ext (.t 50) 2))⟩, ⟨(some 58), none, (.q (.ext (.t 50) 3))⟩,
  ⟨(some 15), none, (.q (.mv (.t 55)))⟩, ⟨(some 16), none, (.q (.mv (.t 56)))⟩, ⟨(some 17), none, (.q (.mv (.t 57)))⟩, ⟨(some 18), none, (.q (.mv (.t 58)))⟩] [] [1, 3, 5, 7, 8, 9, 11, 12, 13, 14, 15,
  16, 17, 18] [3, 5, 1020, 1022, 1045, 1054]) (.seq (.seq (.reg [⟨(some 59), none, (.q (.mv (.t 14)))⟩, ⟨(some 60), none, (.q (.bin .neq (.t 59) (.c (.int .i64 0))))⟩] [] [1, 3, 5, 7, 8, 9, 11, 12,
  13, 15, 16, 17, 18, 60] [3, 5, 1020, 1022, 1045, 1054]) (.cond (.t 60) (.seq (.seq (.reg [⟨(some 61), none, (.q (.mv (.t 18)))⟩, ⟨(some 62), none, (.q (.bin .eql (.t 61) (.c (.int .i64 0))))⟩,
  ⟨(some 63), none, (.q (.mv (.t 62)))⟩, ⟨(some 64), (some (63, true)), (.q (.ld (.t 5) 3 true))⟩, ⟨(some 65), (some (63, true)), (.call (.f 31) [(.t 64)])⟩, ⟨(some 66), none, (.q (.pick (.t 63)
  (.t 65) (.c (.bool false))))⟩] [] [1, 3, 5, 7, 8, 9, 66] [3, 5, 1020, 1022, 1045, 1054, 1065]) (.cond (.t 66) (.seq (.reg [⟨(some 6), none, (.q (.mv (.c (.bool false))))⟩] [] [6] [1090]) .ret)
  .skip)) (.exit 1)) .skip)) (.seq (.seq (.reg [⟨(some 67), none, (.q (.mv (.t 18)))⟩, ⟨(some 68), none, (.q (.bin .neq (.t 67) (.c (.int .i64 0))))⟩, ⟨(some 69), none, (.q (.mv (.t 68)))⟩,
  ⟨(some 70), (some (69, false)), (.q (.mv (.t 12)))⟩, ⟨(some 71), (some (69, false)), (.q (.mv (.t 16)))⟩, ⟨(some 72), (some (69, false)), (.call (.f 21) [(.t 70), (.t 71)])⟩, ⟨(some 73), (some (69,
  false)), (.q (.not (.t 72)))⟩, ⟨(some 74), none, (.q (.pick (.t 69) (.c (.bool true)) (.t 73)))⟩, ⟨(some 75), none, (.q (.mv (.t 74)))⟩, ⟨(some 76), (some (75, false)), (.q (.mv (.t 13)))⟩,
  ⟨(some 77), (some (75, false)), (.q (.mv (.t 17)))⟩, ⟨(some 78), (some (75, false)), (.call (.f 21) [(.t 76), (.t 77)])⟩, ⟨(some 79), (some (75, false)), (.q (.not (.t 78)))⟩, ⟨(some 80), none,
  (.q (.pick (.t 75) (.c (.bool true)) (.t 79)))⟩, ⟨(some 81), none, (.q (.mv (.t 80)))⟩, ⟨(some 82), (some (81, false)), (.q (.mv (.t 11)))⟩, ⟨(some 83), (some (81, false)), (.call (.f 32)
  [(.t 82)])⟩, ⟨(some 84), (some (81, false)), (.q (.mv (.t 15)))⟩, ⟨(some 85), (some (81, false)), (.call (.f 21) [(.t 83), (.t 84)])⟩, ⟨(some 86), (some (81, false)), (.q (.not (.t 85)))⟩,
  ⟨(some 87), none, (.q (.pick (.t 81) (.c (.bool true)) (.t 86)))⟩] [] [1, 3, 5, 9, 11, 15, 87] [3, 5, 1020, 1022, 1045, 1054, 1072, 1078, 1085]) (.cond (.t 87) (.seq (.reg [⟨(some 6), none,
  (.q (.mv (.c (.bool false))))⟩] [] [6] [1090]) .ret) .skip)) (.reg [⟨(some 88), none, (.q (.mv (.t 11)))⟩, ⟨(some 89), none, (.q (.mv (.t 15)))⟩, ⟨(some 7), none, (.q (.mv (.t 88)))⟩, ⟨(some 8),
  none, (.q (.mv (.t 89)))⟩] [] [1, 3, 5, 7, 8, 9] [3, 5, 1020, 1022, 1045, 1054])))))))) (.reg [⟨(some 31), none, (.q (.mv (.t 9)))⟩, ⟨(some 32), none, (.q (.bin .add (.t 31) (.c (.int .i64 1))))⟩,
  ⟨(some 9), none, (.q (.mv (.t 32)))⟩] [] [1, 3, 5, 7, 8, 9] [3, 5, 1020, 1022, 1045, 1054])))
def R11_0 : MC := (.seq (.reg [⟨(some 90), none, (.call (.f 33) [])⟩, ⟨(some 6), none, (.q (.mv (.t 90)))⟩] [] [6] [1090]) .ret)
def M11 : MC := (.seq (.reg [⟨(some 3), none, (.box (.t 0))⟩, ⟨(some 5), none, (.box (.t 2))⟩, ⟨(some 6), none, (.q (.mv (.c (.bool false))))⟩] [] [1, 3, 5] [3, 5, 1020, 1022])
  (.seq (.reg [⟨(some 19), none, (.q (.ld (.t 3) 4 true))⟩, ⟨(some 21), none, (.q (.ld (.t 5) 3 true))⟩, ⟨(some 20), none, (.call (.f 17) [(.t 19)])⟩, ⟨(some 22), none, (.call (.f 29) [(.t 21)])⟩,
  ⟨none, none, (.st (.t 3) (.t 20) 4)⟩, ⟨none, none, (.st (.t 5) (.t 22) 3)⟩] [] [1, 3, 5] [3, 5, 1020, 1022]) (.seq (.reg [⟨(some 7), none, (.q (.mv .nil))⟩] [(7, 8, 0)] [1, 3, 5, 7] [3, 5, 1020,
  1022, 1045]) (.seq (.reg [⟨(some 8), none, (.q (.mv .nil))⟩] [(8, 9, 0)] [1, 3, 5, 7, 8] [3, 5, 1020, 1022, 1045, 1054]) (.seq (.seq (.reg [⟨(some 9), none, (.q (.mv (.c (.int .i64 0))))⟩] [] [1, 3,
  5, 7, 8, 9] [3, 5, 1020, 1022, 1045, 1054]) (.block 0 (.loop B11_0))) R11_0)))))
theorem mc11 : ofCode Try.prog [] Try.f11.ntmps [(0, ⟨[1, 3, 5], [3, 5, 1020, 1022], [], 0, [], none⟩),
    (1, ⟨[1, 3, 5], [3, 5, 1020, 1022], [(0, 59), (2, 60), (1, 0), (3, 0), (4, 0), (5, 0)], 15, [], none⟩),
    (2, ⟨[1, 3, 5, 7], [3, 5, 1020, 1022, 1045], [], 0, [(7, 8, 0)], none⟩),
    (3, ⟨[1, 3, 5, 7, 8], [3, 5, 1020, 1022, 1045, 1054], [], 0, [(8, 9, 0)], none⟩),
    (4, ⟨[1, 3, 5, 7, 8, 9], [3, 5, 1020, 1022, 1045, 1054], [], 0, [], none⟩),
    (5, ⟨[1, 3, 5, 7, 8, 9, 30], [3, 5, 1020, 1022, 1045, 1054], [], 0, [], none⟩),
    (6, ⟨[1, 3, 5, 7, 8, 9], [3, 5, 1020, 1022, 1045, 1054], [], 0, [], none⟩),
    (7, ⟨[1, 3, 5, 7, 8, 9, 10], [3, 5, 10, 1020, 1022, 1045, 1054], [], 0, [], none⟩),
    (8, ⟨[1, 3, 5, 7, 8, 9, 10], [3, 5, 10, 1020, 1022, 1045, 1054], [], 0, [], none⟩),
    (9, ⟨[1, 3, 5, 7, 8, 9, 10, 11, 12, 13, 14], [3, 5, 10, 1020, 1022, 1045, 1054], [], 0, [], none⟩),
    (10, ⟨[1, 3, 5, 7, 8, 9, 11, 12, 13, 14, 15, 16, 17, 18], [3, 5, 1020, 1022, 1045, 1054], [], 0, [], none⟩),
    (11, ⟨[1, 3, 5, 7, 8, 9, 11, 12, 13, 15, 16, 17, 18, 60], [3, 5, 1020, 1022, 1045, 1054], [], 0, [], none⟩),
    (12, ⟨[1, 3, 5, 7, 8, 9, 66], [3, 5, 1020, 1022, 1045, 1054, 1065], [], 0, [], none⟩),
    (13, ⟨[6], [1090], [], 0, [], none⟩),
    (14, ⟨[1, 3, 5, 9, 11, 15, 87], [3, 5, 1020, 1022, 1045, 1054, 1072, 1078, 1085], [], 0, [], none⟩),
    (15, ⟨[6], [1090], [], 0, [], none⟩),
    (16, ⟨[1, 3, 5, 7, 8, 9], [3, 5, 1020, 1022, 1045, 1054], [], 0, [], none⟩),
    (17, ⟨[6], [1090], [], 0, [], none⟩)] (Try.f11.body.getD .skip) = some M11 := by kernel_rfl
theorem Run11 {args : List PV} {v : AV} {rs : List (Nat × List PV)} (ids : List Bool) (h : args.length ≤ 91) (hv : run Try.prog (retK [RV.tmp 6] ids v rs) M11 [] ⟨entry 0 args, []⟩) : Fn Try.prog 11 args v rs :=
  Fn_run ids (by kernel_rfl) Try.func11 (by decide) rfl mc11 (by kernel_rfl) (by rw [Try.ntmps11]; exact h) (by rw [Try.ntmps11]; decide) hv

/-- 'trystlaw10.InstStays' -/
def B14_1 : MC := (.seq (.seq (.reg [⟨(some 83), none, (.q (.mv (.t 17)))⟩, ⟨(some 84), none, (.q (.mv (.t 7)))⟩, ⟨(some 85), none, (.q (.len (.t 84) false))⟩, ⟨(some 86), none, (.q (.bin .lss (.t 83)
  (.t 85)))⟩] [] [1, 2, 3, 7, 8, 9, 10, 11, 13, 17, 86] [3, 11, 1020, 1031, 1042, 1055]) (.cond (.t 86) .skip (.exit 2))) (.seq (.block 3 (.seq (.reg [⟨(some 89), none, (.q (.mv (.t 13)))⟩,
  ⟨(some 90), none, (.q (.mv (.t 7)))⟩, ⟨(some 91), none, (.q (.mv (.t 17)))⟩, ⟨(some 92), none, (.q (.ia (.t 90) (.t 91) 4))⟩, ⟨(some 93), none, (.q (.fa (.t 92) 0))⟩, ⟨(some 94), none,
  (.q (.ld (.t 93) 3 true))⟩, ⟨(some 95), none, (.call (.f 40) [(.t 89), (.t 94)])⟩, ⟨(some 18), none, (.q (.mv (.t 95)))⟩] [] [1, 2, 3, 7, 8, 9, 10, 11, 13, 17, 18] [3, 11, 1020, 1031, 1042, 1055,
  1095]) (.seq (.reg [⟨(some 96), none, (.q (.mv (.t 7)))⟩, ⟨(some 97), none, (.q (.mv (.t 17)))⟩, ⟨(some 98), none, (.q (.ia (.t 96) (.t 97) 4))⟩, ⟨(some 99), none, (.q (.fa (.t 98) 0))⟩,
  ⟨(some 100), none, (.q (.ld (.t 99) 3 true))⟩, ⟨(some 101), none, (.q (.ld (.t 11) 3 true))⟩, ⟨(some 102), none, (.q (.seq true [2, 0, 1] (.t 100) (.t 101)))⟩, ⟨(some 103), none,
  (.q (.mv (.t 102)))⟩, ⟨(some 104), (some (103, true)), (.q (.mv (.t 18)))⟩, ⟨(some 105), (some (103, true)), (.q (.bin .lss (.t 104) (.c (.int .i64 0))))⟩, ⟨(some 106), (some (103, true)),
  (.q (.mv (.t 105)))⟩, ⟨(some 107), (some (106, false)), (.q (.mv (.t 13)))⟩, ⟨(some 108), (some (106, false)), (.q (.mv (.t 18)))⟩, ⟨(some 109), (some (106, false)), (.q (.ia (.t 107) (.t 108) 4))⟩,
  ⟨(some 110), (some (106, false)), (.q (.fa (.t 109) 3))⟩, ⟨(some 111), (some (106, false)), (.q (.ld (.t 110) 1 false))⟩, ⟨(some 112), (some (106, false)), (.q (.mv (.t 7)))⟩, ⟨(some 113),
  (some (106, false)), (.q (.mv (.t 17)))⟩, ⟨(some 114), (some (106, false)), (.q (.ia (.t 112) (.t 113) 4))⟩, ⟨(some 115), (some (106, false)), (.q (.fa (.t 114) 3))⟩, ⟨(some 116), (some (106,
  false)), (.q (.ld (.t 115) 1 false))⟩, ⟨(some 117), (some (106, false)), (.call (.f 21) [(.t 111), (.t 116)])⟩, ⟨(some 118), (some (106, false)), (.q (.not (.t 117)))⟩, ⟨(some 119), (some (103,
  true)), (.q (.pick (.t 106) (.c (.bool true)) (.t 118)))⟩, ⟨(some 120), none, (.q (.pick (.t 103) (.t 119) (.c (.bool false))))⟩] [] [1, 2, 3, 7, 8, 9, 10, 11, 13, 17, 120] [3, 11, 1020, 1031, 1042,
  1055, 1095, 1117]) (.cond (.t 120) (.seq (.reg [⟨(some 6), none, (.q (.mv (.c (.bool false))))⟩] [] [6] [1122]) .ret) .skip)))) (.reg [⟨(some 87), none, (.q (.mv (.t 17)))⟩, ⟨(some 88), none,
  (.q (.bin .add (.t 87) (.c (.int .i64 1))))⟩, ⟨(some 17), none, (.q (.mv (.t 88)))⟩] [] [1, 2, 3, 7, 8, 9, 10, 11, 13, 17] [3, 11, 1020, 1031, 1042, 1055])))
def R14_1 : MC := (.reg [⟨(some 121), none, (.q (.mv (.t 13)))⟩, ⟨(some 7), none, (.q (.mv (.t 121)))⟩] [] [1, 2, 3, 7, 8, 9, 10] [3, 1020, 1055])
def B14_0 : MC := (.seq (.seq (.reg [⟨(some 21), none, (.q (.mv (.t 10)))⟩, ⟨(some 22), none, (.q (.mv (.t 1)))⟩, ⟨(some 23), none, (.q (.len (.t 22) false))⟩, ⟨(some 24), none, (.q (.bin .lss (.t 21)
  (.t 23)))⟩, ⟨(some 25), none, (.q (.mv (.t 24)))⟩, ⟨(some 26), (some (25, true)), (.q (.mv (.t 10)))⟩, ⟨(some 27), (some (25, true)), (.q (.bin .lss (.t 26) (.c (.int .i64 40))))⟩, ⟨(some 28), none,
  (.q (.pick (.t 25) (.t 27) (.c (.bool false))))⟩] [] [1, 2, 3, 7, 8, 9, 10, 28] [3, 1020, 1055]) (.cond (.t 28) .skip (.exit 0))) (.seq (.block 1 (.seq (.reg [⟨(some 31), none, (.call (.f 42)
  [(.c (.int .i64 0))])⟩, ⟨(some 11), none, (.alloc [(.pv (.sc (.bool false))), (.pv (.sc (.int .i64 0))), (.pv (.sc (.string ⟨#[]⟩)))])⟩, ⟨none, none, (.st (.t 11) (.t 31) 3)⟩] [] [1, 2, 3, 7, 8, 9,
  10, 11] [3, 11, 1020, 1031, 1042, 1055]) (.seq (.seq (.reg [⟨(some 32), none, (.q (.mv (.t 10)))⟩, ⟨(some 33), none, (.q (.mv (.t 2)))⟩, ⟨(some 34), none, (.q (.len (.t 33) false))⟩, ⟨(some 35),
  none, (.q (.bin .lss (.t 32) (.t 34)))⟩] [] [1, 2, 3, 7, 8, 9, 10, 11, 35] [3, 11, 1020, 1031, 1042, 1055]) (.cond (.t 35) (.reg [⟨(some 36), none, (.q (.mv (.t 2)))⟩, ⟨(some 37), none,
  (.q (.mv (.t 10)))⟩, ⟨(some 38), none, (.q (.ia (.t 36) (.t 37) 1))⟩, ⟨(some 39), none, (.q (.ld (.t 38) 1 false))⟩, ⟨(some 40), none, (.q (.bin .rem (.t 39) (.c (.int .u8 5))))⟩, ⟨(some 41), none,
  (.q (.conv .i64 (.t 40)))⟩, ⟨(some 42), none, (.call (.f 42) [(.t 41)])⟩, ⟨none, none, (.st (.t 11) (.t 42) 3)⟩] [] [1, 2, 3, 7, 8, 9, 10, 11] [3, 11, 1020, 1031, 1042, 1055]) .skip))
  (.seq (.reg [⟨(some 43), none, (.q (.mv (.t 1)))⟩, ⟨(some 44), none, (.q (.mv (.t 10)))⟩, ⟨(some 45), none, (.q (.ia (.t 43) (.t 44) 3))⟩, ⟨(some 46), none, (.q (.ld (.t 45) 3 true))⟩, ⟨(some 12),
  none, (.alloc [(.pv (.sc (.int .i64 0))), (.pv (.sc (.int .u64 0))), (.pv (.sc (.int .i64 0)))])⟩, ⟨none, none, (.st (.t 12) (.t 46) 3)⟩] [] [1, 2, 3, 7, 8, 9, 10, 11, 12] [3, 11, 12, 1020, 1031,
  1042, 1055]) (.seq (.reg [⟨(some 47), none, (.q (.mv (.t 10)))⟩, ⟨(some 48), none, (.q (.conv .u64 (.t 47)))⟩, ⟨(some 49), none, (.q (.fa (.t 12) 1))⟩, ⟨none, none, (.st (.t 49) (.t 48) 1)⟩] [] [1,
  2, 3, 7, 8, 9, 10, 11, 12] [3, 11, 12, 1020, 1031, 1042, 1055]) (.seq (.reg [⟨(some 51), none, (.q (.ld (.t 3) 4 true))⟩, ⟨(some 52), none, (.q (.mv (.t 7)))⟩, ⟨(some 53), none, (.q (.ld (.t 11)
  3 true))⟩, ⟨(some 54), none, (.q (.ld (.t 12) 3 true))⟩, ⟨(some 55), none, (.call (.f 30) [(.t 51), (.t 52), (.t 53), (.t 54)])⟩, ⟨(some 50), none, (.q (.mv (.t 55)))⟩, ⟨(some 56), none,
  (.q (.ext (.t 50) 0))⟩, ⟨(some 57), none, (.q (.ext (.t 50) 1))⟩, ⟨(some 58), none, (.q (.ext (.t 50) 2))⟩, ⟨(some 59), none, (.q (.ext (.t 50) 3))⟩, ⟨(some 13), none, (.q (.mv (.t 56)))⟩,
  ⟨(some 14), none, (.q (.mv (.t 57)))⟩, ⟨(some 15), none, (.q (.mv (.t 58)))⟩, ⟨(some 16), none, (.q (.mv (.t 59)))⟩] [] [1, 2, 3, 7, 8, 9, 10, 11, 13, 14, 15, 16] [3, 11, 1020, 1031, 1042, 1055])
  (.seq (.seq (.reg [⟨(some 60), none, (.q (.mv (.t 16)))⟩, ⟨(some 61), none, (.q (.bin .neq (.t 60) (.c (.int .i64 0))))⟩] [] [1, 2, 3, 7, 8, 9, 10, 11, 13, 14, 15, 61] [3, 11, 1020, 1031, 1042,
  1055]) (.cond (.t 61) (.exit 1) .skip)) (.seq (.reg [⟨(some 62), none, (.q (.mv (.t 8)))⟩, ⟨(some 63), none, (.q (.bin .add (.t 62) (.c (.int .i64 1))))⟩, ⟨(some 8), none,
  (.q (.mv (.t 63)))⟩] [] [1, 2, 3, 7, 8, 9, 10, 11, 13, 14, 15] [3, 11, 1020, 1031, 1042, 1055]) (.seq (.reg [⟨(some 64), none, (.q (.mv (.t 9)))⟩, ⟨(some 65), none, (.q (.mv (.t 14)))⟩, ⟨(some 66),
  none, (.q (.len (.t 65) false))⟩, ⟨(some 67), none, (.q (.mv (.t 15)))⟩, ⟨(some 68), none, (.q (.len (.t 67) false))⟩, ⟨(some 69), none, (.q (.bin .add (.t 66) (.t 68)))⟩, ⟨(some 70), none,
  (.q (.bin .add (.t 64) (.t 69)))⟩, ⟨(some 9), none, (.q (.mv (.t 70)))⟩] [] [1, 2, 3, 7, 8, 9, 10, 11, 13] [3, 11, 1020, 1031, 1042, 1055]) (.seq (.seq (.reg [⟨(some 71), none, (.q (.ld (.t 3)
  4 true))⟩, ⟨(some 72), none, (.q (.mv (.t 13)))⟩, ⟨(some 73), none, (.call (.f 37) [(.t 71), (.t 72)])⟩, ⟨(some 74), none, (.q (.bin .neq (.t 73) (.c (.int .i64 0))))⟩, ⟨(some 75), none,
  (.q (.mv (.t 74)))⟩, ⟨(some 76), (some (75, false)), (.q (.mv (.t 13)))⟩, ⟨(some 77), (some (75, false)), (.call (.f 41) [(.t 76)])⟩, ⟨(some 78), (some (75, false)), (.q (.mv (.t 8)))⟩, ⟨(some 79),
  (some (75, false)), (.q (.mv (.t 9)))⟩, ⟨(some 80), (some (75, false)), (.q (.bin .sub (.t 78) (.t 79)))⟩, ⟨(some 81), (some (75, false)), (.q (.bin .neq (.t 77) (.t 80)))⟩, ⟨(some 82), none,
  (.q (.pick (.t 75) (.c (.bool true)) (.t 81)))⟩] [] [1, 2, 3, 7, 8, 9, 10, 11, 13, 82] [3, 11, 1020, 1031, 1042, 1055, 1073, 1077]) (.cond (.t 82) (.seq (.reg [⟨(some 6), none,
  (.q (.mv (.c (.bool false))))⟩] [] [6] [1122]) .ret) .skip)) (.seq (.seq (.reg [⟨(some 17), none, (.q (.mv (.c (.int .i64 0))))⟩] [] [1, 2, 3, 7, 8, 9, 10, 11, 13, 17] [3, 11, 1020, 1031, 1042,
  1055]) (.block 2 (.loop B14_1))) R14_1))))))))))) (.reg [⟨(some 29), none, (.q (.mv (.t 10)))⟩, ⟨(some 30), none, (.q (.bin .add (.t 29) (.c (.int .i64 1))))⟩, ⟨(some 10), none,
  (.q (.mv (.t 30)))⟩] [] [1, 2, 3, 7, 8, 9, 10] [3, 1020, 1055])))
def R14_0 : MC := (.seq (.reg [⟨(some 122), none, (.call (.f 33) [])⟩, ⟨(some 6), none, (.q (.mv (.t 122)))⟩] [] [6] [1122]) .ret)
def M14 : MC := (.seq (.reg [⟨(some 3), none, (.box (.t 0))⟩, ⟨(some 6), none, (.q (.mv (.c (.bool false))))⟩] [] [1, 2, 3] [3, 1020]) (.seq (.reg [⟨(some 19), none, (.q (.ld (.t 3) 4 true))⟩,
  ⟨(some 20), none, (.call (.f 17) [(.t 19)])⟩, ⟨none, none, (.st (.t 3) (.t 20) 4)⟩] [] [1, 2, 3] [3, 1020]) (.seq (.reg [⟨(some 7), none, (.q (.mv .nil))⟩] [(7, 8, 0)] [1, 2, 3, 7] [3, 1020, 1055])
  (.seq (.reg [⟨(some 8), none, (.q (.mv (.c (.int .i64 0))))⟩, ⟨(some 9), none, (.q (.mv (.c (.int .i64 0))))⟩] [] [1, 2, 3, 7, 8, 9] [3, 1020, 1055]) (.seq (.seq (.reg [⟨(some 10), none,
  (.q (.mv (.c (.int .i64 0))))⟩] [] [1, 2, 3, 7, 8, 9, 10] [3, 1020, 1055]) (.block 0 (.loop B14_0))) R14_0)))))
theorem mc14 : ofCode Try.prog [] Try.f14.ntmps [(0, ⟨[1, 2, 3], [3, 1020], [], 0, [], none⟩),
    (1, ⟨[1, 2, 3], [3, 1020], [], 0, [], none⟩),
    (2, ⟨[1, 2, 3, 7], [3, 1020, 1055], [], 0, [(7, 8, 0)], none⟩),
    (3, ⟨[1, 2, 3, 7, 8, 9], [3, 1020, 1055], [], 0, [], none⟩),
    (4, ⟨[1, 2, 3, 7, 8, 9, 10], [3, 1020, 1055], [], 0, [], none⟩),
    (5, ⟨[1, 2, 3, 7, 8, 9, 10, 28], [3, 1020, 1055], [], 0, [], none⟩),
    (6, ⟨[1, 2, 3, 7, 8, 9, 10], [3, 1020, 1055], [], 0, [], none⟩),
    (7, ⟨[1, 2, 3, 7, 8, 9, 10, 11], [3, 11, 1020, 1031, 1042, 1055], [], 0, [], none⟩),
    (8, ⟨[1, 2, 3, 7, 8, 9, 10, 11, 35], [3, 11, 1020, 1031, 1042, 1055], [], 0, [], none⟩),
    (9, ⟨[1, 2, 3, 7, 8, 9, 10, 11], [3, 11, 1020, 1031, 1042, 1055], [], 0, [], none⟩),
    (10, ⟨[1, 2, 3, 7, 8, 9, 10, 11, 12], [3, 11, 12, 1020, 1031, 1042, 1055], [], 0, [], none⟩),
    (11, ⟨[1, 2, 3, 7, 8, 9, 10, 11, 12], [3, 11, 12, 1020, 1031, 1042, 1055], [], 0, [], none⟩),
    (12, ⟨[1, 2, 3, 7, 8, 9, 10, 11, 13, 14, 15, 16], [3, 11, 1020, 1031, 1042, 1055], [], 0, [], none⟩),
    (13, ⟨[1, 2, 3, 7, 8, 9, 10, 11, 13, 14, 15, 61], [3, 11, 1020, 1031, 1042, 1055], [], 0, [], none⟩),
    (14, ⟨[1, 2, 3, 7, 8, 9, 10, 11, 13, 14, 15], [3, 11, 1020, 1031, 1042, 1055], [], 0, [], none⟩),
    (15, ⟨[1, 2, 3, 7, 8, 9, 10, 11, 13], [3, 11, 1020, 1031, 1042, 1055], [], 0, [], none⟩),
    (16, ⟨[1, 2, 3, 7, 8, 9, 10, 11, 13, 82], [3, 11, 1020, 1031, 1042, 1055, 1073, 1077], [], 0, [], none⟩),
    (17, ⟨[6], [1122], [], 0, [], none⟩),
    (18, ⟨[1, 2, 3, 7, 8, 9, 10, 11, 13, 17], [3, 11, 1020, 1031, 1042, 1055], [], 0, [], none⟩),
    (19, ⟨[1, 2, 3, 7, 8, 9, 10, 11, 13, 17, 86], [3, 11, 1020, 1031, 1042, 1055], [], 0, [], none⟩),
    (20, ⟨[1, 2, 3, 7, 8, 9, 10, 11, 13, 17], [3, 11, 1020, 1031, 1042, 1055], [], 0, [], none⟩),
    (21, ⟨[1, 2, 3, 7, 8, 9, 10, 11, 13, 17, 18], [3, 11, 1020, 1031, 1042, 1055, 1095], [], 0, [], none⟩),
    (22, ⟨[1, 2, 3, 7, 8, 9, 10, 11, 13, 17, 120], [3, 11, 1020, 1031, 1042, 1055, 1095, 1117], [(0, 33554397), (1, 33554398), (2, 33554396), (3, 33554392), (4, 33554384), (5, 33554400), (6, 33554368), (7, 33554304), (8, 33554176), (9, 33553920), (10, 33553408), (11, 31516672), (12, 31518720), (13, 31514624), (14, 31506432), (15, 31490048), (16, 33357824), (17, 33423360), (18, 33292288), (19, 33030144), (20, 32505856), (21, 0), (22, 29360128), (23, 25165824), (24, 16777216)], 33554431, [], none⟩),
    (23, ⟨[6], [1122], [], 0, [], none⟩),
    (24, ⟨[1, 2, 3, 7, 8, 9, 10], [3, 1020, 1055], [], 0, [], none⟩),
    (25, ⟨[6], [1122], [], 0, [], none⟩)] (Try.f14.body.getD .skip) = some M14 := by kernel_rfl
theorem Run14 {args : List PV} {v : AV} {rs : List (Nat × List PV)} (ids : List Bool) (h : args.length ≤ 123) (hv : run Try.prog (retK [RV.tmp 6] ids v rs) M14 [] ⟨entry 0 args, []⟩) : Fn Try.prog 14 args v rs :=
  Fn_run ids (by kernel_rfl) Try.func14 (by decide) rfl mc14 (by kernel_rfl) (by rw [Try.ntmps14]; exact h) (by rw [Try.ntmps14]; decide) hv

end Go.Vc

namespace Go.Vc
open Go.Proofs
set_option linter.unusedSimpArgs false
set_option linter.unusedVariables false

/-! an order of keys -/
theorem bl_irrefl : ∀ x : List UInt8, Op.bytesLess x x = false
  | [] => rfl
  | a :: x => by simp [Op.bytesLess, bl_irrefl x]
theorem ordV_self (a : Vl) : ordV a a = 0 := by
  have h := cmpB_eq a.s a.s
  unfold ordV
  rw [h]
  cases a.num <;> simp [cmpI, bl_irrefl]
theorem cmpI_zero {a b : Int} : cmpI a b = 0 ↔ a = b := by
  unfold cmpI
  constructor
  · intro h; repeat' split at h
    all_goals omega
  · intro h; subst h; simp
theorem cmpB_zero {a b : ByteArray} (h : cmpB a b = 0) : a = b := by
  rw [cmpB_eq] at h
  repeat' split at h
  all_goals first | assumption | omega
theorem ordV_zero {a b : Vl} (ha : mayV a = true) (hb : mayV b = true) (h : ordV a b = 0) : a = b := by
  obtain ⟨an, ai, at_⟩ := a
  obtain ⟨bn, bi, bt_⟩ := b
  cases an <;> cases bn <;> simp [mayV, ordV] at ha hb h
  · have := cmpB_zero h
    simp [this, ha.1, hb.1]
  · have := cmpI_zero.1 h
    simp [this, ha, hb]
theorem bl_asymm : ∀ {x y : List UInt8}, Op.bytesLess x y = true → Op.bytesLess y x = false
  | _, [], h => by simp [Op.bytesLess] at h
  | [], _ :: _, _ => rfl
  | a :: x, b :: y, h => by
    simp only [Op.bytesLess, Bool.or_eq_true, decide_eq_true_eq, Bool.and_eq_true, beq_iff_eq] at h
    simp only [Op.bytesLess, Bool.or_eq_false_iff, decide_eq_false_iff_not, Bool.and_eq_false_iff]
    rcases h with h | ⟨h1, h2⟩
    · refine ⟨fun h' => ?_, .inl ?_⟩
      · have g1 : a.toNat < b.toNat := h
        have g2 : b.toNat < a.toNat := h'
        omega
      · rw [beq_eq_false_iff_ne]
        intro e; subst e
        have g1 : b.toNat < b.toNat := h
        omega
    · subst h1
      refine ⟨fun h' => ?_, .inr (bl_asymm h2)⟩
      have g1 : a.toNat < a.toNat := h'
      omega
theorem bl_total : ∀ {x y : List UInt8}, Op.bytesLess x y = false → x ≠ y → Op.bytesLess y x = true
  | [], [], _, h => absurd rfl h
  | _ :: _, [], _, _ => rfl
  | [], _ :: _, h, _ => by simp [Op.bytesLess] at h
  | a :: x, b :: y, h, hn => by
    simp only [Op.bytesLess, Bool.or_eq_false_iff, decide_eq_false_iff_not, Bool.and_eq_false_iff] at h
    simp only [Op.bytesLess, Bool.or_eq_true, decide_eq_true_eq, Bool.and_eq_true, beq_iff_eq]
    by_cases hba : b < a
    · exact .inl hba
    · right
      have hab : a = b := by
        apply UInt8.toNat_inj.1
        have g1 : ¬ a.toNat < b.toNat := h.1
        have g2 : ¬ b.toNat < a.toNat := hba
        omega
      subst hab
      refine ⟨rfl, ?_⟩
      rcases h.2 with h2 | h2
      · simp at h2
      · exact bl_total h2 (fun e => hn (by rw [e]))
theorem bl_trans : ∀ {x y z : List UInt8}, Op.bytesLess x y = true → Op.bytesLess y z = true → Op.bytesLess x z = true
  | _, [], _, h, _ => by simp [Op.bytesLess] at h
  | _, _ :: _, [], _, h => by simp [Op.bytesLess] at h
  | [], _ :: _, _ :: _, _, _ => rfl
  | a :: x, b :: y, c :: z, h, k => by
    simp only [Op.bytesLess, Bool.or_eq_true, decide_eq_true_eq, Bool.and_eq_true, beq_iff_eq] at h k ⊢
    rcases h with h | ⟨h1, h2⟩ <;> rcases k with k | ⟨k1, k2⟩
    · left
      have g1 : a.toNat < b.toNat := h
      have g2 : b.toNat < c.toNat := k
      exact (show a.toNat < c.toNat by omega)
    · subst k1; exact .inl h
    · subst h1; exact .inl k
    · subst h1; subst k1; exact .inr ⟨rfl, bl_trans h2 k2⟩
theorem toList_inj {a b : ByteArray} (h : a.toList = b.toList) : a = b := by
  have := toList_eq a b
  rw [h] at this
  simpa using this.symm
theorem ordV_lt {a b : Vl} : ordV a b < 0 ↔ (a.num = true ∧ (b.num = false ∨ a.n < b.n)) ∨ (a.num = false ∧ b.num = false ∧ Op.bytesLess a.s.toList b.s.toList = true) := by
  have h := cmpB_eq a.s b.s
  unfold ordV
  rw [h]
  cases a.num <;> cases b.num <;> simp [cmpI]
  · repeat' split
    all_goals simp [*, bl_irrefl]
  · repeat' split
    all_goals simp [*]
    all_goals omega
end Go.Vc

namespace Go.Vc
open Go.Proofs
set_option linter.unusedSimpArgs false
set_option linter.unusedVariables false

/-! Expire -/
theorem fn27p (j : Jn) (l : List Kp) (now : Int) (hl : l.length < 100000) (h : expOk j l now = true) :
    Fn Try.prog 27 [j.pv, ks l, pI now] (.pv (.tup [ks (l.drop (nOver j now l)), ks (l.take (nOver j now l)), pI 0])) [] := by
  have := (fn27 j l now hl h).rowTup (ps := [ks (l.take (nOver j now l)), pI 0]) (by rw [List.length_map, List.length_drop]) rfl
  exact this
theorem fn28p (j : Jn) (l : List Kp) (now : Int) (hl : l.length < 100000) (hc : checkJ j l = true) :
    Fn Try.prog 28 [j.pv, ks l, pI now] (.pv (.tup [ks (l.drop (nOver j now l)), ks (l.take (nOver j now l))])) [] := by
  obtain ⟨hm, _, hok, _⟩ := checkJ_parts hc
  have := (fn28 j l now hl (mayJ_win hm) (checkJ_at hc)).rowTup (ps := [ks (l.filter (isOver j now))]) (by rw [List.length_map]) rfl
  rw [(over_split hok now).1, (over_split hok now).2] at this
  exact this
def leftOne (j : Jn) (now : Int) (x : In) : In := ⟨x.key, x.l.drop (nOver j now x.l)⟩
def leftI (j : Jn) (now : Int) (l : List In) : List In := (l.map (leftOne j now)).filter (fun x => decide (x.l ≠ []))
def overI (j : Jn) (now : Int) (l : List In) : List Kp := (l.map fun x => x.l.take (nOver j now x.l)).flatten
structure XRI where
  ins_ : List In
  over : List Kp
  ok : Bool
def expireI (j : Jn) (l : List In) (now : Int) : XRI :=
  if checkI j l = true ∧ timeB now = true ∧ l.any (fun x => earlyK x.l now) = false then ⟨leftI j now l, overI j now l, true⟩ else ⟨[], [], false⟩
theorem leftI_succ {j : Jn} {now : Int} {l : List In} {i : Nat} (h : i < l.length) : leftI j now (l.take (i + 1)) = leftI j now (l.take i) ++ if 0 < (l[i].l.drop (nOver j now l[i].l)).length then [leftOne j now l[i]] else [] := by
  unfold leftI
  rw [take_snoc h, getI h, List.map_append, List.filter_append]
  congr 1
  simp only [List.map_cons, List.map_nil, List.filter_cons, List.filter_nil, leftOne, ne_eq, decide_not, Bool.not_eq_true', decide_eq_false_iff_not, List.length_pos_iff]
theorem overI_succ {j : Jn} {now : Int} {l : List In} {i : Nat} (h : i < l.length) : overI j now (l.take (i + 1)) = overI j now (l.take i) ++ l[i].l.take (nOver j now l[i].l) := by
  unfold overI
  rw [take_snoc h, getI h, List.map_append, List.flatten_append]
  simp
theorem leftI_len (j : Jn) (now : Int) (l : List In) : (leftI j now l).length ≤ l.length := by
  unfold leftI
  exact Nat.le_trans (List.length_filter_le _ _) (by simp)
theorem overI_len {j : Jn} {now : Int} {l : List In} (hk : ∀ x ∈ l, x.l.length < 100000) : ∀ i, (overI j now (l.take i)).length ≤ i * 100000
  | 0 => by simp [overI]
  | i + 1 => by
    have ih := overI_len (j := j) (now := now) hk i
    by_cases h : i < l.length
    · rw [overI_succ h, List.length_append, List.length_take]
      have := hk _ (List.getElem_mem h)
      omega
    · rw [List.take_of_length_le (by omega)]
      rw [List.take_of_length_le (by omega)] at ih
      exact Nat.le_trans ih (Nat.mul_le_mul_right _ (Nat.le_succ i))
theorem checkI_one {j : Jn} {l : List In} (h : checkI j l = true) {x : In} (hx : x ∈ l) : checkJ j x.l = true ∧ x.l ≠ [] ∧ mayV x.key = true := by
  simp only [checkI, Bool.and_eq_true, decide_eq_true_eq, List.all_eq_true, List.mem_range] at h
  obtain ⟨i, hi, rfl⟩ := List.mem_iff_getElem.1 hx
  have := h.1.2 i hi
  simp only [okOne, Bool.and_eq_true, decide_eq_true_eq, getI hi] at this
  exact ⟨this.2, this.1.2, this.1.1.1⟩
theorem checkI_len {j : Jn} {l : List In} (h : checkI j l = true) : l.length ≤ 40 := by
  simp only [checkI, Bool.and_eq_true, decide_eq_true_eq] at h
  exact h.1.1.2
abbrev XRI.pvE (r : XRI) : PV := .tup [ins r.ins_, ks r.over, pI (errN r.ok)]
abbrev XRI.pvB (r : XRI) : PV := .tup [ins r.ins_, ks r.over, pB r.ok]
theorem timeB_iff (n : Int) : timeB n = true ↔ 0 ≤ n ∧ n ≤ 1099511627775 := by simp [timeB]
theorem fn43 (j : Jn) (l : List In) (now : Int) (hl : l.length < 100000) (hk : ∀ x ∈ l, x.l.length < 100000) : Fn Try.prog 43 [j.pv, ins l, pI now] (.pv (expireI j l now).pvE) [] := by
  refine Run43 [false, false, false] (by simp) ?_
  simp only [go_sem, Nat.reduceEqDiff, Nat.reduceBEq, Nat.reduceAdd, Nat.reduceMul, Nat.reduceSub, Nat.reduceLeDiff, Nat.reduceLT, reduceIte, reduceCtorEq, Int.reduceToNat, Int.reduceLE, Int.reduceLT, Int.reduceNeg, Bool.not_not, and_self, Bool.and_eq_false_iff, Int.cast_ofNat_Int, Int.reduceAdd, Int.reduceSub, Int.reduceMul, Int.reduceEq, Int.reduceNe, M43]
  refine runR_callf (by simp only [go_sem, Nat.reduceEqDiff, Nat.reduceBEq, Nat.reduceAdd, Nat.reduceMul, Nat.reduceSub, Nat.reduceLeDiff, Nat.reduceLT, reduceIte, reduceCtorEq, Int.reduceToNat, Int.reduceLE, Int.reduceLT, Int.reduceNeg, Bool.not_not, and_self, Bool.and_eq_false_iff, Int.cast_ofNat_Int, Int.reduceAdd, Int.reduceSub, Int.reduceMul, Int.reduceEq, Int.reduceNe]) (by simp only [go_sem, Nat.reduceEqDiff, Nat.reduceBEq, Nat.reduceAdd, Nat.reduceMul, Nat.reduceSub, Nat.reduceLeDiff, Nat.reduceLT, reduceIte, reduceCtorEq, Int.reduceToNat, Int.reduceLE, Int.reduceLT, Int.reduceNeg, Bool.not_not, and_self, Bool.and_eq_false_iff, Int.cast_ofNat_Int, Int.reduceAdd, Int.reduceSub, Int.reduceMul, Int.reduceEq, Int.reduceNe]) (fn37 j l hl hk) ⟨rfl, trivial⟩ trivial ?_
  simp only [go_sem, Nat.reduceEqDiff, Nat.reduceBEq, Nat.reduceAdd, Nat.reduceMul, Nat.reduceSub, Nat.reduceLeDiff, Nat.reduceLT, reduceIte, reduceCtorEq, Int.reduceToNat, Int.reduceLE, Int.reduceLT, Int.reduceNeg, Bool.not_not, and_self, Bool.and_eq_false_iff, Int.cast_ofNat_Int, Int.reduceAdd, Int.reduceSub, Int.reduceMul, Int.reduceEq, Int.reduceNe]
  cases hc : checkI j l with
  | false =>
    simp only [go_sem, Nat.reduceEqDiff, Nat.reduceBEq, Nat.reduceAdd, Nat.reduceMul, Nat.reduceSub, Nat.reduceLeDiff, Nat.reduceLT, reduceIte, reduceCtorEq, Int.reduceToNat, Int.reduceLE, Int.reduceLT, Int.reduceNeg, Bool.not_not, and_self, Bool.and_eq_false_iff, Int.cast_ofNat_Int, Int.reduceAdd, Int.reduceSub, Int.reduceMul, Int.reduceEq, Int.reduceNe, errN]
    simp [expireI, hc, errN]
  | true =>
    simp only [go_sem, Nat.reduceEqDiff, Nat.reduceBEq, Nat.reduceAdd, Nat.reduceMul, Nat.reduceSub, Nat.reduceLeDiff, Nat.reduceLT, reduceIte, reduceCtorEq, Int.reduceToNat, Int.reduceLE, Int.reduceLT, Int.reduceNeg, Bool.not_not, and_self, Bool.and_eq_false_iff, Int.cast_ofNat_Int, Int.reduceAdd, Int.reduceSub, Int.reduceMul, Int.reduceEq, Int.reduceNe, errN]
    refine ⟨fun h => ?_, fun ⟨h1, h2⟩ => ?_⟩
    · have : timeB now = false := by
        simp only [timeB, decide_eq_false_iff_not]; omega
      simp [expireI, this, errN]
    · have ht : timeB now = true := (timeB_iff now).2 (by omega)
      refine run_loop (T := Nat) (fun i => ⟨[(2, .pv (pI now)), (3, .ptr 3 0), (10, .row 2010 0 (leftI j now (l.take i)).length), (11, .row 2011 0 (overI j now (l.take i)).length), (29, .pv (ins l)), (30, .pv (pI l.length)), (31, .pv (pI i))],
        [(3, .box [.pv (pS j.kind), .pv (pI j.parts), .pv (pI j.need), .pv (pI j.window)]), (2010, .sl 4 ((leftI j now (l.take i)).map In.pv)), (2011, .sl 3 ((overI j now (l.take i)).map Kp.pv))]⟩)
        (fun i => i ≤ l.length ∧ ∀ m (h : m < l.length), m < i → earlyK l[m].l now = false) (fun i => l.length - i) 0 rfl ⟨Nat.zero_le _, fun m _ h => absurd h (by omega)⟩ ?_
      intro i ⟨hi, hq⟩
      by_cases hlt : i < l.length
      · have hx := hk _ (List.getElem_mem hlt)
        have hcx := (checkI_one hc (List.getElem_mem hlt)).1
        simp only [go_sem, Nat.reduceEqDiff, Nat.reduceBEq, Nat.reduceAdd, Nat.reduceMul, Nat.reduceSub, Nat.reduceLeDiff, Nat.reduceLT, reduceIte, reduceCtorEq, Int.reduceToNat, Int.reduceLE, Int.reduceLT, Int.reduceNeg, Bool.not_not, and_self, Bool.and_eq_false_iff, Int.cast_ofNat_Int, Int.reduceAdd, Int.reduceSub, Int.reduceMul, Int.reduceEq, Int.reduceNe, B43_0, wf_ins, getD_ins hlt, getI hlt, show (i : Int) < (l.length : Int) by omega]
        cases he : earlyK l[i].l now with
        | true =>
          refine runR_call (by simp only [go_sem, Nat.reduceEqDiff, Nat.reduceBEq, Nat.reduceAdd, Nat.reduceMul, Nat.reduceSub, Nat.reduceLeDiff, Nat.reduceLT, reduceIte, reduceCtorEq, Int.reduceToNat, Int.reduceLE, Int.reduceLT, Int.reduceNeg, Bool.not_not, and_self, Bool.and_eq_false_iff, Int.cast_ofNat_Int, Int.reduceAdd, Int.reduceSub, Int.reduceMul, Int.reduceEq, Int.reduceNe]) rfl (fn27no j l[i].l now hx (by simp [expOk, he])) (.inl rfl) trivial ?_
          simp only [go_sem, Nat.reduceEqDiff, Nat.reduceBEq, Nat.reduceAdd, Nat.reduceMul, Nat.reduceSub, Nat.reduceLeDiff, Nat.reduceLT, reduceIte, reduceCtorEq, Int.reduceToNat, Int.reduceLE, Int.reduceLT, Int.reduceNeg, Bool.not_not, and_self, Bool.and_eq_false_iff, Int.cast_ofNat_Int, Int.reduceAdd, Int.reduceSub, Int.reduceMul, Int.reduceEq, Int.reduceNe]
          have : l.any (fun x => earlyK x.l now) = true := List.any_eq_true.2 ⟨_, List.getElem_mem hlt, he⟩
          simp [expireI, this, errN]
        | false =>
          refine runR_call (by simp only [go_sem, Nat.reduceEqDiff, Nat.reduceBEq, Nat.reduceAdd, Nat.reduceMul, Nat.reduceSub, Nat.reduceLeDiff, Nat.reduceLT, reduceIte, reduceCtorEq, Int.reduceToNat, Int.reduceLE, Int.reduceLT, Int.reduceNeg, Bool.not_not, and_self, Bool.and_eq_false_iff, Int.cast_ofNat_Int, Int.reduceAdd, Int.reduceSub, Int.reduceMul, Int.reduceEq, Int.reduceNe]) rfl (fn27p j l[i].l now hx (by simp [expOk, he, hcx, ht])) (.inl rfl) trivial ?_
          have e1 := leftI_succ (j := j) (now := now) hlt
          have e2 := overI_succ (j := j) (now := now) hlt
          have l1 := leftI_len j now (l.take i)
          have l2 := overI_len (j := j) (now := now) hk i
          rw [List.length_take] at l1
          simp only [go_sem, Nat.reduceEqDiff, Nat.reduceBEq, Nat.reduceAdd, Nat.reduceMul, Nat.reduceSub, Nat.reduceLeDiff, Nat.reduceLT, reduceIte, reduceCtorEq, Int.reduceToNat, Int.reduceLE, Int.reduceLT, Int.reduceNeg, Bool.not_not, and_self, Bool.and_eq_false_iff, Int.cast_ofNat_Int, Int.reduceAdd, Int.reduceSub, Int.reduceMul, Int.reduceEq, Int.reduceNe, wf_ks]
          simp only [List.length_take, List.length_drop] at *
          have hln : min (nOver j now l[i].l) l[i].l.length = nOver j now l[i].l := Nat.min_eq_left (nOver_le _ _ _)
          have hnl := nOver_le j now l[i].l
          refine ⟨⟨by omega, by omega⟩, fun h => ⟨⟨wf_ins [leftOne j now l[i]], by omega, by omega⟩, ⟨by omega, by omega⟩, i + 1, ?_, ⟨hlt, fun m hm hmi => ?_⟩, by omega⟩, fun h => ⟨⟨by omega, by omega⟩, i + 1, ?_, ⟨hlt, fun m hm hmi => ?_⟩, by omega⟩⟩
          · rw [if_pos (by omega)] at e1
            rw [e1, e2, take_len_map, take_len_map]
            simp [leftOne, hln]
          · by_cases hmk : m = i
            · subst hmk; exact he
            · exact hq m hm (by omega)
          · rw [if_neg (by omega), List.append_nil] at e1
            rw [e1, e2, take_len_map]
            simp [hln]
          · by_cases hmk : m = i
            · subst hmk; exact he
            · exact hq m hm (by omega)
      · have hie : i = l.length := by omega
        subst hie
        simp only [go_sem, Nat.reduceEqDiff, Nat.reduceBEq, Nat.reduceAdd, Nat.reduceMul, Nat.reduceSub, Nat.reduceLeDiff, Nat.reduceLT, reduceIte, reduceCtorEq, Int.reduceToNat, Int.reduceLE, Int.reduceLT, Int.reduceNeg, Bool.not_not, and_self, Bool.and_eq_false_iff, Int.cast_ofNat_Int, Int.reduceAdd, Int.reduceSub, Int.reduceMul, Int.reduceEq, Int.reduceNe, B43_0, R43_0, show ¬ ((l.length : Int) < (l.length : Int)) by omega]
        have hno : l.any (fun x => earlyK x.l now) = false := by
          rw [List.any_eq_false]
          intro x hx
          obtain ⟨m, hm, rfl⟩ := List.mem_iff_getElem.1 hx
          simp [hq m hm hm]
        rw [take_len_map, take_len_map]
        simp [expireI, hc, ht, hno, errN]
theorem early_iff (l : List Kp) (hne : l ≠ []) (now : Int) : earlyK l now = decide (now < (l.getD (l.length - 1) default).at_) := by
  have : 0 < l.length := List.length_pos_iff.2 hne
  simp [earlyK, this]
theorem fn44 (j : Jn) (l : List In) (now : Int) (hl : l.length < 100000) (hk : ∀ x ∈ l, x.l.length < 1000) : Fn Try.prog 44 [j.pv, ins l, pI now] (.pv (expireI j l now).pvB) [] := by
  refine Run44 [false, false, false] (by simp) ?_
  simp only [go_sem, Nat.reduceEqDiff, Nat.reduceBEq, Nat.reduceAdd, Nat.reduceMul, Nat.reduceSub, Nat.reduceLeDiff, Nat.reduceLT, reduceIte, reduceCtorEq, Int.reduceToNat, Int.reduceLE, Int.reduceLT, Int.reduceNeg, Bool.not_not, and_self, Bool.and_eq_false_iff, Int.cast_ofNat_Int, Int.reduceAdd, Int.reduceSub, Int.reduceMul, Int.reduceEq, Int.reduceNe, M44]
  refine runR_callf (by simp only [go_sem, Nat.reduceEqDiff, Nat.reduceBEq, Nat.reduceAdd, Nat.reduceMul, Nat.reduceSub, Nat.reduceLeDiff, Nat.reduceLT, reduceIte, reduceCtorEq, Int.reduceToNat, Int.reduceLE, Int.reduceLT, Int.reduceNeg, Bool.not_not, and_self, Bool.and_eq_false_iff, Int.cast_ofNat_Int, Int.reduceAdd, Int.reduceSub, Int.reduceMul, Int.reduceEq, Int.reduceNe]) (by simp only [go_sem, Nat.reduceEqDiff, Nat.reduceBEq, Nat.reduceAdd, Nat.reduceMul, Nat.reduceSub, Nat.reduceLeDiff, Nat.reduceLT, reduceIte, reduceCtorEq, Int.reduceToNat, Int.reduceLE, Int.reduceLT, Int.reduceNeg, Bool.not_not, and_self, Bool.and_eq_false_iff, Int.cast_ofNat_Int, Int.reduceAdd, Int.reduceSub, Int.reduceMul, Int.reduceEq, Int.reduceNe]) (fn38 j l hl hk) ⟨rfl, trivial⟩ trivial ?_
  simp only [go_sem, Nat.reduceEqDiff, Nat.reduceBEq, Nat.reduceAdd, Nat.reduceMul, Nat.reduceSub, Nat.reduceLeDiff, Nat.reduceLT, reduceIte, reduceCtorEq, Int.reduceToNat, Int.reduceLE, Int.reduceLT, Int.reduceNeg, Bool.not_not, and_self, Bool.and_eq_false_iff, Int.cast_ofNat_Int, Int.reduceAdd, Int.reduceSub, Int.reduceMul, Int.reduceEq, Int.reduceNe]
  have hk' : ∀ x ∈ l, x.l.length < 100000 := fun x hx => by have := hk x hx; omega
  refine ⟨fun h => ?_, fun h => ?_⟩
  · have : checkI j l = false ∨ timeB now = false := by
      rcases h with h | h
      · rcases h with h | h
        · exact .inl h
        · right; simp only [timeB, decide_eq_false_iff_not]; omega
      · right; simp only [timeB, decide_eq_false_iff_not]; omega
    rcases this with h | h <;> simp [expireI, h]
  · have hc : checkI j l = true := by simpa using h.1.1
    have ht : timeB now = true := (timeB_iff now).2 (by omega)
    refine run_loop (T := Nat) (fun i => ⟨[(1, .pv (ins l)), (2, .pv (pI now)), (3, .ptr 3 0), (9, .row 2009 0 (leftI j now (l.take i)).length), (10, .row 2010 0 (overI j now (l.take i)).length), (11, .pv (pI i))],
        [(3, .box [.pv (pS j.kind), .pv (pI j.parts), .pv (pI j.need), .pv (pI j.window)]), (2009, .sl 4 ((leftI j now (l.take i)).map In.pv)), (2010, .sl 3 ((overI j now (l.take i)).map Kp.pv))]⟩)
        (fun i => i ≤ l.length ∧ ∀ m (h : m < l.length), m < i → earlyK l[m].l now = false) (fun i => l.length - i) 0 rfl ⟨Nat.zero_le _, fun m _ h => absurd h (by omega)⟩ ?_
    intro i ⟨hi, hq⟩
    by_cases hlt : i < l.length
    · have hx := hk' _ (List.getElem_mem hlt)
      obtain ⟨hcx, hne, _⟩ := checkI_one hc (List.getElem_mem hlt)
      have hpos : 0 < l[i].l.length := List.length_pos_iff.2 hne
      have hea := early_iff l[i].l hne now
      have hsub : ((l[i].l.length : Int) - 1).toNat = l[i].l.length - 1 := by omega
      simp only [go_sem, Nat.reduceEqDiff, Nat.reduceBEq, Nat.reduceAdd, Nat.reduceMul, Nat.reduceSub, Nat.reduceLeDiff, Nat.reduceLT, reduceIte, reduceCtorEq, Int.reduceToNat, Int.reduceLE, Int.reduceLT, Int.reduceNeg, Bool.not_not, and_self, Bool.and_eq_false_iff, Int.cast_ofNat_Int, Int.reduceAdd, Int.reduceSub, Int.reduceMul, Int.reduceEq, Int.reduceNe, B44_0, wf_ins, getD_ins hlt, getI hlt, show (i : Int) < (l.length : Int) by omega, wf_ks, hsub, getD_ks (show l[i].l.length - 1 < l[i].l.length by omega)]
      refine ⟨⟨by omega, by omega⟩, ⟨by omega, by omega⟩, fun h => ?_, fun h => ?_⟩
      · have he : earlyK l[i].l now = true := by rw [hea]; simpa using h
        have : l.any (fun x => earlyK x.l now) = true := List.any_eq_true.2 ⟨_, List.getElem_mem hlt, he⟩
        simp [expireI, this]
      · have he : earlyK l[i].l now = false := by rw [hea]; simpa using h
        refine runR_call (by simp only [go_sem, Nat.reduceEqDiff, Nat.reduceBEq, Nat.reduceAdd, Nat.reduceMul, Nat.reduceSub, Nat.reduceLeDiff, Nat.reduceLT, reduceIte, reduceCtorEq, Int.reduceToNat, Int.reduceLE, Int.reduceLT, Int.reduceNeg, Bool.not_not, and_self, Bool.and_eq_false_iff, Int.cast_ofNat_Int, Int.reduceAdd, Int.reduceSub, Int.reduceMul, Int.reduceEq, Int.reduceNe]) rfl (fn28p j l[i].l now hx hcx) (.inl rfl) trivial ?_
        have e1 := leftI_succ (j := j) (now := now) hlt
        have e2 := overI_succ (j := j) (now := now) hlt
        have l1 := leftI_len j now (l.take i)
        have l2 := overI_len (j := j) (now := now) hk' i
        rw [List.length_take] at l1
        simp only [go_sem, Nat.reduceEqDiff, Nat.reduceBEq, Nat.reduceAdd, Nat.reduceMul, Nat.reduceSub, Nat.reduceLeDiff, Nat.reduceLT, reduceIte, reduceCtorEq, Int.reduceToNat, Int.reduceLE, Int.reduceLT, Int.reduceNeg, Bool.not_not, and_self, Bool.and_eq_false_iff, Int.cast_ofNat_Int, Int.reduceAdd, Int.reduceSub, Int.reduceMul, Int.reduceEq, Int.reduceNe, wf_ks, wf_ins, getD_ins hlt, getI hlt, show (i : Int) < (l.length : Int) by omega]
        simp only [List.length_take, List.length_drop] at *
        have hln : min (nOver j now l[i].l) l[i].l.length = nOver j now l[i].l := Nat.min_eq_left (nOver_le _ _ _)
        have hnl := nOver_le j now l[i].l
        refine ⟨⟨by omega, by omega⟩, fun h => ⟨⟨wf_ins [leftOne j now l[i]], by omega, by omega⟩, ⟨by omega, by omega⟩, i + 1, ?_, ⟨hlt, fun m hm hmi => ?_⟩, by omega⟩, fun h => ⟨⟨by omega, by omega⟩, i + 1, ?_, ⟨hlt, fun m hm hmi => ?_⟩, by omega⟩⟩
        · rw [if_pos (by omega)] at e1
          rw [e1, e2, take_len_map, take_len_map]
          simp [leftOne, hln]
        · by_cases hmk : m = i
          · subst hmk; exact he
          · exact hq m hm (by omega)
        · rw [if_neg (by omega), List.append_nil] at e1
          rw [e1, e2, take_len_map]
          simp [hln]
        · by_cases hmk : m = i
          · subst hmk; exact he
          · exact hq m hm (by omega)
    · have hie : i = l.length := by omega
      subst hie
      simp only [go_sem, Nat.reduceEqDiff, Nat.reduceBEq, Nat.reduceAdd, Nat.reduceMul, Nat.reduceSub, Nat.reduceLeDiff, Nat.reduceLT, reduceIte, reduceCtorEq, Int.reduceToNat, Int.reduceLE, Int.reduceLT, Int.reduceNeg, Bool.not_not, and_self, Bool.and_eq_false_iff, Int.cast_ofNat_Int, Int.reduceAdd, Int.reduceSub, Int.reduceMul, Int.reduceEq, Int.reduceNe, B44_0, R44_0, show ¬ ((l.length : Int) < (l.length : Int)) by omega]
      have hno : l.any (fun x => earlyK x.l now) = false := by
        rw [List.any_eq_false]
        intro x hx
        obtain ⟨m, hm, rfl⟩ := List.mem_iff_getElem.1 hx
        simp [hq m hm hm]
      rw [take_len_map, take_len_map]
      simp [expireI, hc, ht, hno]
end Go.Vc

namespace Go.Vc
open Go.Proofs
set_option linter.unusedSimpArgs false
set_option linter.unusedVariables false

/-! the order of keys, and instances in order -/
theorem cmpI_neg (a b : Int) : cmpI b a = - cmpI a b := by
  unfold cmpI
  repeat' split
  all_goals omega
theorem cmpB_neg (a b : ByteArray) : cmpB b a = - cmpB a b := by
  rw [cmpB_eq, cmpB_eq]
  by_cases h : a = b
  · subst h; simp [bl_irrefl]
  · have h' : ¬ b = a := fun e => h e.symm
    cases hab : Op.bytesLess a.toList b.toList with
    | true => simp [bl_asymm hab, h, h']
    | false =>
      have : a.toList ≠ b.toList := fun e => h (toList_inj e)
      simp [bl_total hab this, h, h']
theorem ordV_neg (a b : Vl) : ordV b a = - ordV a b := by
  have h1 := cmpI_neg a.n b.n
  have h2 := cmpB_neg a.s b.s
  unfold ordV
  cases a.num <;> cases b.num <;> simp [h1, h2]
theorem ordV_trans {a b c : Vl} (h : ordV a b < 0) (k : ordV b c < 0) : ordV a c < 0 := by
  rw [ordV_lt] at h k ⊢
  rcases h with ⟨h1, h2⟩ | ⟨h1, h2, h3⟩ <;> rcases k with ⟨k1, k2⟩ | ⟨k1, k2, k3⟩
  · rcases h2 with h2 | h2
    · rw [k1] at h2; cases h2
    · rcases k2 with k2 | k2
      · exact .inl ⟨h1, .inl k2⟩
      · exact .inl ⟨h1, .inr (by omega)⟩
  · exact .inl ⟨h1, .inl k2⟩
  · rw [h2] at k1; cases k1
  · exact .inr ⟨h1, k2, bl_trans h3 k3⟩
abbrev InLt (x y : In) : Prop := ordV x.key y.key < 0
theorem adj_pw {l : List In} (h : ∀ i, i + 1 < l.length → InLt (l.getD i default) (l.getD (i + 1) default)) : l.Pairwise InLt := by
  have key : ∀ d i, i + 1 + d < l.length → InLt (l.getD i default) (l.getD (i + 1 + d) default) := by
    intro d
    induction d with
    | zero => intro i hi; exact h i hi
    | succ d ih => intro i hi; exact ordV_trans (ih i (by omega)) (h (i + 1 + d) (by omega))
  rw [List.pairwise_iff_getElem]
  intro i k hi hk hik
  have := key (k - (i + 1)) i (by omega)
  rw [show i + 1 + (k - (i + 1)) = k by omega, getI hi, getI hk] at this
  exact this
structure GoodI (j : Jn) (l : List In) : Prop where
  may : mayJ j = true
  len : l.length ≤ 40
  ord : l.Pairwise InLt
  one : ∀ x ∈ l, mayV x.key = true ∧ x.l ≠ [] ∧ checkJ j x.l = true
  ids : (idsI l).Nodup
theorem checkI_iff {j : Jn} {l : List In} : checkI j l = true ↔ GoodI j l := by
  constructor
  · intro h
    have h0 := h
    simp only [checkI, Bool.and_eq_true, decide_eq_true_eq, List.all_eq_true, List.mem_range] at h
    refine ⟨h.1.1.1, h.1.1.2, adj_pw fun i hi => ?_, fun x hx => ?_, h.2⟩
    · have := h.1.2 (i + 1) hi
      simp only [okOne, Bool.and_eq_true, Bool.or_eq_true, decide_eq_true_eq, Nat.add_sub_cancel] at this
      rcases this.1.1.2 with h1 | h1
      · omega
      · exact h1
    · have := checkI_one h0 hx
      exact ⟨this.2.2, this.2.1, this.1⟩
  · intro g
    simp only [checkI, Bool.and_eq_true, decide_eq_true_eq, List.all_eq_true, List.mem_range]
    refine ⟨⟨⟨g.may, g.len⟩, fun i hi => ?_⟩, g.ids⟩
    have := g.one _ (List.getElem_mem hi)
    simp only [okOne, Bool.and_eq_true, Bool.or_eq_true, decide_eq_true_eq, getI hi]
    refine ⟨⟨⟨this.1, ?_⟩, this.2.1⟩, this.2.2⟩
    by_cases h0 : i = 0
    · exact .inl h0
    · right
      rw [getI (show i - 1 < l.length by omega)]
      exact List.pairwise_iff_getElem.1 g.ord (i - 1) i (by omega) hi (by omega)
theorem InLt.ne {x y : In} (h : InLt x y) : x.key ≠ y.key := fun e => by
  unfold InLt at h
  rw [e, ordV_self] at h
  omega
theorem after_key {x y : In} {key : Vl} (h0 : 0 ≤ ordV x.key key) (hx : mayV x.key = true) (hk : mayV key = true) (h : InLt x y) : 0 < ordV y.key key := by
  have hn := ordV_neg x.key key
  rcases Int.lt_or_eq_of_le h0 with h1 | h1
  · have h2 : ordV key x.key < 0 := by omega
    have := ordV_trans h2 h
    have := ordV_neg key y.key
    omega
  · have e := ordV_zero hx hk h1.symm
    unfold InLt at h
    rw [e] at h
    have := ordV_neg key y.key
    omega
theorem key_iff {x : In} {key : Vl} (hx : mayV x.key = true) (hk : mayV key = true) : x.key = key ↔ ordV x.key key = 0 :=
  ⟨fun e => by rw [e]; exact ordV_self _, fun h => ordV_zero hx hk h⟩
theorem fold_placed (key : Vl) (left : List Kp) : ∀ (l : List In) (s : List In), l.foldl (withStep key left) (s, true) = (s ++ l.filter (fun x => decide (x.key ≠ key)), true)
  | [], s => by simp
  | x :: l, s => by
    rw [List.foldl_cons]
    have : withStep key left (s, true) x = (s ++ (if x.key = key then [] else [x]), true) := by simp [withStep]
    rw [this, fold_placed key left l]
    by_cases h : x.key = key <;> simp [h]
theorem filt_split {key : Vl} (hk : mayV key = true) : ∀ {l : List In}, l.Pairwise InLt → (∀ x ∈ l, mayV x.key = true) →
    l.filter (fun x => decide (x.key ≠ key)) = l.filter (fun y => decide (ordV y.key key < 0)) ++ l.filter (fun y => decide (0 < ordV y.key key))
  | [], _, _ => rfl
  | x :: l, hs, hm => by
    rw [List.pairwise_cons] at hs
    have hx := hm x (by simp)
    have ih := filt_split hk hs.2 (fun y hy => hm y (List.mem_cons_of_mem _ hy))
    have hki := key_iff hx hk
    by_cases h1 : ordV x.key key < 0
    · have : ¬ x.key = key := fun e => by have := hki.1 e; omega
      simp [h1, this, show ¬ 0 < ordV x.key key by omega, ih]
      simpa using ih
    · have hall : ∀ y ∈ l, 0 < ordV y.key key := fun y hy => after_key (by omega) hx hk (hs.1 y hy)
      have e1 : l.filter (fun y => decide (ordV y.key key < 0)) = [] := List.filter_eq_nil_iff.2 fun y hy => by have := hall y hy; simp; omega
      have e2 : l.filter (fun y => decide (0 < ordV y.key key)) = l := List.filter_eq_self.2 fun y hy => by simpa using hall y hy
      rw [e1, e2, List.nil_append] at ih
      by_cases h2 : ordV x.key key = 0
      · have := hki.2 h2
        simp only [List.filter_cons, this, h1, ordV_self]
        simp [e1, e2, ih]
        simpa using ih
      · have : ¬ x.key = key := fun e => h2 (hki.1 e)
        simp only [List.filter_cons]
        simp [h1, this, show 0 < ordV x.key key by omega, e1, e2]
        simpa using ih
theorem fold_with {key : Vl} {left : List Kp} (hk : mayV key = true) : ∀ {l : List In}, l.Pairwise InLt → (∀ x ∈ l, mayV x.key = true) → ∀ s : List In,
    (l.foldl (withStep key left) (s, false)).1 ++ (if (l.foldl (withStep key left) (s, false)).2 = false then [⟨key, left⟩] else []) =
      s ++ (l.filter (fun y => decide (ordV y.key key < 0)) ++ [⟨key, left⟩] ++ l.filter (fun y => decide (0 < ordV y.key key)))
  | [], _, _, s => by simp
  | x :: l, hs, hm, s => by
    rw [List.pairwise_cons] at hs
    have hx := hm x (by simp)
    have ih := fold_with (left := left) hk hs.2 (fun y hy => hm y (List.mem_cons_of_mem _ hy))
    have hki := key_iff hx hk
    rw [List.foldl_cons]
    by_cases h1 : ordV x.key key < 0
    · have hne : ¬ x.key = key := fun e => by have := hki.1 e; omega
      have : withStep key left (s, false) x = (s ++ [x], false) := by simp [withStep, hne, show ¬ 0 ≤ ordV x.key key by omega]
      rw [this, ih]
      simp [h1, show ¬ 0 < ordV x.key key by omega]
    · have hall : ∀ y ∈ l, 0 < ordV y.key key := fun y hy => after_key (by omega) hx hk (hs.1 y hy)
      have e1 : l.filter (fun y => decide (ordV y.key key < 0)) = [] := List.filter_eq_nil_iff.2 fun y hy => by have := hall y hy; simp; omega
      have e2 : l.filter (fun y => decide (0 < ordV y.key key)) = l := List.filter_eq_self.2 fun y hy => by simpa using hall y hy
      have e3 : l.filter (fun x => decide (x.key ≠ key)) = l := List.filter_eq_self.2 fun y hy => by
        have := hall y hy
        simp only [decide_eq_true_eq, ne_eq]
        intro e
        rw [e, ordV_self] at this
        omega
      have : withStep key left (s, false) x = (s ++ [⟨key, left⟩] ++ (if x.key = key then [] else [x]), true) := by simp [withStep, show 0 ≤ ordV x.key key by omega]
      rw [this, fold_placed, e3]
      by_cases h2 : ordV x.key key = 0
      · have := hki.2 h2
        simp [this, ordV_self, e1, e2]
      · have hne : ¬ x.key = key := fun e => h2 (hki.1 e)
        simp [h1, hne, show 0 < ordV x.key key by omega, e1, e2]
theorem withI_eq {l : List In} {key : Vl} {left : List Kp} (hk : mayV key = true) (hs : l.Pairwise InLt) (hm : ∀ x ∈ l, mayV x.key = true) : withI l key left = withR l key left := by
  unfold withI withTo withR
  rw [List.take_length]
  by_cases h : left = []
  · subst h
    simp only [decide_true, if_true]
    rw [fold_placed]
    simp only [List.nil_append, Bool.true_eq_false, if_false, List.append_nil]
    exact filt_split hk hs hm
  · simp only [h, decide_false, if_false]
    rw [fold_with hk hs hm, List.nil_append]
theorem idIn_all (l : List In) (n : Int) : idIn (allI l) n = l.any (fun y => idIn y.l n) := by
  unfold idIn allI
  induction l with
  | nil => rfl
  | cons a l ih => simp only [List.map_cons, List.flatten_cons, List.any_append, ih, List.any_cons]
theorem feedRI_eq (j : Jn) (l : List In) (key : Vl) (x : Kp) : feedRI j l key x = feedI j l key x := by
  unfold feedRI feedI
  rw [idIn_all]
  by_cases h1 : checkI j l = false
  · rw [if_pos h1, if_pos h1]
  by_cases h2 : mayV key = false
  · rw [if_neg h1, if_neg h1, if_pos h2, if_pos h2]
  have g := checkI_iff.1 (by simpa using h1 : checkI j l = true)
  rw [withI_eq (by simpa using h2) g.ord fun x hx => (g.one x hx).1]
theorem fn36' (j : Jn) (l : List In) (key : Vl) (x : Kp) (hl : l.length < 100000) (hk : ∀ y ∈ l, y.l.length < 1000) : Fn Try.prog 36 [j.pv, ins l, key.pv, x.pv] (.pv (feedI j l key x).pv) [] := by
  rw [← feedRI_eq]
  exact fn36 j l key x hl hk
end Go.Vc

namespace Go.Vc
open Go.Proofs
set_option linter.unusedSimpArgs false
set_option linter.unusedVariables false

/-! what a feed makes of instances -/
theorem waitsI_cons (a : In) (l : List In) (key : Vl) : waitsI (a :: l) key = if a.key = key then a.l else waitsI l key := by
  unfold waitsI findI idxA
  by_cases h : a.key = key
  · simp [h, List.findIdx_cons]
  · simp only [List.any_cons, h, decide_false, Bool.false_or, List.findIdx_cons, cond_false, if_false]
    cases hh : l.any (fun x => decide (x.key = key)) with
    | false => simp
    | true =>
      simp only [if_true]
      rw [if_pos (by omega), if_pos (by omega)]
      simp
theorem waitsI_nil (key : Vl) : waitsI [] key = [] := rfl
theorem waitsI_of {key : Vl} : ∀ {l : List In}, l.Pairwise InLt → ∀ {x : In}, x ∈ l → x.key = key → waitsI l key = x.l
  | [], _, x, hx, _ => by cases hx
  | a :: l, hs, x, hx, hk => by
    rw [List.pairwise_cons] at hs
    rw [waitsI_cons]
    rcases List.mem_cons.1 hx with rfl | hx
    · rw [if_pos hk]
    · have := (hs.1 x hx).ne
      rw [hk] at this
      rw [if_neg this]
      exact waitsI_of hs.2 hx hk
theorem waitsI_no {key : Vl} : ∀ {l : List In}, (∀ x ∈ l, x.key ≠ key) → waitsI l key = []
  | [], _ => rfl
  | a :: l, h => by
    rw [waitsI_cons, if_neg (h a (by simp))]
    exact waitsI_no fun x hx => h x (List.mem_cons_of_mem _ hx)
theorem findI_no {key : Vl} {l : List In} : findI l key < 0 ↔ ∀ x ∈ l, x.key ≠ key := by
  unfold findI idxA
  constructor
  · intro h x hx e
    have : l.any (fun x => decide (x.key = key)) = true := List.any_eq_true.2 ⟨x, hx, by simpa using e⟩
    rw [this] at h
    simp only [if_true] at h
    omega
  · intro h
    have : l.any (fun x => decide (x.key = key)) = false := by
      rw [List.any_eq_false]
      intro x hx
      simpa using h x hx
    rw [this]
    simp
theorem allI_append (l m : List In) : allI (l ++ m) = allI l ++ allI m := by simp [allI]
theorem allI_cons (a : In) (l : List In) : allI (a :: l) = a.l ++ allI l := by simp [allI]
theorem allI_nil : allI [] = [] := rfl
theorem allI_wait {key : Vl} : ∀ {l : List In}, l.Pairwise InLt → (allI l).Perm (waitsI l key ++ allI (l.filter (fun x => decide (x.key ≠ key))))
  | [], _ => by simp [waitsI_nil, allI_nil]
  | a :: l, hs => by
    rw [List.pairwise_cons] at hs
    rw [allI_cons, waitsI_cons]
    by_cases h : a.key = key
    · have : l.filter (fun x => decide (x.key ≠ key)) = l := List.filter_eq_self.2 fun y hy => by
        have := (hs.1 y hy).ne
        rw [h] at this
        simpa using Ne.symm this
      simp only [h, if_true, List.filter_cons, ne_eq, not_true_eq_false, decide_false, Bool.false_eq_true, if_false]
      have e : l.filter (fun x => decide (¬ x.key = key)) = l := this
      rw [e]
    · rw [if_neg h, List.filter_cons, if_pos (by simpa using h), allI_cons]
      have ih := allI_wait (key := key) hs.2
      exact ((List.Perm.refl a.l).append ih).trans (by
        rw [← List.append_assoc, ← List.append_assoc]
        exact List.Perm.append_right _ List.perm_append_comm)
theorem mem_withR {l : List In} {key : Vl} {left : List Kp} (hk : mayV key = true) (hm : ∀ x ∈ l, mayV x.key = true) {y : In} : y ∈ withR l key left ↔ (y ∈ l ∧ y.key ≠ key) ∨ (left ≠ [] ∧ y = ⟨key, left⟩) := by
  unfold withR
  simp only [List.mem_append, List.mem_filter, decide_eq_true_eq]
  constructor
  · rintro ((⟨h1, h2⟩ | h) | ⟨h1, h2⟩)
    · exact .inl ⟨h1, fun e => by rw [e, ordV_self] at h2; omega⟩
    · split at h
      · cases h
      · rename_i hn
        exact .inr ⟨hn, by simpa using h⟩
    · exact .inl ⟨h1, fun e => by rw [e, ordV_self] at h2; omega⟩
  · rintro (⟨h1, h2⟩ | ⟨h1, rfl⟩)
    · have := key_iff (hm y h1) hk
      have hne : ordV y.key key ≠ 0 := fun e => h2 (this.2 e)
      by_cases h3 : ordV y.key key < 0
      · exact .inl (.inl ⟨h1, h3⟩)
      · exact .inr ⟨h1, by omega⟩
    · rw [if_neg h1]
      exact .inl (.inr (by simp))
theorem withR_ord {l : List In} {key : Vl} {left : List Kp} (hs : l.Pairwise InLt) : (withR l key left).Pairwise InLt := by
  unfold withR
  rw [List.pairwise_append, List.pairwise_append]
  refine ⟨⟨hs.filter _, by split <;> simp, fun x hx y hy => ?_⟩, hs.filter _, fun x hx y hy => ?_⟩
  · simp only [List.mem_filter, decide_eq_true_eq] at hx
    split at hy
    · cases hy
    · simp only [List.mem_cons, List.not_mem_nil, or_false] at hy
      subst hy
      exact hx.2
  · simp only [List.mem_filter, decide_eq_true_eq] at hy
    have hn := ordV_neg key y.key
    have hky : ordV key y.key < 0 := by omega
    rcases List.mem_append.1 hx with hx | hx
    · simp only [List.mem_filter, decide_eq_true_eq] at hx
      exact ordV_trans hx.2 hky
    · split at hx
      · cases hx
      · simp only [List.mem_cons, List.not_mem_nil, or_false] at hx
        subst hx
        exact hky
theorem allI_withR {l : List In} {key : Vl} {left : List Kp} (hk : mayV key = true) (hs : l.Pairwise InLt) (hm : ∀ x ∈ l, mayV x.key = true) :
    (allI (withR l key left)).Perm (left ++ allI (l.filter (fun x => decide (x.key ≠ key)))) := by
  rw [filt_split hk hs hm]
  unfold withR
  rw [allI_append, allI_append, allI_append]
  have : allI (if left = [] then [] else [⟨key, left⟩]) = left := by
    split
    · rename_i h; rw [h]; rfl
    · simp [allI_cons, allI_nil]
  rw [this, ← List.append_assoc]
  exact List.Perm.append_right _ List.perm_append_comm
theorem ord_ext : ∀ {l m : List In}, l.Pairwise InLt → m.Pairwise InLt → (∀ y, y ∈ l ↔ y ∈ m) → l = m
  | [], [], _, _, _ => rfl
  | [], b :: m, _, _, h => by have := (h b).2 (by simp); cases this
  | a :: l, [], _, _, h => by have := (h a).1 (by simp); cases this
  | a :: l, b :: m, hl, hm, h => by
    rw [List.pairwise_cons] at hl hm
    have hab : a = b := by
      rcases List.mem_cons.1 ((h a).1 (by simp)) with e | h1
      · exact e
      · rcases List.mem_cons.1 ((h b).2 (by simp)) with e | h2
        · exact e.symm
        · have := ordV_trans (hm.1 a h1) (hl.1 b h2)
          rw [ordV_self] at this
          omega
    subst hab
    congr 1
    refine ord_ext hl.2 hm.2 fun y => ⟨fun hy => ?_, fun hy => ?_⟩
    · rcases List.mem_cons.1 ((h y).1 (List.mem_cons_of_mem _ hy)) with e | h1
      · subst e; have := (hl.1 y hy).ne; exact absurd rfl this
      · exact h1
    · rcases List.mem_cons.1 ((h y).2 (List.mem_cons_of_mem _ hy)) with e | h1
      · subst e; have := (hm.1 y hy).ne; exact absurd rfl this
      · exact h1
/-- what an instance's feed is, where it is taken -/
structure FedI (j : Jn) (l : List In) (key : Vl) (x : Kp) : Prop where
  good : GoodI j l
  mayK : mayV key = true
  ids : idIn (allI l) x.id = false
  err : (feedR j (waitsI l key) x).err = 0
  room : ¬ (findI l key < 0 ∧ 0 < (feedR j (waitsI l key) x).left.length ∧ 40 ≤ l.length)
theorem feedI_ok {j : Jn} {l : List In} {key : Vl} {x : Kp} : (feedI j l key x).err = 0 ↔ FedI j l key x := by
  constructor
  · intro h
    unfold feedI at h
    repeat' split at h
    all_goals first | (simp [friErr] at h; done) | skip
    · rename_i h1 h2 h3 h4
      simp only [friErr] at h
      exact absurd h h4
    · rename_i h1 h2 h3 h4 h5
      exact ⟨checkI_iff.1 (by simpa using h1), by simpa using h2, by rw [idIn_all]; simpa using h3, by simpa using h4, h5⟩
  · intro g
    unfold feedI
    rw [if_neg (by rw [checkI_iff.2 g.good]; simp), if_neg (by rw [g.mayK]; simp), if_neg (by rw [← idIn_all, g.ids]; simp), if_neg (by simp [g.err]), if_neg g.room]
theorem feedI_is {j : Jn} {l : List In} {key : Vl} {x : Kp} (g : FedI j l key x) :
    feedI j l key x = ⟨withR l key (feedR j (waitsI l key) x).left, (feedR j (waitsI l key) x).fired, (feedR j (waitsI l key) x).over, 0⟩ := by
  unfold feedI
  rw [if_neg (by rw [checkI_iff.2 g.good]; simp), if_neg (by rw [g.mayK]; simp), if_neg (by rw [← idIn_all, g.ids]; simp), if_neg (by simp [g.err]), if_neg g.room,
    withI_eq g.mayK g.good.ord fun x hx => (g.good.one x hx).1]
theorem FedI.perm {j : Jn} {l : List In} {key : Vl} {x : Kp} (g : FedI j l key x) :
    (allI l ++ [x]).Perm ((feedI j l key x).over ++ ((feedI j l key x).fired ++ allI (feedI j l key x).ins_)) := by
  rw [feedI_is g]
  have h1 := allI_wait (key := key) g.good.ord
  have h2 := allI_withR (left := (feedR j (waitsI l key) x).left) g.mayK g.good.ord fun x hx => (g.good.one x hx).1
  have h3 := feed_perm g.err
  generalize feedR j (waitsI l key) x = r at *
  generalize allI (l.filter (fun x => decide (x.key ≠ key))) = z at *
  have h4 : (allI l ++ [x]).Perm ((waitsI l key ++ [x]) ++ z) := by
    refine (h1.append_right [x]).trans ?_
    rw [List.append_assoc, List.append_assoc]
    exact List.Perm.append_left _ List.perm_append_comm
  refine h4.trans ((h3.append_right z).trans ?_)
  simp only [List.append_assoc]
  exact List.Perm.append_left _ (List.Perm.append_left _ h2.symm)
theorem FedI.len {j : Jn} {l : List In} {key : Vl} {x : Kp} (g : FedI j l key x) : (feedI j l key x).ins_.length ≤ 40 := by
  rw [feedI_is g]
  have hr := g.room
  have hg := g.good
  have hs := filt_split g.mayK hg.ord fun x hx => (hg.one x hx).1
  have hl := congrArg List.length hs
  rw [List.length_append] at hl
  generalize feedR j (waitsI l key) x = r at *
  have hw : (withR l key r.left).length = (l.filter (fun x => decide (x.key ≠ key))).length + (if r.left = [] then 0 else 1) := by
    rw [hl]
    unfold withR
    rw [List.length_append, List.length_append]
    split <;> simp <;> omega
  show (withR l key r.left).length ≤ 40
  have hle := List.length_filter_le (fun x : In => decide (x.key ≠ key)) l
  have := hg.len
  by_cases hn : r.left = []
  · rw [hw, if_pos hn]; omega
  · rw [hw, if_neg hn]
    by_cases hf : findI l key < 0
    · have : 0 < r.left.length := List.length_pos_iff.2 hn
      have : ¬ 40 ≤ l.length := fun h => hr ⟨hf, this, h⟩
      omega
    · have : ∃ y ∈ l, y.key = key := Classical.byContradiction fun h => hf (findI_no.2 fun y hy e => h ⟨y, hy, e⟩)
      obtain ⟨y, hy, e⟩ := this
      have : (l.filter (fun x : In => decide (x.key ≠ key))).length < l.length := List.length_filter_lt_length_iff_exists.2 ⟨y, hy, by simp [e]⟩
      omega
theorem FedI.next {j : Jn} {l : List In} {key : Vl} {x : Kp} (g : FedI j l key x) : GoodI j (feedI j l key x).ins_ := by
  have hp := g.perm
  have hl := g.len
  have hi := feedI_is g
  have hck := feed_check g.err
  refine ⟨g.good.may, hl, ?_, ?_, ?_⟩
  · rw [hi]; exact withR_ord g.good.ord
  · intro y hy
    rw [hi] at hy
    rcases (mem_withR g.mayK fun x hx => (g.good.one x hx).1).1 hy with ⟨h1, _⟩ | ⟨h1, rfl⟩
    · exact g.good.one y h1
    · exact ⟨g.mayK, h1, hck⟩
  · have h1 : ((allI l ++ [x]).map (·.id)).Nodup := by
      rw [List.map_append, List.map_singleton, nodup_snoc]
      refine ⟨g.good.ids, fun hm => ?_⟩
      have hn := g.ids
      unfold idIn at hn
      rw [List.any_eq_false] at hn
      obtain ⟨k, hk, e⟩ := List.mem_map.1 hm
      have := hn k hk
      simp at this
      exact this e
    have h2 := (hp.map (·.id)).nodup_iff.1 h1
    rw [List.map_append, List.map_append] at h2
    exact ((List.nodup_append.1 (List.nodup_append.1 h2).2.1).2.1)
theorem FedI.other {j : Jn} {l : List In} {key : Vl} {x : Kp} (g : FedI j l key x) {y : In} (hy : y ∈ l) (hk : y.key ≠ key) : y ∈ (feedI j l key x).ins_ := by
  rw [feedI_is g]
  exact (mem_withR g.mayK fun x hx => (g.good.one x hx).1).2 (.inl ⟨hy, hk⟩)
theorem FedI.waits {j : Jn} {l : List In} {key other : Vl} {x : Kp} (g : FedI j l key x) (hk : other ≠ key) : waitsI (feedI j l key x).ins_ other = waitsI l other := by
  have hn := g.next
  by_cases h : ∃ y ∈ l, y.key = other
  · obtain ⟨y, hy, e⟩ := h
    rw [waitsI_of hn.ord (g.other hy (by rw [e]; exact hk)) e, waitsI_of g.good.ord hy e]
  · have h0 : ∀ y ∈ l, y.key ≠ other := fun y hy e => h ⟨y, hy, e⟩
    rw [waitsI_no h0, waitsI_no]
    intro y hy
    rw [feedI_is g] at hy
    rcases (mem_withR g.mayK fun x hx => (g.good.one x hx).1).1 hy with ⟨h1, _⟩ | ⟨_, rfl⟩
    · exact h0 y h1
    · exact fun e => hk e.symm
/-- either way round -/
theorem feedI_turns {j : Jn} {l : List In} {a b : Vl} {x y : Kp} (hab : a ≠ b) (g1 : FedI j l a x) (g2 : FedI j (feedI j l a x).ins_ b y) (g3 : FedI j l b y) (g4 : FedI j (feedI j l b y).ins_ a x) :
    (feedI j (feedI j l a x).ins_ b y).ins_ = (feedI j (feedI j l b y).ins_ a x).ins_ ∧ (feedI j l a x).fired = (feedI j (feedI j l b y).ins_ a x).fired ∧ (feedI j (feedI j l a x).ins_ b y).fired = (feedI j l b y).fired := by
  have w1 := g1.waits (Ne.symm hab)
  have w2 := g3.waits hab
  refine ⟨ord_ext g2.next.ord g4.next.ord fun z => ?_, ?_, ?_⟩
  · rw [feedI_is g2, feedI_is g4, w1, w2]
    rw [mem_withR g2.mayK fun x hx => (g2.good.one x hx).1, mem_withR g4.mayK fun x hx => (g4.good.one x hx).1]
    rw [feedI_is g1, feedI_is g3]
    rw [mem_withR g1.mayK fun x hx => (g1.good.one x hx).1, mem_withR g3.mayK fun x hx => (g3.good.one x hx).1]
    generalize (feedR j (waitsI l a) x).left = p
    generalize (feedR j (waitsI l b) y).left = q
    constructor
    · rintro (⟨⟨h1, h2⟩ | ⟨h1, rfl⟩, h3⟩ | ⟨h1, rfl⟩)
      · exact .inl ⟨.inl ⟨h1, h3⟩, h2⟩
      · exact .inr ⟨h1, rfl⟩
      · exact .inl ⟨.inr ⟨h1, rfl⟩, Ne.symm hab⟩
    · rintro (⟨⟨h1, h2⟩ | ⟨h1, rfl⟩, h3⟩ | ⟨h1, rfl⟩)
      · exact .inl ⟨.inl ⟨h1, h3⟩, h2⟩
      · exact .inr ⟨h1, rfl⟩
      · exact .inl ⟨.inr ⟨h1, rfl⟩, hab⟩
  · rw [feedI_is g1, feedI_is g4, w2]
  · rw [feedI_is g2, feedI_is g3, w1]
end Go.Vc
