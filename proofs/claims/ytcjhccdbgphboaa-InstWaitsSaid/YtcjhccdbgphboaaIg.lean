/- A part of the proofs of the seat Ytcjhccdbgphboaa: the contracts of functions, each proved out of its code. -/
import Derived.Test.YtcjhccdbgphboaaIf
import Derived.Test.YtcjhccdbgphboaaProg
import Derived.Test.YtcjhccdbgphboaaJf
namespace Go.Vc
open Go.Proofs
set_option maxRecDepth 100000

/-- 'trystlaw10.InstTurns' -/
def M12 : MC := (.seq (.reg [⟨(some 3), none, (.box (.t 0))⟩, ⟨(some 4), none, (.box (.t 1))⟩, ⟨(some 5), none, (.box (.t 2))⟩, ⟨(some 6), none, (.q (.mv (.c (.bool false))))⟩] [] [3, 4, 5] [3, 4, 5])
  (.seq (.seq (.grp [7, 9, 10, 1028, 1031, 1034, 1036] [⟨26, none, (.q (.fa (.t 3) 0)), [3], [3]⟩, ⟨27, none, (.q (.ld (.t 26) 4 true)), [26], [3]⟩, ⟨28, none, (.call (.f 17) [(.t 27)]), [27], []⟩,
  ⟨29, none, (.q (.fa (.t 3) 4)), [3], [3]⟩, ⟨30, none, (.q (.ld (.t 29) 1 false)), [29], [3]⟩, ⟨31, none, (.call (.f 34) [(.t 30)]), [30], []⟩, ⟨32, none, (.q (.fa (.t 3) 5)), [3], [3]⟩, ⟨33, none,
  (.q (.ld (.t 32) 3 true)), [32], [3]⟩, ⟨34, none, (.call (.f 29) [(.t 33)]), [33], []⟩, ⟨35, none, (.q (.ld (.t 4) 3 true)), [4], [4]⟩, ⟨36, none, (.call (.f 29) [(.t 35)]), [35], []⟩, ⟨7, none,
  (.alloc [(.pv (.sc (.string ⟨#[]⟩))), (.pv (.sc (.int .i64 0))), (.pv (.sc (.int .i64 0))), (.pv (.sc (.int .i64 0)))]), [], []⟩, ⟨9, none, (.alloc [(.pv (.sc (.bool false))),
  (.pv (.sc (.int .i64 0))), (.pv (.sc (.string ⟨#[]⟩)))]), [], []⟩, ⟨10, none, (.alloc [(.pv (.sc (.bool false))), (.pv (.sc (.int .i64 0))), (.pv (.sc (.string ⟨#[]⟩)))]), [], []⟩] [3, 5, 7, 8, 9,
  10, 28, 31, 34, 36] [3, 5, 7, 9, 10, 1028, 1031, 1034, 1036]) (.reg [⟨none, none, (.st (.t 7) (.t 28) 4)⟩, ⟨(some 8), none, (.q (.mv (.t 31)))⟩, ⟨none, none, (.st (.t 9) (.t 34) 3)⟩, ⟨none, none,
  (.st (.t 10) (.t 36) 3)⟩] [] [3, 5, 7, 8, 9, 10] [3, 5, 7, 9, 10, 1028, 1031, 1034, 1036])) (.seq (.reg [⟨(some 37), none, (.q (.fa (.t 3) 8))⟩, ⟨(some 38), none, (.q (.ld (.t 37) 3 true))⟩,
  ⟨(some 11), none, (.alloc [(.pv (.sc (.int .i64 0))), (.pv (.sc (.int .u64 0))), (.pv (.sc (.int .i64 0)))])⟩, ⟨none, none, (.st (.t 11) (.t 38) 3)⟩] [] [5, 7, 8, 9, 10, 11] [5, 7, 9, 10, 11, 1028,
  1031, 1034, 1036]) (.seq (.reg [⟨(some 39), none, (.q (.fa (.t 11) 2))⟩, ⟨(some 40), none, (.q (.ld (.t 39) 1 false))⟩, ⟨(some 41), none, (.q (.fa (.t 5) 2))⟩, ⟨none, none, (.st (.t 41) (.t 40)
  1)⟩] [] [5, 7, 8, 9, 10, 11] [5, 7, 9, 10, 11, 1028, 1031, 1034, 1036]) (.seq (.seq (.reg [⟨(some 42), none, (.q (.ld (.t 9) 3 true))⟩, ⟨(some 43), none, (.q (.ld (.t 10) 3 true))⟩, ⟨(some 44),
  none, (.q (.seq false [2, 0, 1] (.t 42) (.t 43)))⟩, ⟨(some 45), none, (.q (.mv (.t 44)))⟩, ⟨(some 46), (some (45, false)), (.q (.fa (.t 11) 1))⟩, ⟨(some 47), (some (45, false)), (.q (.ld (.t 46)
  1 false))⟩, ⟨(some 48), (some (45, false)), (.q (.fa (.t 5) 1))⟩, ⟨(some 49), (some (45, false)), (.q (.ld (.t 48) 1 false))⟩, ⟨(some 50), (some (45, false)), (.q (.bin .eql (.t 47) (.t 49)))⟩,
  ⟨(some 51), none, (.q (.pick (.t 45) (.c (.bool true)) (.t 50)))⟩] [] [5, 7, 8, 9, 10, 11, 51] [5, 7, 9, 10, 11, 1028, 1031, 1034, 1036]) (.cond (.t 51) (.seq (.reg [⟨(some 52), none, (.call (.f 33)
  [])⟩, ⟨(some 6), none, (.q (.mv (.t 52)))⟩] [] [6] [1052, 1107, 1110, 1114, 1119, 1122]) .ret) .skip)) (.seq (.reg [⟨(some 54), none, (.q (.ld (.t 7) 4 true))⟩, ⟨(some 55), none, (.q (.mv (.t 8)))⟩,
  ⟨(some 56), none, (.q (.ld (.t 9) 3 true))⟩, ⟨(some 57), none, (.q (.ld (.t 11) 3 true))⟩, ⟨(some 58), none, (.call (.f 30) [(.t 54), (.t 55), (.t 56), (.t 57)])⟩, ⟨(some 53), none,
  (.q (.mv (.t 58)))⟩, ⟨(some 59), none, (.q (.ext (.t 53) 0))⟩, ⟨(some 60), none, (.q (.ext (.t 53) 1))⟩, ⟨(some 61), none, (.q (.ext (.t 53) 2))⟩, ⟨(some 62), none, (.q (.ext (.t 53) 3))⟩,
  ⟨(some 12), none, (.q (.mv (.t 59)))⟩, ⟨(some 13), none, (.q (.mv (.t 60)))⟩, ⟨(some 14), none, (.q (.mv (.t 61)))⟩, ⟨(some 15), none, (.q (.mv (.t 62)))⟩] [] [5, 7, 8, 9, 10, 11, 12, 13, 15] [5, 7,
  9, 10, 11, 1028, 1031, 1034, 1036, 1058, 1068]) (.seq (.reg [⟨(some 64), none, (.q (.ld (.t 7) 4 true))⟩, ⟨(some 65), none, (.q (.mv (.t 12)))⟩, ⟨(some 66), none, (.q (.ld (.t 10) 3 true))⟩,
  ⟨(some 67), none, (.q (.ld (.t 5) 3 true))⟩, ⟨(some 68), none, (.call (.f 30) [(.t 64), (.t 65), (.t 66), (.t 67)])⟩, ⟨(some 63), none, (.q (.mv (.t 68)))⟩, ⟨(some 69), none, (.q (.ext (.t 63) 0))⟩,
  ⟨(some 70), none, (.q (.ext (.t 63) 1))⟩, ⟨(some 71), none, (.q (.ext (.t 63) 2))⟩, ⟨(some 72), none, (.q (.ext (.t 63) 3))⟩, ⟨(some 12), none, (.q (.mv (.t 69)))⟩, ⟨(some 16), none,
  (.q (.mv (.t 70)))⟩, ⟨(some 17), none, (.q (.mv (.t 71)))⟩, ⟨(some 18), none, (.q (.mv (.t 72)))⟩] [] [5, 7, 8, 9, 10, 11, 12, 13, 15, 16, 18] [5, 7, 9, 10, 11, 1028, 1031, 1034, 1036, 1058, 1068])
  (.seq (.reg [⟨(some 74), none, (.q (.ld (.t 7) 4 true))⟩, ⟨(some 75), none, (.q (.mv (.t 8)))⟩, ⟨(some 76), none, (.q (.ld (.t 10) 3 true))⟩, ⟨(some 77), none, (.q (.ld (.t 5) 3 true))⟩, ⟨(some 78),
  none, (.call (.f 30) [(.t 74), (.t 75), (.t 76), (.t 77)])⟩, ⟨(some 73), none, (.q (.mv (.t 78)))⟩, ⟨(some 79), none, (.q (.ext (.t 73) 0))⟩, ⟨(some 80), none, (.q (.ext (.t 73) 1))⟩, ⟨(some 81),
  none, (.q (.ext (.t 73) 2))⟩, ⟨(some 82), none, (.q (.ext (.t 73) 3))⟩, ⟨(some 19), none, (.q (.mv (.t 79)))⟩, ⟨(some 20), none, (.q (.mv (.t 80)))⟩, ⟨(some 21), none, (.q (.mv (.t 81)))⟩,
  ⟨(some 22), none, (.q (.mv (.t 82)))⟩] [] [7, 9, 11, 12, 13, 15, 16, 18, 19, 20, 22] [7, 9, 11, 1028, 1034, 1058, 1068, 1078, 1088]) (.seq (.reg [⟨(some 84), none, (.q (.ld (.t 7) 4 true))⟩,
  ⟨(some 85), none, (.q (.mv (.t 19)))⟩, ⟨(some 86), none, (.q (.ld (.t 9) 3 true))⟩, ⟨(some 87), none, (.q (.ld (.t 11) 3 true))⟩, ⟨(some 88), none, (.call (.f 30) [(.t 84), (.t 85), (.t 86),
  (.t 87)])⟩, ⟨(some 83), none, (.q (.mv (.t 88)))⟩, ⟨(some 89), none, (.q (.ext (.t 83) 0))⟩, ⟨(some 90), none, (.q (.ext (.t 83) 1))⟩, ⟨(some 91), none, (.q (.ext (.t 83) 2))⟩, ⟨(some 92), none,
  (.q (.ext (.t 83) 3))⟩, ⟨(some 19), none, (.q (.mv (.t 89)))⟩, ⟨(some 23), none, (.q (.mv (.t 90)))⟩, ⟨(some 24), none, (.q (.mv (.t 91)))⟩, ⟨(some 25), none, (.q (.mv (.t 92)))⟩] [] [12, 13, 15,
  16, 18, 19, 20, 22, 23, 25] [1058, 1068, 1078, 1088]) (.seq (.seq (.reg [⟨(some 93), none, (.q (.mv (.t 15)))⟩, ⟨(some 94), none, (.q (.bin .neq (.t 93) (.c (.int .i64 0))))⟩, ⟨(some 95), none,
  (.q (.mv (.t 94)))⟩, ⟨(some 96), (some (95, false)), (.q (.mv (.t 18)))⟩, ⟨(some 97), (some (95, false)), (.q (.bin .neq (.t 96) (.c (.int .i64 0))))⟩, ⟨(some 98), none, (.q (.pick (.t 95)
  (.c (.bool true)) (.t 97)))⟩, ⟨(some 99), none, (.q (.mv (.t 98)))⟩, ⟨(some 100), (some (99, false)), (.q (.mv (.t 22)))⟩, ⟨(some 101), (some (99, false)), (.q (.bin .neq (.t 100)
  (.c (.int .i64 0))))⟩, ⟨(some 102), none, (.q (.pick (.t 99) (.c (.bool true)) (.t 101)))⟩, ⟨(some 103), none, (.q (.mv (.t 102)))⟩, ⟨(some 104), (some (103, false)), (.q (.mv (.t 25)))⟩,
  ⟨(some 105), (some (103, false)), (.q (.bin .neq (.t 104) (.c (.int .i64 0))))⟩, ⟨(some 106), none, (.q (.pick (.t 103) (.c (.bool true)) (.t 105)))⟩] [] [12, 13, 16, 19, 20, 23, 106] [1058, 1068,
  1078, 1088]) (.cond (.t 106) (.seq (.reg [⟨(some 107), none, (.call (.f 33) [])⟩, ⟨(some 6), none, (.q (.mv (.t 107)))⟩] [] [6] [1052, 1107, 1110, 1114, 1119, 1122]) .ret) .skip))
  (.seq (.reg [⟨(some 108), none, (.q (.mv (.t 12)))⟩, ⟨(some 109), none, (.q (.mv (.t 19)))⟩, ⟨(some 110), none, (.call (.f 35) [(.t 108), (.t 109)])⟩, ⟨(some 111), none, (.q (.mv (.t 110)))⟩,
  ⟨(some 112), (some (111, true)), (.q (.mv (.t 13)))⟩, ⟨(some 113), (some (111, true)), (.q (.mv (.t 23)))⟩, ⟨(some 114), (some (111, true)), (.call (.f 21) [(.t 112), (.t 113)])⟩, ⟨(some 115), none,
  (.q (.pick (.t 111) (.t 114) (.c (.bool false))))⟩, ⟨(some 116), none, (.q (.mv (.t 115)))⟩, ⟨(some 117), (some (116, true)), (.q (.mv (.t 16)))⟩, ⟨(some 118), (some (116, true)),
  (.q (.mv (.t 20)))⟩, ⟨(some 119), (some (116, true)), (.call (.f 21) [(.t 117), (.t 118)])⟩, ⟨(some 120), none, (.q (.pick (.t 116) (.t 119) (.c (.bool false))))⟩, ⟨(some 121), none,
  (.q (.mv (.t 120)))⟩, ⟨(some 122), (some (121, true)), (.call (.f 33) [])⟩, ⟨(some 123), none, (.q (.pick (.t 121) (.t 122) (.c (.bool false))))⟩, ⟨(some 6), none,
  (.q (.mv (.t 123)))⟩] [] [6] [1052, 1107, 1110, 1114, 1119, 1122]) .ret)))))))))))
theorem mc12 : ofCode Try.prog [] Try.f12.ntmps [(0, ⟨[3, 4, 5], [3, 4, 5], [], 0, [], none⟩),
    (1, ⟨[3, 5, 7, 8, 9, 10], [3, 5, 7, 9, 10, 1028, 1031, 1034, 1036], [(14, 0), (15, 229376), (16, 0), (17, 0)], 49151, [], some ⟨[7, 9, 10, 1028, 1031, 1034, 1036], [(0, [3], [3]), (1, [26], [3]), (2, [27], []), (3, [3], [3]), (4, [29], [3]), (5, [30], []), (6, [3], [3]), (7, [32], [3]), (8, [33], []), (9, [4], [4]), (10, [35], []), (11, [], []), (12, [], []), (13, [], [])], [3, 5, 7, 8, 9, 10, 28, 31, 34, 36], [3, 5, 7, 9, 10, 1028, 1031, 1034, 1036]⟩⟩),
    (2, ⟨[5, 7, 8, 9, 10, 11], [5, 7, 9, 10, 11, 1028, 1031, 1034, 1036], [], 0, [], none⟩),
    (3, ⟨[5, 7, 8, 9, 10, 11], [5, 7, 9, 10, 11, 1028, 1031, 1034, 1036], [], 0, [], none⟩),
    (4, ⟨[5, 7, 8, 9, 10, 11, 51], [5, 7, 9, 10, 11, 1028, 1031, 1034, 1036], [], 0, [], none⟩),
    (5, ⟨[6], [1052, 1107, 1110, 1114, 1119, 1122], [], 0, [], none⟩),
    (6, ⟨[5, 7, 8, 9, 10, 11, 12, 13, 15], [5, 7, 9, 10, 11, 1028, 1031, 1034, 1036, 1058, 1068], [], 0, [], none⟩),
    (7, ⟨[5, 7, 8, 9, 10, 11, 12, 13, 15, 16, 18], [5, 7, 9, 10, 11, 1028, 1031, 1034, 1036, 1058, 1068], [], 0, [], none⟩),
    (8, ⟨[7, 9, 11, 12, 13, 15, 16, 18, 19, 20, 22], [7, 9, 11, 1028, 1034, 1058, 1068, 1078, 1088], [], 0, [], none⟩),
    (9, ⟨[12, 13, 15, 16, 18, 19, 20, 22, 23, 25], [1058, 1068, 1078, 1088], [], 0, [], none⟩),
    (10, ⟨[12, 13, 16, 19, 20, 23, 106], [1058, 1068, 1078, 1088], [], 0, [], none⟩),
    (11, ⟨[6], [1052, 1107, 1110, 1114, 1119, 1122], [], 0, [], none⟩),
    (12, ⟨[6], [1052, 1107, 1110, 1114, 1119, 1122], [], 0, [], none⟩)] (Try.f12.body.getD .skip) = some M12 := by kernel_rfl
theorem Run12 {args : List PV} {v : AV} {rs : List (Nat × List PV)} (ids : List Bool) (h : args.length ≤ 124) (hv : run Try.prog (retK [RV.tmp 6] ids v rs) M12 [] ⟨entry 0 args, []⟩) : Fn Try.prog 12 args v rs :=
  Fn_run ids (by kernel_rfl) Try.func12 (by decide) rfl mc12 (by kernel_rfl) (by rw [Try.ntmps12]; exact h) (by rw [Try.ntmps12]; decide) hv

/-- 'trystlaw10.InstFeeds' -/
def M13 : MC := (.seq (.reg [⟨(some 1), none, (.box (.t 0))⟩, ⟨(some 2), none, (.q (.mv (.c (.bool false))))⟩] [] [1] [1]) (.seq (.seq (.grp [3, 5, 1017, 1020, 1023] [⟨15, none, (.q (.fa (.t 1) 0)),
  [1], [1]⟩, ⟨16, none, (.q (.ld (.t 15) 4 true)), [15], [1]⟩, ⟨17, none, (.call (.f 17) [(.t 16)]), [16], []⟩, ⟨18, none, (.q (.fa (.t 1) 4)), [1], [1]⟩, ⟨19, none, (.q (.ld (.t 18) 1 false)), [18],
  [1]⟩, ⟨20, none, (.call (.f 34) [(.t 19)]), [19], []⟩, ⟨21, none, (.q (.fa (.t 1) 5)), [1], [1]⟩, ⟨22, none, (.q (.ld (.t 21) 3 true)), [21], [1]⟩, ⟨23, none, (.call (.f 29) [(.t 22)]), [22], []⟩,
  ⟨3, none, (.alloc [(.pv (.sc (.string ⟨#[]⟩))), (.pv (.sc (.int .i64 0))), (.pv (.sc (.int .i64 0))), (.pv (.sc (.int .i64 0)))]), [], []⟩, ⟨5, none, (.alloc [(.pv (.sc (.bool false))),
  (.pv (.sc (.int .i64 0))), (.pv (.sc (.string ⟨#[]⟩)))]), [], []⟩] [1, 3, 4, 5, 17, 20, 23] [1, 3, 5, 1017, 1020, 1023]) (.reg [⟨none, none, (.st (.t 3) (.t 17) 4)⟩, ⟨(some 4), none,
  (.q (.mv (.t 20)))⟩, ⟨none, none, (.st (.t 5) (.t 23) 3)⟩] [] [1, 3, 4, 5] [1, 3, 5, 1017, 1020, 1023])) (.seq (.reg [⟨(some 24), none, (.q (.mv (.t 4)))⟩, ⟨(some 25), none, (.call (.f 34)
  [(.t 24)])⟩, ⟨(some 6), none, (.q (.mv (.t 25)))⟩] [] [1, 3, 4, 5, 6] [1, 3, 5, 1017, 1020, 1023, 1025]) (.seq (.reg [⟨(some 27), none, (.q (.ld (.t 3) 4 true))⟩, ⟨(some 28), none,
  (.q (.mv (.t 4)))⟩, ⟨(some 29), none, (.q (.ld (.t 5) 3 true))⟩, ⟨(some 30), none, (.q (.fa (.t 1) 8))⟩, ⟨(some 31), none, (.q (.ld (.t 30) 3 true))⟩, ⟨(some 32), none, (.call (.f 30) [(.t 27),
  (.t 28), (.t 29), (.t 31)])⟩, ⟨(some 26), none, (.q (.mv (.t 32)))⟩, ⟨(some 33), none, (.q (.ext (.t 26) 0))⟩, ⟨(some 34), none, (.q (.ext (.t 26) 1))⟩, ⟨(some 35), none, (.q (.ext (.t 26) 2))⟩,
  ⟨(some 36), none, (.q (.ext (.t 26) 3))⟩, ⟨(some 7), none, (.q (.mv (.t 33)))⟩, ⟨(some 8), none, (.q (.mv (.t 34)))⟩, ⟨(some 9), none, (.q (.mv (.t 35)))⟩, ⟨(some 10), none,
  (.q (.mv (.t 36)))⟩] [] [1, 3, 4, 5, 6, 7, 8, 9, 10] [1, 3, 5, 1017, 1020, 1023, 1025, 1032]) (.seq (.reg [⟨(some 38), none, (.q (.ld (.t 3) 4 true))⟩, ⟨(some 39), none, (.q (.mv (.t 4)))⟩,
  ⟨(some 40), none, (.q (.ld (.t 5) 3 true))⟩, ⟨(some 41), none, (.q (.fa (.t 1) 8))⟩, ⟨(some 42), none, (.q (.ld (.t 41) 3 true))⟩, ⟨(some 43), none, (.call (.f 36) [(.t 38), (.t 39), (.t 40),
  (.t 42)])⟩, ⟨(some 37), none, (.q (.mv (.t 43)))⟩, ⟨(some 44), none, (.q (.ext (.t 37) 0))⟩, ⟨(some 45), none, (.q (.ext (.t 37) 1))⟩, ⟨(some 46), none, (.q (.ext (.t 37) 2))⟩, ⟨(some 47), none,
  (.q (.ext (.t 37) 3))⟩, ⟨(some 11), none, (.q (.mv (.t 44)))⟩, ⟨(some 12), none, (.q (.mv (.t 45)))⟩, ⟨(some 13), none, (.q (.mv (.t 46)))⟩, ⟨(some 14), none, (.q (.mv (.t 47)))⟩] [] [3, 4, 5, 6, 7,
  8, 9, 10, 11, 12, 13, 14] [3, 5, 1017, 1020, 1023, 1025, 1032, 1043]) (.seq (.reg [⟨(some 48), none, (.q (.mv (.t 7)))⟩, ⟨(some 49), none, (.q (.mv (.t 11)))⟩, ⟨(some 50), none, (.call (.f 35)
  [(.t 48), (.t 49)])⟩, ⟨(some 51), none, (.q (.mv (.t 50)))⟩, ⟨(some 52), (some (51, true)), (.q (.mv (.t 8)))⟩, ⟨(some 53), (some (51, true)), (.q (.mv (.t 12)))⟩, ⟨(some 54), (some (51, true)),
  (.call (.f 21) [(.t 52), (.t 53)])⟩, ⟨(some 55), none, (.q (.pick (.t 51) (.t 54) (.c (.bool false))))⟩, ⟨(some 56), none, (.q (.mv (.t 55)))⟩, ⟨(some 57), (some (56, true)), (.q (.mv (.t 9)))⟩,
  ⟨(some 58), (some (56, true)), (.q (.mv (.t 13)))⟩, ⟨(some 59), (some (56, true)), (.call (.f 21) [(.t 57), (.t 58)])⟩, ⟨(some 60), none, (.q (.pick (.t 56) (.t 59) (.c (.bool false))))⟩,
  ⟨(some 61), none, (.q (.mv (.t 60)))⟩, ⟨(some 62), (some (61, true)), (.q (.mv (.t 10)))⟩, ⟨(some 63), (some (61, true)), (.q (.mv (.t 14)))⟩, ⟨(some 64), (some (61, true)), (.q (.bin .eql (.t 62)
  (.t 63)))⟩, ⟨(some 65), none, (.q (.pick (.t 61) (.t 64) (.c (.bool false))))⟩, ⟨(some 66), none, (.q (.mv (.t 65)))⟩, ⟨(some 67), (some (66, true)), (.q (.ld (.t 3) 4 true))⟩, ⟨(some 68),
  (some (66, true)), (.q (.mv (.t 4)))⟩, ⟨(some 71), (some (66, true)), (.q (.ld (.t 3) 4 true))⟩, ⟨(some 72), (some (66, true)), (.q (.mv (.t 4)))⟩, ⟨(some 69), (some (66, true)), (.call (.f 37)
  [(.t 67), (.t 68)])⟩, ⟨(some 70), (some (66, true)), (.q (.bin .eql (.t 69) (.c (.int .i64 0))))⟩, ⟨(some 73), (some (66, true)), (.call (.f 38) [(.t 71), (.t 72)])⟩, ⟨(some 74), (some (66, true)),
  (.q (.beq false (.t 70) (.t 73)))⟩, ⟨(some 75), none, (.q (.pick (.t 66) (.t 74) (.c (.bool false))))⟩, ⟨(some 76), none, (.q (.mv (.t 75)))⟩, ⟨(some 77), (some (76, true)), (.q (.mv (.t 4)))⟩,
  ⟨(some 78), (some (76, true)), (.q (.ld (.t 5) 3 true))⟩, ⟨(some 80), (some (76, true)), (.q (.mv (.t 4)))⟩, ⟨(some 81), (some (76, true)), (.q (.ld (.t 5) 3 true))⟩, ⟨(some 79), (some (76, true)),
  (.call (.f 39) [(.t 77), (.t 78)])⟩, ⟨(some 82), (some (76, true)), (.call (.f 40) [(.t 80), (.t 81)])⟩, ⟨(some 83), (some (76, true)), (.q (.bin .eql (.t 79) (.t 82)))⟩, ⟨(some 84), none,
  (.q (.pick (.t 76) (.t 83) (.c (.bool false))))⟩, ⟨(some 85), none, (.q (.mv (.t 84)))⟩, ⟨(some 86), (some (85, true)), (.q (.mv (.t 4)))⟩, ⟨(some 88), (some (85, true)), (.q (.mv (.t 4)))⟩,
  ⟨(some 87), (some (85, true)), (.call (.f 41) [(.t 86)])⟩, ⟨(some 89), (some (85, true)), (.call (.f 32) [(.t 88)])⟩, ⟨(some 90), (some (85, true)), (.q (.len (.t 89) false))⟩, ⟨(some 91),
  (some (85, true)), (.q (.bin .eql (.t 87) (.t 90)))⟩, ⟨(some 92), none, (.q (.pick (.t 85) (.t 91) (.c (.bool false))))⟩, ⟨(some 93), none, (.q (.mv (.t 92)))⟩, ⟨(some 94), (some (93, true)),
  (.q (.mv (.t 4)))⟩, ⟨(some 95), (some (93, true)), (.q (.mv (.t 6)))⟩, ⟨(some 96), (some (93, true)), (.call (.f 35) [(.t 94), (.t 95)])⟩, ⟨(some 97), none, (.q (.pick (.t 93) (.t 96)
  (.c (.bool false))))⟩, ⟨(some 98), none, (.q (.mv (.t 97)))⟩, ⟨(some 99), (some (98, true)), (.call (.f 33) [])⟩, ⟨(some 100), none, (.q (.pick (.t 98) (.t 99) (.c (.bool false))))⟩, ⟨(some 2),
  none, (.q (.mv (.t 100)))⟩] [] [2] [1032, 1043, 1050, 1054, 1059, 1069, 1073, 1079, 1082, 1087, 1096, 1099]) .ret))))))
theorem mc13 : ofCode Try.prog [] Try.f13.ntmps [(0, ⟨[1], [1], [], 0, [], none⟩),
    (1, ⟨[1, 3, 4, 5], [1, 3, 5, 1017, 1020, 1023], [(11, 0), (12, 12288), (13, 0)], 6143, [], some ⟨[3, 5, 1017, 1020, 1023], [(0, [1], [1]), (1, [15], [1]), (2, [16], []), (3, [1], [1]), (4, [18], [1]), (5, [19], []), (6, [1], [1]), (7, [21], [1]), (8, [22], []), (9, [], []), (10, [], [])], [1, 3, 4, 5, 17, 20, 23], [1, 3, 5, 1017, 1020, 1023]⟩⟩),
    (2, ⟨[1, 3, 4, 5, 6], [1, 3, 5, 1017, 1020, 1023, 1025], [], 0, [], none⟩),
    (3, ⟨[1, 3, 4, 5, 6, 7, 8, 9, 10], [1, 3, 5, 1017, 1020, 1023, 1025, 1032], [], 0, [], none⟩),
    (4, ⟨[3, 4, 5, 6, 7, 8, 9, 10, 11, 12, 13, 14], [3, 5, 1017, 1020, 1023, 1025, 1032, 1043], [], 0, [], none⟩),
    (5, ⟨[2], [1032, 1043, 1050, 1054, 1059, 1069, 1073, 1079, 1082, 1087, 1096, 1099], [(0, 18014398509481981), (1, 18014398509481982), (2, 0), (3, 18014398509481976), (4, 18014398509481936), (5, 18014398509481952), (6, 0), (7, 18014398509481856), (8, 18014398509481728), (9, 18014398509480448), (10, 18014398509480960), (11, 0), (12, 18014398509477888), (13, 18014398509473792), (14, 18014398509432832), (15, 18014398509449216), (16, 18014398509416448), (17, 18014398509350912), (18, 18014398509219840), (19, 18014398482743296), (20, 18014398483267584), (23, 18014398484316160), (24, 18014398492704768), (21, 0), (22, 18014398446567424), (25, 0), (26, 18014398442373120), (27, 18014398375264256), (28, 18014398241046528), (29, 18014384013967360), (30, 18014384550838272), (32, 18014385624580096), (33, 18014389919547392), (31, 0), (34, 0), (35, 18014364149743616), (36, 18014329790005248), (37, 18014261070528512), (38, 18013024119947264), (40, 18013298997854208), (39, 0), (41, 0), (42, 18010000462970880), (43, 18005602416459776), (44, 17996806323437568), (45, 17979214137393152), (46, 17803292276948992), (47, 17873661021126656), (48, 0), (49, 17451448556060672), (50, 16888498602639360), (51, 0), (52, 13510798882111488), (53, 9007199254740992)], 18014398509481983, [], none⟩)] (Try.f13.body.getD .skip) = some M13 := by kernel_rfl
theorem Run13 {args : List PV} {v : AV} {rs : List (Nat × List PV)} (ids : List Bool) (h : args.length ≤ 101) (hv : run Try.prog (retK [RV.tmp 2] ids v rs) M13 [] ⟨entry 0 args, []⟩) : Fn Try.prog 13 args v rs :=
  Fn_run ids (by kernel_rfl) Try.func13 (by decide) rfl mc13 (by kernel_rfl) (by rw [Try.ntmps13]; exact h) (by rw [Try.ntmps13]; decide) hv

/-- 'trystlaw10.InstExpires' -/
def M15 : MC := (.seq (.reg [⟨(some 1), none, (.box (.t 0))⟩, ⟨(some 2), none, (.q (.mv (.c (.bool false))))⟩] [] [1] [1]) (.seq (.seq (.grp [3, 1013, 1016] [⟨11, none, (.q (.fa (.t 1) 0)), [1], [1]⟩,
  ⟨12, none, (.q (.ld (.t 11) 4 true)), [11], [1]⟩, ⟨13, none, (.call (.f 17) [(.t 12)]), [12], []⟩, ⟨14, none, (.q (.fa (.t 1) 4)), [1], [1]⟩, ⟨15, none, (.q (.ld (.t 14) 1 false)), [14], [1]⟩, ⟨16,
  none, (.call (.f 34) [(.t 15)]), [15], []⟩, ⟨3, none, (.alloc [(.pv (.sc (.string ⟨#[]⟩))), (.pv (.sc (.int .i64 0))), (.pv (.sc (.int .i64 0))), (.pv (.sc (.int .i64 0)))]), [], []⟩] [1, 3, 4, 13,
  16] [1, 3, 1013, 1016]) (.reg [⟨none, none, (.st (.t 3) (.t 13) 4)⟩, ⟨(some 4), none, (.q (.mv (.t 16)))⟩] [] [1, 3, 4] [1, 3, 1013, 1016])) (.seq (.reg [⟨(some 18), none, (.q (.ld (.t 3) 4 true))⟩,
  ⟨(some 19), none, (.q (.mv (.t 4)))⟩, ⟨(some 20), none, (.q (.fa (.t 1) 11))⟩, ⟨(some 21), none, (.q (.ld (.t 20) 1 false))⟩, ⟨(some 22), none, (.call (.f 43) [(.t 18), (.t 19), (.t 21)])⟩,
  ⟨(some 17), none, (.q (.mv (.t 22)))⟩, ⟨(some 23), none, (.q (.ext (.t 17) 0))⟩, ⟨(some 24), none, (.q (.ext (.t 17) 1))⟩, ⟨(some 25), none, (.q (.ext (.t 17) 2))⟩, ⟨(some 5), none,
  (.q (.mv (.t 23)))⟩, ⟨(some 6), none, (.q (.mv (.t 24)))⟩, ⟨(some 7), none, (.q (.mv (.t 25)))⟩] [] [1, 3, 4, 5, 6, 7] [1, 3, 1013, 1016, 1022]) (.seq (.reg [⟨(some 27), none, (.q (.ld (.t 3)
  4 true))⟩, ⟨(some 28), none, (.q (.mv (.t 4)))⟩, ⟨(some 29), none, (.q (.fa (.t 1) 11))⟩, ⟨(some 30), none, (.q (.ld (.t 29) 1 false))⟩, ⟨(some 31), none, (.call (.f 44) [(.t 27), (.t 28),
  (.t 30)])⟩, ⟨(some 26), none, (.q (.mv (.t 31)))⟩, ⟨(some 32), none, (.q (.ext (.t 26) 0))⟩, ⟨(some 33), none, (.q (.ext (.t 26) 1))⟩, ⟨(some 34), none, (.q (.ext (.t 26) 2))⟩, ⟨(some 8), none,
  (.q (.mv (.t 32)))⟩, ⟨(some 9), none, (.q (.mv (.t 33)))⟩, ⟨(some 10), none, (.q (.mv (.t 34)))⟩] [] [5, 6, 7, 8, 9, 10] [1022, 1031]) (.seq (.reg [⟨(some 35), none, (.q (.mv (.t 5)))⟩, ⟨(some 36),
  none, (.q (.mv (.t 8)))⟩, ⟨(some 37), none, (.call (.f 35) [(.t 35), (.t 36)])⟩, ⟨(some 38), none, (.q (.mv (.t 37)))⟩, ⟨(some 39), (some (38, true)), (.q (.mv (.t 6)))⟩, ⟨(some 40), (some (38,
  true)), (.q (.mv (.t 9)))⟩, ⟨(some 41), (some (38, true)), (.call (.f 21) [(.t 39), (.t 40)])⟩, ⟨(some 42), none, (.q (.pick (.t 38) (.t 41) (.c (.bool false))))⟩, ⟨(some 43), none,
  (.q (.mv (.t 42)))⟩, ⟨(some 44), (some (43, true)), (.q (.mv (.t 7)))⟩, ⟨(some 45), (some (43, true)), (.q (.bin .eql (.t 44) (.c (.int .i64 0))))⟩, ⟨(some 46), (some (43, true)),
  (.q (.mv (.t 10)))⟩, ⟨(some 47), (some (43, true)), (.q (.beq false (.t 45) (.t 46)))⟩, ⟨(some 48), none, (.q (.pick (.t 43) (.t 47) (.c (.bool false))))⟩, ⟨(some 49), none, (.q (.mv (.t 48)))⟩,
  ⟨(some 50), (some (49, true)), (.q (.mv (.t 10)))⟩, ⟨(some 51), (some (49, true)), (.q (.mv (.t 50)))⟩, ⟨(some 52), (some (51, false)), (.q (.mv (.t 7)))⟩, ⟨(some 53), (some (51, false)),
  (.q (.bin .eql (.t 52) (.c (.int .i64 1))))⟩, ⟨(some 54), (some (49, true)), (.q (.pick (.t 51) (.c (.bool true)) (.t 53)))⟩, ⟨(some 55), none, (.q (.pick (.t 49) (.t 54) (.c (.bool false))))⟩,
  ⟨(some 56), none, (.q (.mv (.t 55)))⟩, ⟨(some 57), (some (56, true)), (.call (.f 33) [])⟩, ⟨(some 58), none, (.q (.pick (.t 56) (.t 57) (.c (.bool false))))⟩, ⟨(some 2), none,
  (.q (.mv (.t 58)))⟩] [] [2] [1022, 1031, 1037, 1041, 1057]) .ret)))))
theorem mc15 : ofCode Try.prog [] Try.f15.ntmps [(0, ⟨[1], [1], [], 0, [], none⟩),
    (1, ⟨[1, 3, 4], [1, 3, 1013, 1016], [(7, 0), (8, 256)], 383, [], some ⟨[3, 1013, 1016], [(0, [1], [1]), (1, [11], [1]), (2, [12], []), (3, [1], [1]), (4, [14], [1]), (5, [15], []), (6, [], [])], [1, 3, 4, 13, 16], [1, 3, 1013, 1016]⟩⟩),
    (2, ⟨[1, 3, 4, 5, 6, 7], [1, 3, 1013, 1016, 1022], [], 0, [], none⟩),
    (3, ⟨[5, 6, 7, 8, 9, 10], [1022, 1031], [], 0, [], none⟩),
    (4, ⟨[2], [1022, 1031, 1037, 1041, 1057], [], 0, [], none⟩)] (Try.f15.body.getD .skip) = some M15 := by kernel_rfl
theorem Run15 {args : List PV} {v : AV} {rs : List (Nat × List PV)} (ids : List Bool) (h : args.length ≤ 59) (hv : run Try.prog (retK [RV.tmp 2] ids v rs) M15 [] ⟨entry 0 args, []⟩) : Fn Try.prog 15 args v rs :=
  Fn_run ids (by kernel_rfl) Try.func15 (by decide) rfl mc15 (by kernel_rfl) (by rw [Try.ntmps15]; exact h) (by rw [Try.ntmps15]; decide) hv

/-- 'trystlaw10.InstWaits' -/
def B16_0 : MC := (.seq (.seq (.reg [⟨(some 28), none, (.q (.mv (.t 8)))⟩, ⟨(some 29), none, (.q (.mv (.t 7)))⟩, ⟨(some 30), none, (.q (.len (.t 29) false))⟩, ⟨(some 31), none, (.q (.bin .lss (.t 28)
  (.t 30)))⟩] [] [3, 4, 5, 6, 7, 8, 31] [3, 1017, 1020, 1027]) (.cond (.t 31) .skip (.exit 0))) (.seq (.block 1 (.reg [⟨(some 34), none, (.q (.mv (.t 5)))⟩, ⟨(some 35), none, (.q (.mv (.t 7)))⟩,
  ⟨(some 36), none, (.q (.mv (.t 8)))⟩, ⟨(some 37), none, (.q (.ia (.t 35) (.t 36) 3))⟩, ⟨(some 38), none, (.q (.fa (.t 37) 2))⟩, ⟨(some 39), none, (.q (.ld (.t 38) 1 false))⟩, ⟨(some 40), none,
  (.q (.mm false (.t 34) (.t 39)))⟩, ⟨(some 41), none, (.q (.mv (.t 6)))⟩, ⟨(some 42), none, (.q (.mv (.t 7)))⟩, ⟨(some 43), none, (.q (.mv (.t 8)))⟩, ⟨(some 44), none, (.q (.ia (.t 42) (.t 43) 3))⟩,
  ⟨(some 45), none, (.q (.fa (.t 44) 2))⟩, ⟨(some 46), none, (.q (.ld (.t 45) 1 false))⟩, ⟨(some 47), none, (.q (.mm true (.t 41) (.t 46)))⟩, ⟨(some 5), none, (.q (.mv (.t 40)))⟩, ⟨(some 6), none,
  (.q (.mv (.t 47)))⟩] [] [3, 4, 5, 6, 7, 8] [3, 1017, 1020, 1027])) (.reg [⟨(some 32), none, (.q (.mv (.t 8)))⟩, ⟨(some 33), none, (.q (.bin .add (.t 32) (.c (.int .i64 1))))⟩, ⟨(some 8), none,
  (.q (.mv (.t 33)))⟩] [] [3, 4, 5, 6, 7, 8] [3, 1017, 1020, 1027])))
def R16_0 : MC := (.seq (.seq (.reg [⟨(some 48), none, (.q (.mv (.t 7)))⟩, ⟨(some 49), none, (.q (.len (.t 48) false))⟩, ⟨(some 50), none, (.q (.bin .eql (.t 49) (.c (.int .i64 0))))⟩, ⟨(some 51),
  none, (.q (.mv (.t 50)))⟩, ⟨(some 52), (some (51, false)), (.q (.mv (.t 6)))⟩, ⟨(some 53), (some (51, false)), (.q (.fa (.t 3) 3))⟩, ⟨(some 54), (some (51, false)), (.q (.ld (.t 53) 1 false))⟩,
  ⟨(some 55), (some (51, false)), (.q (.bin .add (.t 52) (.t 54)))⟩, ⟨(some 56), (some (51, false)), (.q (.bin .add (.t 55) (.c (.int .i64 1))))⟩, ⟨(some 57), (some (51, false)),
  (.q (.bin .gtr (.t 56) (.c (.int .i64 1099511627775))))⟩, ⟨(some 58), none, (.q (.pick (.t 51) (.c (.bool true)) (.t 57)))⟩] [] [3, 4, 5, 6, 7, 58] [3, 1017, 1020, 1027]) (.cond (.t 58)
  (.seq (.reg [⟨(some 59), none, (.call (.f 33) [])⟩, ⟨(some 2), none, (.q (.mv (.t 59)))⟩] [] [2] [1025, 1059, 1092, 1100, 1106, 1117]) .ret) .skip)) (.seq (.reg [⟨(some 61), none, (.q (.ld (.t 3)
  4 true))⟩, ⟨(some 62), none, (.q (.mv (.t 4)))⟩, ⟨(some 63), none, (.q (.mv (.t 6)))⟩, ⟨(some 64), none, (.q (.fa (.t 3) 3))⟩, ⟨(some 65), none, (.q (.ld (.t 64) 1 false))⟩, ⟨(some 66), none,
  (.q (.bin .add (.t 63) (.t 65)))⟩, ⟨(some 67), none, (.q (.bin .add (.t 66) (.c (.int .i64 1))))⟩, ⟨(some 68), none, (.call (.f 43) [(.t 61), (.t 62), (.t 67)])⟩, ⟨(some 60), none,
  (.q (.mv (.t 68)))⟩, ⟨(some 69), none, (.q (.ext (.t 60) 0))⟩, ⟨(some 70), none, (.q (.ext (.t 60) 1))⟩, ⟨(some 71), none, (.q (.ext (.t 60) 2))⟩, ⟨(some 9), none, (.q (.mv (.t 69)))⟩, ⟨(some 10),
  none, (.q (.mv (.t 70)))⟩, ⟨(some 11), none, (.q (.mv (.t 71)))⟩] [] [3, 4, 5, 6, 7, 9, 10, 11] [3, 1017, 1020, 1027, 1068]) (.seq (.seq (.reg [⟨(some 72), none, (.q (.mv (.t 9)))⟩, ⟨(some 73),
  none, (.q (.len (.t 72) false))⟩, ⟨(some 74), none, (.q (.bin .neq (.t 73) (.c (.int .i64 0))))⟩, ⟨(some 75), none, (.q (.mv (.t 74)))⟩, ⟨(some 76), (some (75, false)), (.q (.mv (.t 10)))⟩,
  ⟨(some 77), (some (75, false)), (.q (.len (.t 76) false))⟩, ⟨(some 78), (some (75, false)), (.q (.mv (.t 7)))⟩, ⟨(some 79), (some (75, false)), (.q (.len (.t 78) false))⟩, ⟨(some 80), (some (75,
  false)), (.q (.bin .neq (.t 77) (.t 79)))⟩, ⟨(some 81), none, (.q (.pick (.t 75) (.c (.bool true)) (.t 80)))⟩, ⟨(some 82), none, (.q (.mv (.t 81)))⟩, ⟨(some 83), (some (82, false)),
  (.q (.mv (.t 11)))⟩, ⟨(some 84), (some (82, false)), (.q (.bin .neq (.t 83) (.c (.int .i64 0))))⟩, ⟨(some 85), none, (.q (.pick (.t 82) (.c (.bool true)) (.t 84)))⟩] [] [3, 4, 5, 6, 85] [3, 1017,
  1020, 1068]) (.cond (.t 85) (.seq (.reg [⟨(some 2), none, (.q (.mv (.c (.bool false))))⟩] [] [2] [1025, 1059, 1092, 1100, 1106, 1117]) .ret) .skip)) (.seq (.seq (.reg [⟨(some 86), none,
  (.q (.mv (.t 6)))⟩, ⟨(some 87), none, (.q (.mv (.t 5)))⟩, ⟨(some 88), none, (.q (.fa (.t 3) 3))⟩, ⟨(some 89), none, (.q (.ld (.t 88) 1 false))⟩, ⟨(some 90), none, (.q (.bin .add (.t 87) (.t 89)))⟩,
  ⟨(some 91), none, (.q (.bin .gtr (.t 86) (.t 90)))⟩] [] [3, 4, 5, 91] [3, 1017, 1020]) (.cond (.t 91) (.seq (.reg [⟨(some 92), none, (.call (.f 33) [])⟩, ⟨(some 2), none,
  (.q (.mv (.t 92)))⟩] [] [2] [1025, 1059, 1092, 1100, 1106, 1117]) .ret) .skip)) (.seq (.reg [⟨(some 94), none, (.q (.ld (.t 3) 4 true))⟩, ⟨(some 95), none, (.q (.mv (.t 4)))⟩, ⟨(some 96), none,
  (.q (.mv (.t 5)))⟩, ⟨(some 97), none, (.q (.fa (.t 3) 3))⟩, ⟨(some 98), none, (.q (.ld (.t 97) 1 false))⟩, ⟨(some 99), none, (.q (.bin .add (.t 96) (.t 98)))⟩, ⟨(some 100), none, (.call (.f 43)
  [(.t 94), (.t 95), (.t 99)])⟩, ⟨(some 93), none, (.q (.mv (.t 100)))⟩, ⟨(some 101), none, (.q (.ext (.t 93) 0))⟩, ⟨(some 102), none, (.q (.ext (.t 93) 1))⟩, ⟨(some 103), none, (.q (.ext (.t 93)
  2))⟩, ⟨(some 12), none, (.q (.mv (.t 101)))⟩, ⟨(some 13), none, (.q (.mv (.t 102)))⟩, ⟨(some 14), none, (.q (.mv (.t 103)))⟩] [] [4, 12, 13, 14] [1020, 1100]) (.seq (.reg [⟨(some 104), none,
  (.q (.mv (.t 12)))⟩, ⟨(some 105), none, (.q (.mv (.t 4)))⟩, ⟨(some 106), none, (.call (.f 35) [(.t 104), (.t 105)])⟩, ⟨(some 107), none, (.q (.mv (.t 106)))⟩, ⟨(some 108), (some (107, true)),
  (.q (.mv (.t 13)))⟩, ⟨(some 109), (some (107, true)), (.q (.len (.t 108) false))⟩, ⟨(some 110), (some (107, true)), (.q (.bin .eql (.t 109) (.c (.int .i64 0))))⟩, ⟨(some 111), none,
  (.q (.pick (.t 107) (.t 110) (.c (.bool false))))⟩, ⟨(some 112), none, (.q (.mv (.t 111)))⟩, ⟨(some 113), (some (112, true)), (.q (.mv (.t 14)))⟩, ⟨(some 114), (some (112, true)),
  (.q (.bin .eql (.t 113) (.c (.int .i64 0))))⟩, ⟨(some 115), none, (.q (.pick (.t 112) (.t 114) (.c (.bool false))))⟩, ⟨(some 116), none, (.q (.mv (.t 115)))⟩, ⟨(some 117), (some (116, true)),
  (.call (.f 33) [])⟩, ⟨(some 118), none, (.q (.pick (.t 116) (.t 117) (.c (.bool false))))⟩, ⟨(some 2), none, (.q (.mv (.t 118)))⟩] [] [2] [1025, 1059, 1092, 1100, 1106, 1117]) .ret))))))
def M16 : MC := (.seq (.reg [⟨(some 1), none, (.box (.t 0))⟩, ⟨(some 2), none, (.q (.mv (.c (.bool false))))⟩] [] [1] [1]) (.seq (.seq (.grp [3, 1017, 1020] [⟨15, none, (.q (.fa (.t 1) 0)), [1], [1]⟩,
  ⟨16, none, (.q (.ld (.t 15) 4 true)), [15], [1]⟩, ⟨17, none, (.call (.f 17) [(.t 16)]), [16], []⟩, ⟨18, none, (.q (.fa (.t 1) 4)), [1], [1]⟩, ⟨19, none, (.q (.ld (.t 18) 1 false)), [18], [1]⟩, ⟨20,
  none, (.call (.f 34) [(.t 19)]), [19], []⟩, ⟨3, none, (.alloc [(.pv (.sc (.string ⟨#[]⟩))), (.pv (.sc (.int .i64 0))), (.pv (.sc (.int .i64 0))), (.pv (.sc (.int .i64 0)))]), [], []⟩] [3, 4, 17,
  20] [3, 1017, 1020]) (.reg [⟨none, none, (.st (.t 3) (.t 17) 4)⟩, ⟨(some 4), none, (.q (.mv (.t 20)))⟩] [] [3, 4] [3, 1017, 1020])) (.seq (.seq (.reg [⟨(some 21), none, (.q (.ld (.t 3) 4 true))⟩,
  ⟨(some 22), none, (.q (.mv (.t 4)))⟩, ⟨(some 23), none, (.call (.f 37) [(.t 21), (.t 22)])⟩, ⟨(some 24), none, (.q (.bin .neq (.t 23) (.c (.int .i64 0))))⟩] [] [3, 4, 24] [3, 1017, 1020, 1023])
  (.cond (.t 24) (.seq (.reg [⟨(some 25), none, (.call (.f 33) [])⟩, ⟨(some 2), none, (.q (.mv (.t 25)))⟩] [] [2] [1025, 1059, 1092, 1100, 1106, 1117]) .ret) .skip)) (.seq (.reg [⟨(some 5), none,
  (.q (.mv (.c (.int .i64 1099511627775))))⟩, ⟨(some 6), none, (.q (.mv (.c (.int .i64 0))))⟩] [] [3, 4, 5, 6] [3, 1017, 1020]) (.seq (.reg [⟨(some 26), none, (.q (.mv (.t 4)))⟩, ⟨(some 27), none,
  (.call (.f 32) [(.t 26)])⟩, ⟨(some 7), none, (.q (.mv (.t 27)))⟩] [] [3, 4, 5, 6, 7] [3, 1017, 1020, 1027]) (.seq (.seq (.reg [⟨(some 8), none, (.q (.mv (.c (.int .i64 0))))⟩] [] [3, 4, 5, 6, 7,
  8] [3, 1017, 1020, 1027]) (.block 0 (.loop B16_0))) R16_0))))))
theorem mc16 : ofCode Try.prog [] Try.f16.ntmps [(0, ⟨[1], [1], [], 0, [], none⟩),
    (1, ⟨[3, 4], [3, 1017, 1020], [(7, 0), (8, 256)], 383, [], some ⟨[3, 1017, 1020], [(0, [1], [1]), (1, [15], [1]), (2, [16], []), (3, [1], [1]), (4, [18], [1]), (5, [19], []), (6, [], [])], [3, 4, 17, 20], [3, 1017, 1020]⟩⟩),
    (2, ⟨[3, 4, 24], [3, 1017, 1020, 1023], [], 0, [], none⟩),
    (3, ⟨[2], [1025, 1059, 1092, 1100, 1106, 1117], [], 0, [], none⟩),
    (4, ⟨[3, 4, 5, 6], [3, 1017, 1020], [], 0, [], none⟩),
    (5, ⟨[3, 4, 5, 6, 7], [3, 1017, 1020, 1027], [], 0, [], none⟩),
    (6, ⟨[3, 4, 5, 6, 7, 8], [3, 1017, 1020, 1027], [], 0, [], none⟩),
    (7, ⟨[3, 4, 5, 6, 7, 8, 31], [3, 1017, 1020, 1027], [], 0, [], none⟩),
    (8, ⟨[3, 4, 5, 6, 7, 8], [3, 1017, 1020, 1027], [], 0, [], none⟩),
    (9, ⟨[3, 4, 5, 6, 7, 8], [3, 1017, 1020, 1027], [(0, 49217), (1, 49274), (2, 49276), (3, 49272), (4, 49264), (5, 49248), (6, 49216), (7, 41088), (8, 48384), (9, 48640), (10, 48128), (11, 47104), (12, 45056), (13, 40960), (14, 49152), (15, 32768)], 65535, [], none⟩),
    (10, ⟨[3, 4, 5, 6, 7, 58], [3, 1017, 1020, 1027], [], 0, [], none⟩),
    (11, ⟨[2], [1025, 1059, 1092, 1100, 1106, 1117], [], 0, [], none⟩),
    (12, ⟨[3, 4, 5, 6, 7, 9, 10, 11], [3, 1017, 1020, 1027, 1068], [], 0, [], none⟩),
    (13, ⟨[3, 4, 5, 6, 85], [3, 1017, 1020, 1068], [], 0, [], none⟩),
    (14, ⟨[2], [1025, 1059, 1092, 1100, 1106, 1117], [], 0, [], none⟩),
    (15, ⟨[3, 4, 5, 91], [3, 1017, 1020], [], 0, [], none⟩),
    (16, ⟨[2], [1025, 1059, 1092, 1100, 1106, 1117], [], 0, [], none⟩),
    (17, ⟨[4, 12, 13, 14], [1020, 1100], [], 0, [], none⟩),
    (18, ⟨[2], [1025, 1059, 1092, 1100, 1106, 1117], [], 0, [], none⟩)] (Try.f16.body.getD .skip) = some M16 := by kernel_rfl
theorem Run16 {args : List PV} {v : AV} {rs : List (Nat × List PV)} (ids : List Bool) (h : args.length ≤ 119) (hv : run Try.prog (retK [RV.tmp 2] ids v rs) M16 [] ⟨entry 0 args, []⟩) : Fn Try.prog 16 args v rs :=
  Fn_run ids (by kernel_rfl) Try.func16 (by decide) rfl mc16 (by kernel_rfl) (by rw [Try.ntmps16]; exact h) (by rw [Try.ntmps16]; decide) hv

end Go.Vc

namespace Go.Vc
open Go.Proofs
set_option linter.unusedSimpArgs false
set_option linter.unusedVariables false

structure Fd where
  j : Jn
  l : List In
  key : Vl
  x : Kp
  now : Int
abbrev Fd.pv (q : Fd) : PV := .agg [pS q.j.kind, pI q.j.parts, pI q.j.need, pI q.j.window, ins q.l, pB q.key.num, pI q.key.n, pS q.key.s, pI q.x.part, pU q.x.id, pI q.x.at_, pI q.now]
theorem vfew_two (v : Vl) : vfew (vfew v) = vfew v := by
  unfold vfew
  by_cases h : 70 < v.s.size
  · simp only [h, if_true]
    have : (v.s.extract 0 70).size = 70 := by rw [ByteArray.size_extract]; omega
    simp [this]
  · simp [h]
theorem fewI_two (l : List In) : fewI (fewI l) = fewI l := by
  unfold fewI
  rw [← List.map_take, List.take_take, Nat.min_self, List.map_map]
  refine List.map_congr_left fun x _ => ?_
  simp [fewOne, vfew_two, List.take_take]
theorem fewI_lt (l : List In) : (fewI l).length ≤ 41 ∧ ∀ y ∈ fewI l, y.l.length ≤ 31 := by
  unfold fewI
  refine ⟨by rw [List.length_map, List.length_take]; omega, fun y hy => ?_⟩
  obtain ⟨x, _, rfl⟩ := List.mem_map.1 hy
  simp only [fewOne, List.length_take]
  omega
theorem feedI_lt (j : Jn) (l : List In) (key : Vl) (x : Kp) (h1 : l.length ≤ 1000) (h2 : ∀ y ∈ l, y.l.length ≤ 1000) :
    (feedI j l key x).ins_.length ≤ 40 ∧ (∀ y ∈ (feedI j l key x).ins_, y.l.length ≤ 30) ∧ (feedI j l key x).fired.length ≤ 1001 ∧ (feedI j l key x).over.length ≤ 1001 := by
  by_cases he : (feedI j l key x).err = 0
  · have f := feedI_ok.1 he
    have hn := f.next.lt
    have hw : (waitsI l key).length ≤ 1000 := by
      unfold waitsI
      split
      · rcases findI_lt l key with h | ⟨n, hn, hnl⟩
        · omega
        · rw [hn, Int.toNat_natCast, getI hnl]
          exact h2 _ (List.getElem_mem hnl)
      · simp
    have hr := feedR_len j (waitsI l key) x
    refine ⟨by omega, fun y hy => by have := hn.2 y hy; omega, ?_, ?_⟩
    · rw [feedI_is f]; simp only; omega
    · rw [feedI_is f]; simp only; omega
  · have : (feedI j l key x).ins_ = [] ∧ (feedI j l key x).fired = [] ∧ (feedI j l key x).over = [] := by
      unfold feedI at he ⊢
      repeat' split
      all_goals first | exact ⟨rfl, rfl, rfl⟩ | skip
      rename_i h1 h2 h3 h4 h5
      rw [if_neg h1, if_neg h2, if_neg h3, if_neg h4, if_neg h5] at he
      exact absurd rfl he
    rw [this.1, this.2.1, this.2.2]
    exact ⟨by simp, fun y hy => (by cases hy), by simp, by simp⟩
theorem errN_eq (b : Bool) : decide (errN b = 0) = b := by cases b <;> simp [errN]
set_option maxHeartbeats 1000000 in
theorem law13 (q : Fd) (hl : q.l.length ≤ 9223372036854775807) (hk : ∀ x ∈ q.l, x.l.length ≤ 9223372036854775807) : Fn Try.prog 13 [q.pv] (.pv (pB true)) [] := by
  refine Run13 [] (by simp) ?_
  simp only [go_sem, Nat.reduceEqDiff, Nat.reduceBEq, Nat.reduceAdd, Nat.reduceMul, Nat.reduceSub, Nat.reduceLeDiff, Nat.reduceLT, reduceIte, reduceCtorEq, Int.reduceToNat, Int.reduceLE, Int.reduceLT, Int.reduceNeg, Bool.not_not, and_self, Bool.and_eq_false_iff, Int.cast_ofNat_Int, Int.reduceAdd, Int.reduceSub, Int.reduceMul, Int.reduceEq, Int.reduceNe, M13]
  refine runG_callf (by simp only [go_sem, Nat.reduceEqDiff, Nat.reduceBEq, Nat.reduceAdd, Nat.reduceMul, Nat.reduceSub, Nat.reduceLeDiff, Nat.reduceLT, reduceIte, reduceCtorEq, Int.reduceToNat, Int.reduceLE, Int.reduceLT, Int.reduceNeg, Bool.not_not, and_self, Bool.and_eq_false_iff, Int.cast_ofNat_Int, Int.reduceAdd, Int.reduceSub, Int.reduceMul, Int.reduceEq, Int.reduceNe]) (by simp only [go_sem, Nat.reduceEqDiff, Nat.reduceBEq, Nat.reduceAdd, Nat.reduceMul, Nat.reduceSub, Nat.reduceLeDiff, Nat.reduceLT, reduceIte, reduceCtorEq, Int.reduceToNat, Int.reduceLE, Int.reduceLT, Int.reduceNeg, Bool.not_not, and_self, Bool.and_eq_false_iff, Int.cast_ofNat_Int, Int.reduceAdd, Int.reduceSub, Int.reduceMul, Int.reduceEq, Int.reduceNe]) (fn17 q.j) ⟨rfl, trivial⟩ trivial ?_
  simp only [go_sem, Nat.reduceEqDiff, Nat.reduceBEq, Nat.reduceAdd, Nat.reduceMul, Nat.reduceSub, Nat.reduceLeDiff, Nat.reduceLT, reduceIte, reduceCtorEq, Int.reduceToNat, Int.reduceLE, Int.reduceLT, Int.reduceNeg, Bool.not_not, and_self, Bool.and_eq_false_iff, Int.cast_ofNat_Int, Int.reduceAdd, Int.reduceSub, Int.reduceMul, Int.reduceEq, Int.reduceNe]
  refine runG_call (by simp only [go_sem, Nat.reduceEqDiff, Nat.reduceBEq, Nat.reduceAdd, Nat.reduceMul, Nat.reduceSub, Nat.reduceLeDiff, Nat.reduceLT, reduceIte, reduceCtorEq, Int.reduceToNat, Int.reduceLE, Int.reduceLT, Int.reduceNeg, Bool.not_not, and_self, Bool.and_eq_false_iff, Int.cast_ofNat_Int, Int.reduceAdd, Int.reduceSub, Int.reduceMul, Int.reduceEq, Int.reduceNe]) rfl (fn34 q.l hl hk) (.inl rfl) trivial ?_
  simp only [go_sem, Nat.reduceEqDiff, Nat.reduceBEq, Nat.reduceAdd, Nat.reduceMul, Nat.reduceSub, Nat.reduceLeDiff, Nat.reduceLT, reduceIte, reduceCtorEq, Int.reduceToNat, Int.reduceLE, Int.reduceLT, Int.reduceNeg, Bool.not_not, and_self, Bool.and_eq_false_iff, Int.cast_ofNat_Int, Int.reduceAdd, Int.reduceSub, Int.reduceMul, Int.reduceEq, Int.reduceNe]
  refine runG_callf (by simp only [go_sem, Nat.reduceEqDiff, Nat.reduceBEq, Nat.reduceAdd, Nat.reduceMul, Nat.reduceSub, Nat.reduceLeDiff, Nat.reduceLT, reduceIte, reduceCtorEq, Int.reduceToNat, Int.reduceLE, Int.reduceLT, Int.reduceNeg, Bool.not_not, and_self, Bool.and_eq_false_iff, Int.cast_ofNat_Int, Int.reduceAdd, Int.reduceSub, Int.reduceMul, Int.reduceEq, Int.reduceNe]) (by simp only [go_sem, Nat.reduceEqDiff, Nat.reduceBEq, Nat.reduceAdd, Nat.reduceMul, Nat.reduceSub, Nat.reduceLeDiff, Nat.reduceLT, reduceIte, reduceCtorEq, Int.reduceToNat, Int.reduceLE, Int.reduceLT, Int.reduceNeg, Bool.not_not, and_self, Bool.and_eq_false_iff, Int.cast_ofNat_Int, Int.reduceAdd, Int.reduceSub, Int.reduceMul, Int.reduceEq, Int.reduceNe]) (fn29 q.key) ⟨rfl, trivial⟩ trivial ?_
  simp only [go_sem, Nat.reduceEqDiff, Nat.reduceBEq, Nat.reduceAdd, Nat.reduceMul, Nat.reduceSub, Nat.reduceLeDiff, Nat.reduceLT, reduceIte, reduceCtorEq, Int.reduceToNat, Int.reduceLE, Int.reduceLT, Int.reduceNeg, Bool.not_not, and_self, Bool.and_eq_false_iff, Int.cast_ofNat_Int, Int.reduceAdd, Int.reduceSub, Int.reduceMul, Int.reduceEq, Int.reduceNe]
  have h1 := fewI_lt q.l
  have h2 := fewI_two q.l
  generalize fewI q.l = l at *
  generalize kindOf q.j = j
  generalize vfew q.key = key
  refine runR_call (by simp only [go_sem, Nat.reduceEqDiff, Nat.reduceBEq, Nat.reduceAdd, Nat.reduceMul, Nat.reduceSub, Nat.reduceLeDiff, Nat.reduceLT, reduceIte, reduceCtorEq, Int.reduceToNat, Int.reduceLE, Int.reduceLT, Int.reduceNeg, Bool.not_not, and_self, Bool.and_eq_false_iff, Int.cast_ofNat_Int, Int.reduceAdd, Int.reduceSub, Int.reduceMul, Int.reduceEq, Int.reduceNe]) rfl (fn34 l (by omega) (fun y hy => by have := h1.2 y hy; omega)) (.inl rfl) trivial ?_
  simp only [go_sem, Nat.reduceEqDiff, Nat.reduceBEq, Nat.reduceAdd, Nat.reduceMul, Nat.reduceSub, Nat.reduceLeDiff, Nat.reduceLT, reduceIte, reduceCtorEq, Int.reduceToNat, Int.reduceLE, Int.reduceLT, Int.reduceNeg, Bool.not_not, and_self, Bool.and_eq_false_iff, Int.cast_ofNat_Int, Int.reduceAdd, Int.reduceSub, Int.reduceMul, Int.reduceEq, Int.reduceNe, h2]
  have hlt := feedI_lt j l key q.x (by omega) (fun y hy => by have := h1.2 y hy; omega)
  refine runR_call (by simp only [go_sem, Nat.reduceEqDiff, Nat.reduceBEq, Nat.reduceAdd, Nat.reduceMul, Nat.reduceSub, Nat.reduceLeDiff, Nat.reduceLT, reduceIte, reduceCtorEq, Int.reduceToNat, Int.reduceLE, Int.reduceLT, Int.reduceNeg, Bool.not_not, and_self, Bool.and_eq_false_iff, Int.cast_ofNat_Int, Int.reduceAdd, Int.reduceSub, Int.reduceMul, Int.reduceEq, Int.reduceNe]) rfl (fn30 j l key q.x (by omega) (fun y hy => by have := h1.2 y hy; omega)) (.inl rfl) trivial ?_
  simp only [go_sem, Nat.reduceEqDiff, Nat.reduceBEq, Nat.reduceAdd, Nat.reduceMul, Nat.reduceSub, Nat.reduceLeDiff, Nat.reduceLT, reduceIte, reduceCtorEq, Int.reduceToNat, Int.reduceLE, Int.reduceLT, Int.reduceNeg, Bool.not_not, and_self, Bool.and_eq_false_iff, Int.cast_ofNat_Int, Int.reduceAdd, Int.reduceSub, Int.reduceMul, Int.reduceEq, Int.reduceNe]
  refine runR_call (by simp only [go_sem, Nat.reduceEqDiff, Nat.reduceBEq, Nat.reduceAdd, Nat.reduceMul, Nat.reduceSub, Nat.reduceLeDiff, Nat.reduceLT, reduceIte, reduceCtorEq, Int.reduceToNat, Int.reduceLE, Int.reduceLT, Int.reduceNeg, Bool.not_not, and_self, Bool.and_eq_false_iff, Int.cast_ofNat_Int, Int.reduceAdd, Int.reduceSub, Int.reduceMul, Int.reduceEq, Int.reduceNe]) rfl (fn36' j l key q.x (by omega) (fun y hy => by have := h1.2 y hy; omega)) (.inl rfl) trivial ?_
  simp only [go_sem, Nat.reduceEqDiff, Nat.reduceBEq, Nat.reduceAdd, Nat.reduceMul, Nat.reduceSub, Nat.reduceLeDiff, Nat.reduceLT, reduceIte, reduceCtorEq, Int.reduceToNat, Int.reduceLE, Int.reduceLT, Int.reduceNeg, Bool.not_not, and_self, Bool.and_eq_false_iff, Int.cast_ofNat_Int, Int.reduceAdd, Int.reduceSub, Int.reduceMul, Int.reduceEq, Int.reduceNe]
  generalize feedI j l key q.x = r at *
  refine runR_callf (by simp only [go_sem, Nat.reduceEqDiff, Nat.reduceBEq, Nat.reduceAdd, Nat.reduceMul, Nat.reduceSub, Nat.reduceLeDiff, Nat.reduceLT, reduceIte, reduceCtorEq, Int.reduceToNat, Int.reduceLE, Int.reduceLT, Int.reduceNeg, Bool.not_not, and_self, Bool.and_eq_false_iff, Int.cast_ofNat_Int, Int.reduceAdd, Int.reduceSub, Int.reduceMul, Int.reduceEq, Int.reduceNe]) (by simp only [go_sem, Nat.reduceEqDiff, Nat.reduceBEq, Nat.reduceAdd, Nat.reduceMul, Nat.reduceSub, Nat.reduceLeDiff, Nat.reduceLT, reduceIte, reduceCtorEq, Int.reduceToNat, Int.reduceLE, Int.reduceLT, Int.reduceNeg, Bool.not_not, and_self, Bool.and_eq_false_iff, Int.cast_ofNat_Int, Int.reduceAdd, Int.reduceSub, Int.reduceMul, Int.reduceEq, Int.reduceNe]) (fn35 r.ins_ r.ins_ (by omega) (by omega) (fun y hy => by have := hlt.2.1 y hy; omega) (fun y hy => by have := hlt.2.1 y hy; omega)) ⟨rfl, trivial⟩ trivial ?_
  simp only [go_sem, Nat.reduceEqDiff, Nat.reduceBEq, Nat.reduceAdd, Nat.reduceMul, Nat.reduceSub, Nat.reduceLeDiff, Nat.reduceLT, reduceIte, reduceCtorEq, Int.reduceToNat, Int.reduceLE, Int.reduceLT, Int.reduceNeg, Bool.not_not, and_self, Bool.and_eq_false_iff, Int.cast_ofNat_Int, Int.reduceAdd, Int.reduceSub, Int.reduceMul, Int.reduceEq, Int.reduceNe]
  refine runR_callgf (by simp only [go_sem, Nat.reduceEqDiff, Nat.reduceBEq, Nat.reduceAdd, Nat.reduceMul, Nat.reduceSub, Nat.reduceLeDiff, Nat.reduceLT, reduceIte, reduceCtorEq, Int.reduceToNat, Int.reduceLE, Int.reduceLT, Int.reduceNeg, Bool.not_not, and_self, Bool.and_eq_false_iff, Int.cast_ofNat_Int, Int.reduceAdd, Int.reduceSub, Int.reduceMul, Int.reduceEq, Int.reduceNe]) (by simp only [go_sem, Nat.reduceEqDiff, Nat.reduceBEq, Nat.reduceAdd, Nat.reduceMul, Nat.reduceSub, Nat.reduceLeDiff, Nat.reduceLT, reduceIte, reduceCtorEq, Int.reduceToNat, Int.reduceLE, Int.reduceLT, Int.reduceNeg, Bool.not_not, and_self, Bool.and_eq_false_iff, Int.cast_ofNat_Int, Int.reduceAdd, Int.reduceSub, Int.reduceMul, Int.reduceEq, Int.reduceNe]) (by simp only [go_sem, Nat.reduceEqDiff, Nat.reduceBEq, Nat.reduceAdd, Nat.reduceMul, Nat.reduceSub, Nat.reduceLeDiff, Nat.reduceLT, reduceIte, reduceCtorEq, Int.reduceToNat, Int.reduceLE, Int.reduceLT, Int.reduceNeg, Bool.not_not, and_self, Bool.and_eq_false_iff, Int.cast_ofNat_Int, Int.reduceAdd, Int.reduceSub, Int.reduceMul, Int.reduceEq, Int.reduceNe]) (fun _ => fn21 r.fired r.fired (by omega) (by omega)) rfl ?_
  simp only [go_sem, Nat.reduceEqDiff, Nat.reduceBEq, Nat.reduceAdd, Nat.reduceMul, Nat.reduceSub, Nat.reduceLeDiff, Nat.reduceLT, reduceIte, reduceCtorEq, Int.reduceToNat, Int.reduceLE, Int.reduceLT, Int.reduceNeg, Bool.not_not, and_self, Bool.and_eq_false_iff, Int.cast_ofNat_Int, Int.reduceAdd, Int.reduceSub, Int.reduceMul, Int.reduceEq, Int.reduceNe]
  refine runR_callgf (by simp only [go_sem, Nat.reduceEqDiff, Nat.reduceBEq, Nat.reduceAdd, Nat.reduceMul, Nat.reduceSub, Nat.reduceLeDiff, Nat.reduceLT, reduceIte, reduceCtorEq, Int.reduceToNat, Int.reduceLE, Int.reduceLT, Int.reduceNeg, Bool.not_not, and_self, Bool.and_eq_false_iff, Int.cast_ofNat_Int, Int.reduceAdd, Int.reduceSub, Int.reduceMul, Int.reduceEq, Int.reduceNe]) (by simp only [go_sem, Nat.reduceEqDiff, Nat.reduceBEq, Nat.reduceAdd, Nat.reduceMul, Nat.reduceSub, Nat.reduceLeDiff, Nat.reduceLT, reduceIte, reduceCtorEq, Int.reduceToNat, Int.reduceLE, Int.reduceLT, Int.reduceNeg, Bool.not_not, and_self, Bool.and_eq_false_iff, Int.cast_ofNat_Int, Int.reduceAdd, Int.reduceSub, Int.reduceMul, Int.reduceEq, Int.reduceNe]) (by simp only [go_sem, Nat.reduceEqDiff, Nat.reduceBEq, Nat.reduceAdd, Nat.reduceMul, Nat.reduceSub, Nat.reduceLeDiff, Nat.reduceLT, reduceIte, reduceCtorEq, Int.reduceToNat, Int.reduceLE, Int.reduceLT, Int.reduceNeg, Bool.not_not, and_self, Bool.and_eq_false_iff, Int.cast_ofNat_Int, Int.reduceAdd, Int.reduceSub, Int.reduceMul, Int.reduceEq, Int.reduceNe]) (fun _ => fn21 r.over r.over (by omega) (by omega)) rfl ?_
  simp only [go_sem, Nat.reduceEqDiff, Nat.reduceBEq, Nat.reduceAdd, Nat.reduceMul, Nat.reduceSub, Nat.reduceLeDiff, Nat.reduceLT, reduceIte, reduceCtorEq, Int.reduceToNat, Int.reduceLE, Int.reduceLT, Int.reduceNeg, Bool.not_not, and_self, Bool.and_eq_false_iff, Int.cast_ofNat_Int, Int.reduceAdd, Int.reduceSub, Int.reduceMul, Int.reduceEq, Int.reduceNe]
  refine runR_callgf (by simp only [go_sem, Nat.reduceEqDiff, Nat.reduceBEq, Nat.reduceAdd, Nat.reduceMul, Nat.reduceSub, Nat.reduceLeDiff, Nat.reduceLT, reduceIte, reduceCtorEq, Int.reduceToNat, Int.reduceLE, Int.reduceLT, Int.reduceNeg, Bool.not_not, and_self, Bool.and_eq_false_iff, Int.cast_ofNat_Int, Int.reduceAdd, Int.reduceSub, Int.reduceMul, Int.reduceEq, Int.reduceNe]) (by simp only [go_sem, Nat.reduceEqDiff, Nat.reduceBEq, Nat.reduceAdd, Nat.reduceMul, Nat.reduceSub, Nat.reduceLeDiff, Nat.reduceLT, reduceIte, reduceCtorEq, Int.reduceToNat, Int.reduceLE, Int.reduceLT, Int.reduceNeg, Bool.not_not, and_self, Bool.and_eq_false_iff, Int.cast_ofNat_Int, Int.reduceAdd, Int.reduceSub, Int.reduceMul, Int.reduceEq, Int.reduceNe]) (by simp only [go_sem, Nat.reduceEqDiff, Nat.reduceBEq, Nat.reduceAdd, Nat.reduceMul, Nat.reduceSub, Nat.reduceLeDiff, Nat.reduceLT, reduceIte, reduceCtorEq, Int.reduceToNat, Int.reduceLE, Int.reduceLT, Int.reduceNeg, Bool.not_not, and_self, Bool.and_eq_false_iff, Int.cast_ofNat_Int, Int.reduceAdd, Int.reduceSub, Int.reduceMul, Int.reduceEq, Int.reduceNe]) (fun _ => fn37 j l (by omega) (fun y hy => by have := h1.2 y hy; omega)) rfl ?_
  simp only [go_sem, Nat.reduceEqDiff, Nat.reduceBEq, Nat.reduceAdd, Nat.reduceMul, Nat.reduceSub, Nat.reduceLeDiff, Nat.reduceLT, reduceIte, reduceCtorEq, Int.reduceToNat, Int.reduceLE, Int.reduceLT, Int.reduceNeg, Bool.not_not, and_self, Bool.and_eq_false_iff, Int.cast_ofNat_Int, Int.reduceAdd, Int.reduceSub, Int.reduceMul, Int.reduceEq, Int.reduceNe, errN_eq]
  refine runR_callgf (by simp only [go_sem, Nat.reduceEqDiff, Nat.reduceBEq, Nat.reduceAdd, Nat.reduceMul, Nat.reduceSub, Nat.reduceLeDiff, Nat.reduceLT, reduceIte, reduceCtorEq, Int.reduceToNat, Int.reduceLE, Int.reduceLT, Int.reduceNeg, Bool.not_not, and_self, Bool.and_eq_false_iff, Int.cast_ofNat_Int, Int.reduceAdd, Int.reduceSub, Int.reduceMul, Int.reduceEq, Int.reduceNe]) (by simp only [go_sem, Nat.reduceEqDiff, Nat.reduceBEq, Nat.reduceAdd, Nat.reduceMul, Nat.reduceSub, Nat.reduceLeDiff, Nat.reduceLT, reduceIte, reduceCtorEq, Int.reduceToNat, Int.reduceLE, Int.reduceLT, Int.reduceNeg, Bool.not_not, and_self, Bool.and_eq_false_iff, Int.cast_ofNat_Int, Int.reduceAdd, Int.reduceSub, Int.reduceMul, Int.reduceEq, Int.reduceNe]) (by simp only [go_sem, Nat.reduceEqDiff, Nat.reduceBEq, Nat.reduceAdd, Nat.reduceMul, Nat.reduceSub, Nat.reduceLeDiff, Nat.reduceLT, reduceIte, reduceCtorEq, Int.reduceToNat, Int.reduceLE, Int.reduceLT, Int.reduceNeg, Bool.not_not, and_self, Bool.and_eq_false_iff, Int.cast_ofNat_Int, Int.reduceAdd, Int.reduceSub, Int.reduceMul, Int.reduceEq, Int.reduceNe]) (fun _ => fn38 j l (by omega) (fun y hy => by have := h1.2 y hy; omega)) rfl ?_
  simp only [go_sem, Nat.reduceEqDiff, Nat.reduceBEq, Nat.reduceAdd, Nat.reduceMul, Nat.reduceSub, Nat.reduceLeDiff, Nat.reduceLT, reduceIte, reduceCtorEq, Int.reduceToNat, Int.reduceLE, Int.reduceLT, Int.reduceNeg, Bool.not_not, and_self, Bool.and_eq_false_iff, Int.cast_ofNat_Int, Int.reduceAdd, Int.reduceSub, Int.reduceMul, Int.reduceEq, Int.reduceNe, errN_eq]
  refine runR_callgf (by simp only [go_sem, Nat.reduceEqDiff, Nat.reduceBEq, Nat.reduceAdd, Nat.reduceMul, Nat.reduceSub, Nat.reduceLeDiff, Nat.reduceLT, reduceIte, reduceCtorEq, Int.reduceToNat, Int.reduceLE, Int.reduceLT, Int.reduceNeg, Bool.not_not, and_self, Bool.and_eq_false_iff, Int.cast_ofNat_Int, Int.reduceAdd, Int.reduceSub, Int.reduceMul, Int.reduceEq, Int.reduceNe]) (by simp only [go_sem, Nat.reduceEqDiff, Nat.reduceBEq, Nat.reduceAdd, Nat.reduceMul, Nat.reduceSub, Nat.reduceLeDiff, Nat.reduceLT, reduceIte, reduceCtorEq, Int.reduceToNat, Int.reduceLE, Int.reduceLT, Int.reduceNeg, Bool.not_not, and_self, Bool.and_eq_false_iff, Int.cast_ofNat_Int, Int.reduceAdd, Int.reduceSub, Int.reduceMul, Int.reduceEq, Int.reduceNe]) (by simp only [go_sem, Nat.reduceEqDiff, Nat.reduceBEq, Nat.reduceAdd, Nat.reduceMul, Nat.reduceSub, Nat.reduceLeDiff, Nat.reduceLT, reduceIte, reduceCtorEq, Int.reduceToNat, Int.reduceLE, Int.reduceLT, Int.reduceNeg, Bool.not_not, and_self, Bool.and_eq_false_iff, Int.cast_ofNat_Int, Int.reduceAdd, Int.reduceSub, Int.reduceMul, Int.reduceEq, Int.reduceNe]) (fun _ => fn39 l key (by omega)) rfl ?_
  simp only [go_sem, Nat.reduceEqDiff, Nat.reduceBEq, Nat.reduceAdd, Nat.reduceMul, Nat.reduceSub, Nat.reduceLeDiff, Nat.reduceLT, reduceIte, reduceCtorEq, Int.reduceToNat, Int.reduceLE, Int.reduceLT, Int.reduceNeg, Bool.not_not, and_self, Bool.and_eq_false_iff, Int.cast_ofNat_Int, Int.reduceAdd, Int.reduceSub, Int.reduceMul, Int.reduceEq, Int.reduceNe]
  refine runR_callgf (by simp only [go_sem, Nat.reduceEqDiff, Nat.reduceBEq, Nat.reduceAdd, Nat.reduceMul, Nat.reduceSub, Nat.reduceLeDiff, Nat.reduceLT, reduceIte, reduceCtorEq, Int.reduceToNat, Int.reduceLE, Int.reduceLT, Int.reduceNeg, Bool.not_not, and_self, Bool.and_eq_false_iff, Int.cast_ofNat_Int, Int.reduceAdd, Int.reduceSub, Int.reduceMul, Int.reduceEq, Int.reduceNe]) (by simp only [go_sem, Nat.reduceEqDiff, Nat.reduceBEq, Nat.reduceAdd, Nat.reduceMul, Nat.reduceSub, Nat.reduceLeDiff, Nat.reduceLT, reduceIte, reduceCtorEq, Int.reduceToNat, Int.reduceLE, Int.reduceLT, Int.reduceNeg, Bool.not_not, and_self, Bool.and_eq_false_iff, Int.cast_ofNat_Int, Int.reduceAdd, Int.reduceSub, Int.reduceMul, Int.reduceEq, Int.reduceNe]) (by simp only [go_sem, Nat.reduceEqDiff, Nat.reduceBEq, Nat.reduceAdd, Nat.reduceMul, Nat.reduceSub, Nat.reduceLeDiff, Nat.reduceLT, reduceIte, reduceCtorEq, Int.reduceToNat, Int.reduceLE, Int.reduceLT, Int.reduceNeg, Bool.not_not, and_self, Bool.and_eq_false_iff, Int.cast_ofNat_Int, Int.reduceAdd, Int.reduceSub, Int.reduceMul, Int.reduceEq, Int.reduceNe]) (fun _ => fn40 l key (by omega)) rfl ?_
  simp only [go_sem, Nat.reduceEqDiff, Nat.reduceBEq, Nat.reduceAdd, Nat.reduceMul, Nat.reduceSub, Nat.reduceLeDiff, Nat.reduceLT, reduceIte, reduceCtorEq, Int.reduceToNat, Int.reduceLE, Int.reduceLT, Int.reduceNeg, Bool.not_not, and_self, Bool.and_eq_false_iff, Int.cast_ofNat_Int, Int.reduceAdd, Int.reduceSub, Int.reduceMul, Int.reduceEq, Int.reduceNe]
  refine runR_callgf (by simp only [go_sem, Nat.reduceEqDiff, Nat.reduceBEq, Nat.reduceAdd, Nat.reduceMul, Nat.reduceSub, Nat.reduceLeDiff, Nat.reduceLT, reduceIte, reduceCtorEq, Int.reduceToNat, Int.reduceLE, Int.reduceLT, Int.reduceNeg, Bool.not_not, and_self, Bool.and_eq_false_iff, Int.cast_ofNat_Int, Int.reduceAdd, Int.reduceSub, Int.reduceMul, Int.reduceEq, Int.reduceNe]) (by simp only [go_sem, Nat.reduceEqDiff, Nat.reduceBEq, Nat.reduceAdd, Nat.reduceMul, Nat.reduceSub, Nat.reduceLeDiff, Nat.reduceLT, reduceIte, reduceCtorEq, Int.reduceToNat, Int.reduceLE, Int.reduceLT, Int.reduceNeg, Bool.not_not, and_self, Bool.and_eq_false_iff, Int.cast_ofNat_Int, Int.reduceAdd, Int.reduceSub, Int.reduceMul, Int.reduceEq, Int.reduceNe]) (by simp only [go_sem, Nat.reduceEqDiff, Nat.reduceBEq, Nat.reduceAdd, Nat.reduceMul, Nat.reduceSub, Nat.reduceLeDiff, Nat.reduceLT, reduceIte, reduceCtorEq, Int.reduceToNat, Int.reduceLE, Int.reduceLT, Int.reduceNeg, Bool.not_not, and_self, Bool.and_eq_false_iff, Int.cast_ofNat_Int, Int.reduceAdd, Int.reduceSub, Int.reduceMul, Int.reduceEq, Int.reduceNe]) (fun _ => fn41 l (by omega) (fun y hy => by have := h1.2 y hy; omega)) rfl ?_
  simp only [go_sem, Nat.reduceEqDiff, Nat.reduceBEq, Nat.reduceAdd, Nat.reduceMul, Nat.reduceSub, Nat.reduceLeDiff, Nat.reduceLT, reduceIte, reduceCtorEq, Int.reduceToNat, Int.reduceLE, Int.reduceLT, Int.reduceNeg, Bool.not_not, and_self, Bool.and_eq_false_iff, Int.cast_ofNat_Int, Int.reduceAdd, Int.reduceSub, Int.reduceMul, Int.reduceEq, Int.reduceNe]
  refine runR_callg (by simp only [go_sem, Nat.reduceEqDiff, Nat.reduceBEq, Nat.reduceAdd, Nat.reduceMul, Nat.reduceSub, Nat.reduceLeDiff, Nat.reduceLT, reduceIte, reduceCtorEq, Int.reduceToNat, Int.reduceLE, Int.reduceLT, Int.reduceNeg, Bool.not_not, and_self, Bool.and_eq_false_iff, Int.cast_ofNat_Int, Int.reduceAdd, Int.reduceSub, Int.reduceMul, Int.reduceEq, Int.reduceNe]) (by simp only [go_sem, Nat.reduceEqDiff, Nat.reduceBEq, Nat.reduceAdd, Nat.reduceMul, Nat.reduceSub, Nat.reduceLeDiff, Nat.reduceLT, reduceIte, reduceCtorEq, Int.reduceToNat, Int.reduceLE, Int.reduceLT, Int.reduceNeg, Bool.not_not, and_self, Bool.and_eq_false_iff, Int.cast_ofNat_Int, Int.reduceAdd, Int.reduceSub, Int.reduceMul, Int.reduceEq, Int.reduceNe]) rfl (fun _ => fn32 l (by omega) (fun y hy => by have := h1.2 y hy; omega)) (.inl rfl) ?_
  simp only [go_sem, Nat.reduceEqDiff, Nat.reduceBEq, Nat.reduceAdd, Nat.reduceMul, Nat.reduceSub, Nat.reduceLeDiff, Nat.reduceLT, reduceIte, reduceCtorEq, Int.reduceToNat, Int.reduceLE, Int.reduceLT, Int.reduceNeg, Bool.not_not, and_self, Bool.and_eq_false_iff, Int.cast_ofNat_Int, Int.reduceAdd, Int.reduceSub, Int.reduceMul, Int.reduceEq, Int.reduceNe, allI_len]
  refine runR_callgf (by simp only [go_sem, Nat.reduceEqDiff, Nat.reduceBEq, Nat.reduceAdd, Nat.reduceMul, Nat.reduceSub, Nat.reduceLeDiff, Nat.reduceLT, reduceIte, reduceCtorEq, Int.reduceToNat, Int.reduceLE, Int.reduceLT, Int.reduceNeg, Bool.not_not, and_self, Bool.and_eq_false_iff, Int.cast_ofNat_Int, Int.reduceAdd, Int.reduceSub, Int.reduceMul, Int.reduceEq, Int.reduceNe]) (by simp only [go_sem, Nat.reduceEqDiff, Nat.reduceBEq, Nat.reduceAdd, Nat.reduceMul, Nat.reduceSub, Nat.reduceLeDiff, Nat.reduceLT, reduceIte, reduceCtorEq, Int.reduceToNat, Int.reduceLE, Int.reduceLT, Int.reduceNeg, Bool.not_not, and_self, Bool.and_eq_false_iff, Int.cast_ofNat_Int, Int.reduceAdd, Int.reduceSub, Int.reduceMul, Int.reduceEq, Int.reduceNe]) (by simp only [go_sem, Nat.reduceEqDiff, Nat.reduceBEq, Nat.reduceAdd, Nat.reduceMul, Nat.reduceSub, Nat.reduceLeDiff, Nat.reduceLT, reduceIte, reduceCtorEq, Int.reduceToNat, Int.reduceLE, Int.reduceLT, Int.reduceNeg, Bool.not_not, and_self, Bool.and_eq_false_iff, Int.cast_ofNat_Int, Int.reduceAdd, Int.reduceSub, Int.reduceMul, Int.reduceEq, Int.reduceNe]) (fun _ => fn35 l l (by omega) (by omega) (fun y hy => by have := h1.2 y hy; omega) (fun y hy => by have := h1.2 y hy; omega)) rfl ?_
  simp only [go_sem, Nat.reduceEqDiff, Nat.reduceBEq, Nat.reduceAdd, Nat.reduceMul, Nat.reduceSub, Nat.reduceLeDiff, Nat.reduceLT, reduceIte, reduceCtorEq, Int.reduceToNat, Int.reduceLE, Int.reduceLT, Int.reduceNeg, Bool.not_not, and_self, Bool.and_eq_false_iff, Int.cast_ofNat_Int, Int.reduceAdd, Int.reduceSub, Int.reduceMul, Int.reduceEq, Int.reduceNe]
  refine runR_callgf (by simp only [go_sem, Nat.reduceEqDiff, Nat.reduceBEq, Nat.reduceAdd, Nat.reduceMul, Nat.reduceSub, Nat.reduceLeDiff, Nat.reduceLT, reduceIte, reduceCtorEq, Int.reduceToNat, Int.reduceLE, Int.reduceLT, Int.reduceNeg, Bool.not_not, and_self, Bool.and_eq_false_iff, Int.cast_ofNat_Int, Int.reduceAdd, Int.reduceSub, Int.reduceMul, Int.reduceEq, Int.reduceNe]) (by simp only [go_sem, Nat.reduceEqDiff, Nat.reduceBEq, Nat.reduceAdd, Nat.reduceMul, Nat.reduceSub, Nat.reduceLeDiff, Nat.reduceLT, reduceIte, reduceCtorEq, Int.reduceToNat, Int.reduceLE, Int.reduceLT, Int.reduceNeg, Bool.not_not, and_self, Bool.and_eq_false_iff, Int.cast_ofNat_Int, Int.reduceAdd, Int.reduceSub, Int.reduceMul, Int.reduceEq, Int.reduceNe]) (by simp only [go_sem, Nat.reduceEqDiff, Nat.reduceBEq, Nat.reduceAdd, Nat.reduceMul, Nat.reduceSub, Nat.reduceLeDiff, Nat.reduceLT, reduceIte, reduceCtorEq, Int.reduceToNat, Int.reduceLE, Int.reduceLT, Int.reduceNeg, Bool.not_not, and_self, Bool.and_eq_false_iff, Int.cast_ofNat_Int, Int.reduceAdd, Int.reduceSub, Int.reduceMul, Int.reduceEq, Int.reduceNe]) (fun _ => fn33) rfl ?_
  simp only [go_sem, Nat.reduceEqDiff, Nat.reduceBEq, Nat.reduceAdd, Nat.reduceMul, Nat.reduceSub, Nat.reduceLeDiff, Nat.reduceLT, reduceIte, reduceCtorEq, Int.reduceToNat, Int.reduceLE, Int.reduceLT, Int.reduceNeg, Bool.not_not, and_self, Bool.and_eq_false_iff, Int.cast_ofNat_Int, Int.reduceAdd, Int.reduceSub, Int.reduceMul, Int.reduceEq, Int.reduceNe]
end Go.Vc

namespace Go.Vc
open Go.Proofs
set_option linter.unusedSimpArgs false
set_option linter.unusedVariables false

theorem vl_eq (a b : Vl) : (decide (a.num = b.num) && (decide (a.n = b.n) && decide (a.s = b.s))) = decide (a = b) := by
  obtain ⟨a1, a2, a3⟩ := a
  obtain ⟨b1, b2, b3⟩ := b
  simp
theorem leftI_lt {j : Jn} {now : Int} {l : List In} (h : ∀ y ∈ l, y.l.length ≤ 31) : ∀ y ∈ leftI j now l, y.l.length ≤ 31 := by
  intro y hy
  unfold leftI at hy
  obtain ⟨x, hx, rfl⟩ := List.mem_map.1 (List.mem_filter.1 hy).1
  have := h x hx
  simp only [leftOne, List.length_drop]
  omega
theorem expireI_lt (j : Jn) (l : List In) (now : Int) (h1 : l.length ≤ 41) (h2 : ∀ y ∈ l, y.l.length ≤ 31) : (expireI j l now).ins_.length ≤ 41 ∧ (∀ y ∈ (expireI j l now).ins_, y.l.length ≤ 31) ∧ (expireI j l now).over.length ≤ 4100000 := by
  unfold expireI
  split
  · have := overI_len (j := j) (now := now) (fun x hx => (by have := h2 x hx; omega : x.l.length < 100000)) l.length
    rw [List.take_length] at this
    have := leftI_len j now l
    exact ⟨by simp only; omega, leftI_lt h2, by simp only; omega⟩
  · exact ⟨by simp, fun y hy => (by cases hy), by simp⟩
set_option maxHeartbeats 1000000 in
theorem law15 (q : Fd) (hl : q.l.length ≤ 9223372036854775807) (hk : ∀ x ∈ q.l, x.l.length ≤ 9223372036854775807) : Fn Try.prog 15 [q.pv] (.pv (pB true)) [] := by
  refine Run15 [] (by simp) ?_
  simp only [go_sem, Nat.reduceEqDiff, Nat.reduceBEq, Nat.reduceAdd, Nat.reduceMul, Nat.reduceSub, Nat.reduceLeDiff, Nat.reduceLT, reduceIte, reduceCtorEq, Int.reduceToNat, Int.reduceLE, Int.reduceLT, Int.reduceNeg, Bool.not_not, and_self, Bool.and_eq_false_iff, Int.cast_ofNat_Int, Int.reduceAdd, Int.reduceSub, Int.reduceMul, Int.reduceEq, Int.reduceNe, M15]
  refine runG_callf (by simp only [go_sem, Nat.reduceEqDiff, Nat.reduceBEq, Nat.reduceAdd, Nat.reduceMul, Nat.reduceSub, Nat.reduceLeDiff, Nat.reduceLT, reduceIte, reduceCtorEq, Int.reduceToNat, Int.reduceLE, Int.reduceLT, Int.reduceNeg, Bool.not_not, and_self, Bool.and_eq_false_iff, Int.cast_ofNat_Int, Int.reduceAdd, Int.reduceSub, Int.reduceMul, Int.reduceEq, Int.reduceNe]) (by simp only [go_sem, Nat.reduceEqDiff, Nat.reduceBEq, Nat.reduceAdd, Nat.reduceMul, Nat.reduceSub, Nat.reduceLeDiff, Nat.reduceLT, reduceIte, reduceCtorEq, Int.reduceToNat, Int.reduceLE, Int.reduceLT, Int.reduceNeg, Bool.not_not, and_self, Bool.and_eq_false_iff, Int.cast_ofNat_Int, Int.reduceAdd, Int.reduceSub, Int.reduceMul, Int.reduceEq, Int.reduceNe]) (fn17 q.j) ⟨rfl, trivial⟩ trivial ?_
  simp only [go_sem, Nat.reduceEqDiff, Nat.reduceBEq, Nat.reduceAdd, Nat.reduceMul, Nat.reduceSub, Nat.reduceLeDiff, Nat.reduceLT, reduceIte, reduceCtorEq, Int.reduceToNat, Int.reduceLE, Int.reduceLT, Int.reduceNeg, Bool.not_not, and_self, Bool.and_eq_false_iff, Int.cast_ofNat_Int, Int.reduceAdd, Int.reduceSub, Int.reduceMul, Int.reduceEq, Int.reduceNe]
  refine runG_call (by simp only [go_sem, Nat.reduceEqDiff, Nat.reduceBEq, Nat.reduceAdd, Nat.reduceMul, Nat.reduceSub, Nat.reduceLeDiff, Nat.reduceLT, reduceIte, reduceCtorEq, Int.reduceToNat, Int.reduceLE, Int.reduceLT, Int.reduceNeg, Bool.not_not, and_self, Bool.and_eq_false_iff, Int.cast_ofNat_Int, Int.reduceAdd, Int.reduceSub, Int.reduceMul, Int.reduceEq, Int.reduceNe]) rfl (fn34 q.l hl hk) (.inl rfl) trivial ?_
  simp only [go_sem, Nat.reduceEqDiff, Nat.reduceBEq, Nat.reduceAdd, Nat.reduceMul, Nat.reduceSub, Nat.reduceLeDiff, Nat.reduceLT, reduceIte, reduceCtorEq, Int.reduceToNat, Int.reduceLE, Int.reduceLT, Int.reduceNeg, Bool.not_not, and_self, Bool.and_eq_false_iff, Int.cast_ofNat_Int, Int.reduceAdd, Int.reduceSub, Int.reduceMul, Int.reduceEq, Int.reduceNe]
  have h1 := fewI_lt q.l
  generalize fewI q.l = l at *
  generalize kindOf q.j = j
  have hlt := expireI_lt j l q.now h1.1 h1.2
  refine runR_call (by simp only [go_sem, Nat.reduceEqDiff, Nat.reduceBEq, Nat.reduceAdd, Nat.reduceMul, Nat.reduceSub, Nat.reduceLeDiff, Nat.reduceLT, reduceIte, reduceCtorEq, Int.reduceToNat, Int.reduceLE, Int.reduceLT, Int.reduceNeg, Bool.not_not, and_self, Bool.and_eq_false_iff, Int.cast_ofNat_Int, Int.reduceAdd, Int.reduceSub, Int.reduceMul, Int.reduceEq, Int.reduceNe]) rfl (fn43 j l q.now (by omega) (fun y hy => by have := h1.2 y hy; omega)) (.inl rfl) trivial ?_
  simp only [go_sem, Nat.reduceEqDiff, Nat.reduceBEq, Nat.reduceAdd, Nat.reduceMul, Nat.reduceSub, Nat.reduceLeDiff, Nat.reduceLT, reduceIte, reduceCtorEq, Int.reduceToNat, Int.reduceLE, Int.reduceLT, Int.reduceNeg, Bool.not_not, and_self, Bool.and_eq_false_iff, Int.cast_ofNat_Int, Int.reduceAdd, Int.reduceSub, Int.reduceMul, Int.reduceEq, Int.reduceNe]
  refine runR_call (by simp only [go_sem, Nat.reduceEqDiff, Nat.reduceBEq, Nat.reduceAdd, Nat.reduceMul, Nat.reduceSub, Nat.reduceLeDiff, Nat.reduceLT, reduceIte, reduceCtorEq, Int.reduceToNat, Int.reduceLE, Int.reduceLT, Int.reduceNeg, Bool.not_not, and_self, Bool.and_eq_false_iff, Int.cast_ofNat_Int, Int.reduceAdd, Int.reduceSub, Int.reduceMul, Int.reduceEq, Int.reduceNe]) rfl (fn44 j l q.now (by omega) (fun y hy => by have := h1.2 y hy; omega)) (.inl rfl) trivial ?_
  simp only [go_sem, Nat.reduceEqDiff, Nat.reduceBEq, Nat.reduceAdd, Nat.reduceMul, Nat.reduceSub, Nat.reduceLeDiff, Nat.reduceLT, reduceIte, reduceCtorEq, Int.reduceToNat, Int.reduceLE, Int.reduceLT, Int.reduceNeg, Bool.not_not, and_self, Bool.and_eq_false_iff, Int.cast_ofNat_Int, Int.reduceAdd, Int.reduceSub, Int.reduceMul, Int.reduceEq, Int.reduceNe]
  generalize expireI j l q.now = r at *
  refine runR_callf (by simp only [go_sem, Nat.reduceEqDiff, Nat.reduceBEq, Nat.reduceAdd, Nat.reduceMul, Nat.reduceSub, Nat.reduceLeDiff, Nat.reduceLT, reduceIte, reduceCtorEq, Int.reduceToNat, Int.reduceLE, Int.reduceLT, Int.reduceNeg, Bool.not_not, and_self, Bool.and_eq_false_iff, Int.cast_ofNat_Int, Int.reduceAdd, Int.reduceSub, Int.reduceMul, Int.reduceEq, Int.reduceNe]) (by simp only [go_sem, Nat.reduceEqDiff, Nat.reduceBEq, Nat.reduceAdd, Nat.reduceMul, Nat.reduceSub, Nat.reduceLeDiff, Nat.reduceLT, reduceIte, reduceCtorEq, Int.reduceToNat, Int.reduceLE, Int.reduceLT, Int.reduceNeg, Bool.not_not, and_self, Bool.and_eq_false_iff, Int.cast_ofNat_Int, Int.reduceAdd, Int.reduceSub, Int.reduceMul, Int.reduceEq, Int.reduceNe]) (fn35 r.ins_ r.ins_ (by omega) (by omega) (fun y hy => by have := hlt.2.1 y hy; omega) (fun y hy => by have := hlt.2.1 y hy; omega)) ⟨rfl, trivial⟩ trivial ?_
  simp only [go_sem, Nat.reduceEqDiff, Nat.reduceBEq, Nat.reduceAdd, Nat.reduceMul, Nat.reduceSub, Nat.reduceLeDiff, Nat.reduceLT, reduceIte, reduceCtorEq, Int.reduceToNat, Int.reduceLE, Int.reduceLT, Int.reduceNeg, Bool.not_not, and_self, Bool.and_eq_false_iff, Int.cast_ofNat_Int, Int.reduceAdd, Int.reduceSub, Int.reduceMul, Int.reduceEq, Int.reduceNe]
  refine runR_callgf (by simp only [go_sem, Nat.reduceEqDiff, Nat.reduceBEq, Nat.reduceAdd, Nat.reduceMul, Nat.reduceSub, Nat.reduceLeDiff, Nat.reduceLT, reduceIte, reduceCtorEq, Int.reduceToNat, Int.reduceLE, Int.reduceLT, Int.reduceNeg, Bool.not_not, and_self, Bool.and_eq_false_iff, Int.cast_ofNat_Int, Int.reduceAdd, Int.reduceSub, Int.reduceMul, Int.reduceEq, Int.reduceNe]) (by simp only [go_sem, Nat.reduceEqDiff, Nat.reduceBEq, Nat.reduceAdd, Nat.reduceMul, Nat.reduceSub, Nat.reduceLeDiff, Nat.reduceLT, reduceIte, reduceCtorEq, Int.reduceToNat, Int.reduceLE, Int.reduceLT, Int.reduceNeg, Bool.not_not, and_self, Bool.and_eq_false_iff, Int.cast_ofNat_Int, Int.reduceAdd, Int.reduceSub, Int.reduceMul, Int.reduceEq, Int.reduceNe]) (by simp only [go_sem, Nat.reduceEqDiff, Nat.reduceBEq, Nat.reduceAdd, Nat.reduceMul, Nat.reduceSub, Nat.reduceLeDiff, Nat.reduceLT, reduceIte, reduceCtorEq, Int.reduceToNat, Int.reduceLE, Int.reduceLT, Int.reduceNeg, Bool.not_not, and_self, Bool.and_eq_false_iff, Int.cast_ofNat_Int, Int.reduceAdd, Int.reduceSub, Int.reduceMul, Int.reduceEq, Int.reduceNe]) (fun _ => fn21 r.over r.over (by omega) (by omega)) rfl ?_
  simp only [go_sem, Nat.reduceEqDiff, Nat.reduceBEq, Nat.reduceAdd, Nat.reduceMul, Nat.reduceSub, Nat.reduceLeDiff, Nat.reduceLT, reduceIte, reduceCtorEq, Int.reduceToNat, Int.reduceLE, Int.reduceLT, Int.reduceNeg, Bool.not_not, and_self, Bool.and_eq_false_iff, Int.cast_ofNat_Int, Int.reduceAdd, Int.reduceSub, Int.reduceMul, Int.reduceEq, Int.reduceNe]
  obtain ⟨a, b, c⟩ := r
  cases c
  · simp only [go_sem, Nat.reduceEqDiff, Nat.reduceBEq, Nat.reduceAdd, Nat.reduceMul, Nat.reduceSub, Nat.reduceLeDiff, Nat.reduceLT, reduceIte, reduceCtorEq, Int.reduceToNat, Int.reduceLE, Int.reduceLT, Int.reduceNeg, Bool.not_not, and_self, Bool.and_eq_false_iff, Int.cast_ofNat_Int, Int.reduceAdd, Int.reduceSub, Int.reduceMul, Int.reduceEq, Int.reduceNe, errN]
    refine runR_callgf (by simp only [go_sem, Nat.reduceEqDiff, Nat.reduceBEq, Nat.reduceAdd, Nat.reduceMul, Nat.reduceSub, Nat.reduceLeDiff, Nat.reduceLT, reduceIte, reduceCtorEq, Int.reduceToNat, Int.reduceLE, Int.reduceLT, Int.reduceNeg, Bool.not_not, and_self, Bool.and_eq_false_iff, Int.cast_ofNat_Int, Int.reduceAdd, Int.reduceSub, Int.reduceMul, Int.reduceEq, Int.reduceNe]) (by simp only [go_sem, Nat.reduceEqDiff, Nat.reduceBEq, Nat.reduceAdd, Nat.reduceMul, Nat.reduceSub, Nat.reduceLeDiff, Nat.reduceLT, reduceIte, reduceCtorEq, Int.reduceToNat, Int.reduceLE, Int.reduceLT, Int.reduceNeg, Bool.not_not, and_self, Bool.and_eq_false_iff, Int.cast_ofNat_Int, Int.reduceAdd, Int.reduceSub, Int.reduceMul, Int.reduceEq, Int.reduceNe]) (by simp only [go_sem, Nat.reduceEqDiff, Nat.reduceBEq, Nat.reduceAdd, Nat.reduceMul, Nat.reduceSub, Nat.reduceLeDiff, Nat.reduceLT, reduceIte, reduceCtorEq, Int.reduceToNat, Int.reduceLE, Int.reduceLT, Int.reduceNeg, Bool.not_not, and_self, Bool.and_eq_false_iff, Int.cast_ofNat_Int, Int.reduceAdd, Int.reduceSub, Int.reduceMul, Int.reduceEq, Int.reduceNe]) (fun _ => fn33) rfl ?_
    simp only [go_sem, Nat.reduceEqDiff, Nat.reduceBEq, Nat.reduceAdd, Nat.reduceMul, Nat.reduceSub, Nat.reduceLeDiff, Nat.reduceLT, reduceIte, reduceCtorEq, Int.reduceToNat, Int.reduceLE, Int.reduceLT, Int.reduceNeg, Bool.not_not, and_self, Bool.and_eq_false_iff, Int.cast_ofNat_Int, Int.reduceAdd, Int.reduceSub, Int.reduceMul, Int.reduceEq, Int.reduceNe]
  · simp only [go_sem, Nat.reduceEqDiff, Nat.reduceBEq, Nat.reduceAdd, Nat.reduceMul, Nat.reduceSub, Nat.reduceLeDiff, Nat.reduceLT, reduceIte, reduceCtorEq, Int.reduceToNat, Int.reduceLE, Int.reduceLT, Int.reduceNeg, Bool.not_not, and_self, Bool.and_eq_false_iff, Int.cast_ofNat_Int, Int.reduceAdd, Int.reduceSub, Int.reduceMul, Int.reduceEq, Int.reduceNe, errN]
    refine runR_callgf (by simp only [go_sem, Nat.reduceEqDiff, Nat.reduceBEq, Nat.reduceAdd, Nat.reduceMul, Nat.reduceSub, Nat.reduceLeDiff, Nat.reduceLT, reduceIte, reduceCtorEq, Int.reduceToNat, Int.reduceLE, Int.reduceLT, Int.reduceNeg, Bool.not_not, and_self, Bool.and_eq_false_iff, Int.cast_ofNat_Int, Int.reduceAdd, Int.reduceSub, Int.reduceMul, Int.reduceEq, Int.reduceNe]) (by simp only [go_sem, Nat.reduceEqDiff, Nat.reduceBEq, Nat.reduceAdd, Nat.reduceMul, Nat.reduceSub, Nat.reduceLeDiff, Nat.reduceLT, reduceIte, reduceCtorEq, Int.reduceToNat, Int.reduceLE, Int.reduceLT, Int.reduceNeg, Bool.not_not, and_self, Bool.and_eq_false_iff, Int.cast_ofNat_Int, Int.reduceAdd, Int.reduceSub, Int.reduceMul, Int.reduceEq, Int.reduceNe]) (by simp only [go_sem, Nat.reduceEqDiff, Nat.reduceBEq, Nat.reduceAdd, Nat.reduceMul, Nat.reduceSub, Nat.reduceLeDiff, Nat.reduceLT, reduceIte, reduceCtorEq, Int.reduceToNat, Int.reduceLE, Int.reduceLT, Int.reduceNeg, Bool.not_not, and_self, Bool.and_eq_false_iff, Int.cast_ofNat_Int, Int.reduceAdd, Int.reduceSub, Int.reduceMul, Int.reduceEq, Int.reduceNe]) (fun _ => fn33) rfl ?_
    simp only [go_sem, Nat.reduceEqDiff, Nat.reduceBEq, Nat.reduceAdd, Nat.reduceMul, Nat.reduceSub, Nat.reduceLeDiff, Nat.reduceLT, reduceIte, reduceCtorEq, Int.reduceToNat, Int.reduceLE, Int.reduceLT, Int.reduceNeg, Bool.not_not, and_self, Bool.and_eq_false_iff, Int.cast_ofNat_Int, Int.reduceAdd, Int.reduceSub, Int.reduceMul, Int.reduceEq, Int.reduceNe]
set_option maxHeartbeats 2000000 in
theorem law12 (q : Fd) (other : Vl) (y : Kp) (hl : q.l.length ≤ 9223372036854775807) (hk : ∀ x ∈ q.l, x.l.length ≤ 9223372036854775807) : Fn Try.prog 12 [q.pv, other.pv, y.pv] (.pv (pB true)) [] := by
  refine Run12 [] (by simp) ?_
  simp only [go_sem, Nat.reduceEqDiff, Nat.reduceBEq, Nat.reduceAdd, Nat.reduceMul, Nat.reduceSub, Nat.reduceLeDiff, Nat.reduceLT, reduceIte, reduceCtorEq, Int.reduceToNat, Int.reduceLE, Int.reduceLT, Int.reduceNeg, Bool.not_not, and_self, Bool.and_eq_false_iff, Int.cast_ofNat_Int, Int.reduceAdd, Int.reduceSub, Int.reduceMul, Int.reduceEq, Int.reduceNe, M12]
  refine runG_callf (by simp only [go_sem, Nat.reduceEqDiff, Nat.reduceBEq, Nat.reduceAdd, Nat.reduceMul, Nat.reduceSub, Nat.reduceLeDiff, Nat.reduceLT, reduceIte, reduceCtorEq, Int.reduceToNat, Int.reduceLE, Int.reduceLT, Int.reduceNeg, Bool.not_not, and_self, Bool.and_eq_false_iff, Int.cast_ofNat_Int, Int.reduceAdd, Int.reduceSub, Int.reduceMul, Int.reduceEq, Int.reduceNe]) (by simp only [go_sem, Nat.reduceEqDiff, Nat.reduceBEq, Nat.reduceAdd, Nat.reduceMul, Nat.reduceSub, Nat.reduceLeDiff, Nat.reduceLT, reduceIte, reduceCtorEq, Int.reduceToNat, Int.reduceLE, Int.reduceLT, Int.reduceNeg, Bool.not_not, and_self, Bool.and_eq_false_iff, Int.cast_ofNat_Int, Int.reduceAdd, Int.reduceSub, Int.reduceMul, Int.reduceEq, Int.reduceNe]) (fn17 q.j) ⟨rfl, trivial⟩ trivial ?_
  simp only [go_sem, Nat.reduceEqDiff, Nat.reduceBEq, Nat.reduceAdd, Nat.reduceMul, Nat.reduceSub, Nat.reduceLeDiff, Nat.reduceLT, reduceIte, reduceCtorEq, Int.reduceToNat, Int.reduceLE, Int.reduceLT, Int.reduceNeg, Bool.not_not, and_self, Bool.and_eq_false_iff, Int.cast_ofNat_Int, Int.reduceAdd, Int.reduceSub, Int.reduceMul, Int.reduceEq, Int.reduceNe]
  refine runG_call (by simp only [go_sem, Nat.reduceEqDiff, Nat.reduceBEq, Nat.reduceAdd, Nat.reduceMul, Nat.reduceSub, Nat.reduceLeDiff, Nat.reduceLT, reduceIte, reduceCtorEq, Int.reduceToNat, Int.reduceLE, Int.reduceLT, Int.reduceNeg, Bool.not_not, and_self, Bool.and_eq_false_iff, Int.cast_ofNat_Int, Int.reduceAdd, Int.reduceSub, Int.reduceMul, Int.reduceEq, Int.reduceNe]) rfl (fn34 q.l hl hk) (.inl rfl) trivial ?_
  simp only [go_sem, Nat.reduceEqDiff, Nat.reduceBEq, Nat.reduceAdd, Nat.reduceMul, Nat.reduceSub, Nat.reduceLeDiff, Nat.reduceLT, reduceIte, reduceCtorEq, Int.reduceToNat, Int.reduceLE, Int.reduceLT, Int.reduceNeg, Bool.not_not, and_self, Bool.and_eq_false_iff, Int.cast_ofNat_Int, Int.reduceAdd, Int.reduceSub, Int.reduceMul, Int.reduceEq, Int.reduceNe]
  refine runG_callf (by simp only [go_sem, Nat.reduceEqDiff, Nat.reduceBEq, Nat.reduceAdd, Nat.reduceMul, Nat.reduceSub, Nat.reduceLeDiff, Nat.reduceLT, reduceIte, reduceCtorEq, Int.reduceToNat, Int.reduceLE, Int.reduceLT, Int.reduceNeg, Bool.not_not, and_self, Bool.and_eq_false_iff, Int.cast_ofNat_Int, Int.reduceAdd, Int.reduceSub, Int.reduceMul, Int.reduceEq, Int.reduceNe]) (by simp only [go_sem, Nat.reduceEqDiff, Nat.reduceBEq, Nat.reduceAdd, Nat.reduceMul, Nat.reduceSub, Nat.reduceLeDiff, Nat.reduceLT, reduceIte, reduceCtorEq, Int.reduceToNat, Int.reduceLE, Int.reduceLT, Int.reduceNeg, Bool.not_not, and_self, Bool.and_eq_false_iff, Int.cast_ofNat_Int, Int.reduceAdd, Int.reduceSub, Int.reduceMul, Int.reduceEq, Int.reduceNe]) (fn29 q.key) ⟨rfl, trivial⟩ trivial ?_
  simp only [go_sem, Nat.reduceEqDiff, Nat.reduceBEq, Nat.reduceAdd, Nat.reduceMul, Nat.reduceSub, Nat.reduceLeDiff, Nat.reduceLT, reduceIte, reduceCtorEq, Int.reduceToNat, Int.reduceLE, Int.reduceLT, Int.reduceNeg, Bool.not_not, and_self, Bool.and_eq_false_iff, Int.cast_ofNat_Int, Int.reduceAdd, Int.reduceSub, Int.reduceMul, Int.reduceEq, Int.reduceNe]
  refine runG_callf (by simp only [go_sem, Nat.reduceEqDiff, Nat.reduceBEq, Nat.reduceAdd, Nat.reduceMul, Nat.reduceSub, Nat.reduceLeDiff, Nat.reduceLT, reduceIte, reduceCtorEq, Int.reduceToNat, Int.reduceLE, Int.reduceLT, Int.reduceNeg, Bool.not_not, and_self, Bool.and_eq_false_iff, Int.cast_ofNat_Int, Int.reduceAdd, Int.reduceSub, Int.reduceMul, Int.reduceEq, Int.reduceNe]) (by simp only [go_sem, Nat.reduceEqDiff, Nat.reduceBEq, Nat.reduceAdd, Nat.reduceMul, Nat.reduceSub, Nat.reduceLeDiff, Nat.reduceLT, reduceIte, reduceCtorEq, Int.reduceToNat, Int.reduceLE, Int.reduceLT, Int.reduceNeg, Bool.not_not, and_self, Bool.and_eq_false_iff, Int.cast_ofNat_Int, Int.reduceAdd, Int.reduceSub, Int.reduceMul, Int.reduceEq, Int.reduceNe]) (fn29 other) ⟨rfl, trivial⟩ trivial ?_
  simp only [go_sem, Nat.reduceEqDiff, Nat.reduceBEq, Nat.reduceAdd, Nat.reduceMul, Nat.reduceSub, Nat.reduceLeDiff, Nat.reduceLT, reduceIte, reduceCtorEq, Int.reduceToNat, Int.reduceLE, Int.reduceLT, Int.reduceNeg, Bool.not_not, and_self, Bool.and_eq_false_iff, Int.cast_ofNat_Int, Int.reduceAdd, Int.reduceSub, Int.reduceMul, Int.reduceEq, Int.reduceNe]
  have h1 := fewI_lt q.l
  generalize fewI q.l = l at *
  generalize kindOf q.j = j
  generalize vfew q.key = a
  generalize vfew other = b
  have hab := vl_eq a b
  simp only [go_sem, Nat.reduceEqDiff, Nat.reduceBEq, Nat.reduceAdd, Nat.reduceMul, Nat.reduceSub, Nat.reduceLeDiff, Nat.reduceLT, reduceIte, reduceCtorEq, Int.reduceToNat, Int.reduceLE, Int.reduceLT, Int.reduceNeg, Bool.not_not, and_self, Bool.and_eq_false_iff, Int.cast_ofNat_Int, Int.reduceAdd, Int.reduceSub, Int.reduceMul, Int.reduceEq, Int.reduceNe, hab]
  refine ⟨fun h => ?_, fun h => ?_⟩
  · refine runR_callf (by simp only [go_sem, Nat.reduceEqDiff, Nat.reduceBEq, Nat.reduceAdd, Nat.reduceMul, Nat.reduceSub, Nat.reduceLeDiff, Nat.reduceLT, reduceIte, reduceCtorEq, Int.reduceToNat, Int.reduceLE, Int.reduceLT, Int.reduceNeg, Bool.not_not, and_self, Bool.and_eq_false_iff, Int.cast_ofNat_Int, Int.reduceAdd, Int.reduceSub, Int.reduceMul, Int.reduceEq, Int.reduceNe]) (by simp only [go_sem, Nat.reduceEqDiff, Nat.reduceBEq, Nat.reduceAdd, Nat.reduceMul, Nat.reduceSub, Nat.reduceLeDiff, Nat.reduceLT, reduceIte, reduceCtorEq, Int.reduceToNat, Int.reduceLE, Int.reduceLT, Int.reduceNeg, Bool.not_not, and_self, Bool.and_eq_false_iff, Int.cast_ofNat_Int, Int.reduceAdd, Int.reduceSub, Int.reduceMul, Int.reduceEq, Int.reduceNe]) (fn33) ⟨rfl, trivial⟩ trivial ?_
    simp only [go_sem, Nat.reduceEqDiff, Nat.reduceBEq, Nat.reduceAdd, Nat.reduceMul, Nat.reduceSub, Nat.reduceLeDiff, Nat.reduceLT, reduceIte, reduceCtorEq, Int.reduceToNat, Int.reduceLE, Int.reduceLT, Int.reduceNeg, Bool.not_not, and_self, Bool.and_eq_false_iff, Int.cast_ofNat_Int, Int.reduceAdd, Int.reduceSub, Int.reduceMul, Int.reduceEq, Int.reduceNe]
  have hne : a ≠ b := fun e => by subst e; simp at h
  clear hab h
  have t1 := feedI_lt j l a ⟨q.x.part, q.x.id, q.x.at_⟩ (by omega) (fun y hy => by have := h1.2 y hy; omega)
  have t2 := feedI_lt j l b ⟨y.part, y.id, q.x.at_⟩ (by omega) (fun y hy => by have := h1.2 y hy; omega)
  have key := fun g1 g2 g3 g4 => feedI_turns (j := j) (l := l) (x := ⟨q.x.part, q.x.id, q.x.at_⟩) (y := ⟨y.part, y.id, q.x.at_⟩) hne (feedI_ok.1 g1) (feedI_ok.1 g2) (feedI_ok.1 g3) (feedI_ok.1 g4)
  refine runR_call (by simp only [go_sem, Nat.reduceEqDiff, Nat.reduceBEq, Nat.reduceAdd, Nat.reduceMul, Nat.reduceSub, Nat.reduceLeDiff, Nat.reduceLT, reduceIte, reduceCtorEq, Int.reduceToNat, Int.reduceLE, Int.reduceLT, Int.reduceNeg, Bool.not_not, and_self, Bool.and_eq_false_iff, Int.cast_ofNat_Int, Int.reduceAdd, Int.reduceSub, Int.reduceMul, Int.reduceEq, Int.reduceNe]) rfl (fn30 j l a ⟨q.x.part, q.x.id, q.x.at_⟩ (by omega) (fun y hy => by have := h1.2 y hy; omega)) (.inl rfl) trivial ?_
  simp only [go_sem, Nat.reduceEqDiff, Nat.reduceBEq, Nat.reduceAdd, Nat.reduceMul, Nat.reduceSub, Nat.reduceLeDiff, Nat.reduceLT, reduceIte, reduceCtorEq, Int.reduceToNat, Int.reduceLE, Int.reduceLT, Int.reduceNeg, Bool.not_not, and_self, Bool.and_eq_false_iff, Int.cast_ofNat_Int, Int.reduceAdd, Int.reduceSub, Int.reduceMul, Int.reduceEq, Int.reduceNe]
  have t3 := feedI_lt j (feedI j l a ⟨q.x.part, q.x.id, q.x.at_⟩).ins_ b ⟨y.part, y.id, q.x.at_⟩ (by omega) (fun y hy => by have := t1.2.1 y hy; omega)
  have t4 := feedI_lt j (feedI j l b ⟨y.part, y.id, q.x.at_⟩).ins_ a ⟨q.x.part, q.x.id, q.x.at_⟩ (by omega) (fun y hy => by have := t2.2.1 y hy; omega)
  refine runR_call (by simp only [go_sem, Nat.reduceEqDiff, Nat.reduceBEq, Nat.reduceAdd, Nat.reduceMul, Nat.reduceSub, Nat.reduceLeDiff, Nat.reduceLT, reduceIte, reduceCtorEq, Int.reduceToNat, Int.reduceLE, Int.reduceLT, Int.reduceNeg, Bool.not_not, and_self, Bool.and_eq_false_iff, Int.cast_ofNat_Int, Int.reduceAdd, Int.reduceSub, Int.reduceMul, Int.reduceEq, Int.reduceNe]) rfl (fn30 j (feedI j l a ⟨q.x.part, q.x.id, q.x.at_⟩).ins_ b ⟨y.part, y.id, q.x.at_⟩ (by omega) (fun y hy => by have := t1.2.1 y hy; omega)) (.inl rfl) trivial ?_
  simp only [go_sem, Nat.reduceEqDiff, Nat.reduceBEq, Nat.reduceAdd, Nat.reduceMul, Nat.reduceSub, Nat.reduceLeDiff, Nat.reduceLT, reduceIte, reduceCtorEq, Int.reduceToNat, Int.reduceLE, Int.reduceLT, Int.reduceNeg, Bool.not_not, and_self, Bool.and_eq_false_iff, Int.cast_ofNat_Int, Int.reduceAdd, Int.reduceSub, Int.reduceMul, Int.reduceEq, Int.reduceNe]
  refine runR_call (by simp only [go_sem, Nat.reduceEqDiff, Nat.reduceBEq, Nat.reduceAdd, Nat.reduceMul, Nat.reduceSub, Nat.reduceLeDiff, Nat.reduceLT, reduceIte, reduceCtorEq, Int.reduceToNat, Int.reduceLE, Int.reduceLT, Int.reduceNeg, Bool.not_not, and_self, Bool.and_eq_false_iff, Int.cast_ofNat_Int, Int.reduceAdd, Int.reduceSub, Int.reduceMul, Int.reduceEq, Int.reduceNe]) rfl (fn30 j l b ⟨y.part, y.id, q.x.at_⟩ (by omega) (fun y hy => by have := h1.2 y hy; omega)) (.inl rfl) trivial ?_
  simp only [go_sem, Nat.reduceEqDiff, Nat.reduceBEq, Nat.reduceAdd, Nat.reduceMul, Nat.reduceSub, Nat.reduceLeDiff, Nat.reduceLT, reduceIte, reduceCtorEq, Int.reduceToNat, Int.reduceLE, Int.reduceLT, Int.reduceNeg, Bool.not_not, and_self, Bool.and_eq_false_iff, Int.cast_ofNat_Int, Int.reduceAdd, Int.reduceSub, Int.reduceMul, Int.reduceEq, Int.reduceNe]
  refine runR_call (by simp only [go_sem, Nat.reduceEqDiff, Nat.reduceBEq, Nat.reduceAdd, Nat.reduceMul, Nat.reduceSub, Nat.reduceLeDiff, Nat.reduceLT, reduceIte, reduceCtorEq, Int.reduceToNat, Int.reduceLE, Int.reduceLT, Int.reduceNeg, Bool.not_not, and_self, Bool.and_eq_false_iff, Int.cast_ofNat_Int, Int.reduceAdd, Int.reduceSub, Int.reduceMul, Int.reduceEq, Int.reduceNe]) rfl (fn30 j (feedI j l b ⟨y.part, y.id, q.x.at_⟩).ins_ a ⟨q.x.part, q.x.id, q.x.at_⟩ (by omega) (fun y hy => by have := t2.2.1 y hy; omega)) (.inl rfl) trivial ?_
  simp only [go_sem, Nat.reduceEqDiff, Nat.reduceBEq, Nat.reduceAdd, Nat.reduceMul, Nat.reduceSub, Nat.reduceLeDiff, Nat.reduceLT, reduceIte, reduceCtorEq, Int.reduceToNat, Int.reduceLE, Int.reduceLT, Int.reduceNeg, Bool.not_not, and_self, Bool.and_eq_false_iff, Int.cast_ofNat_Int, Int.reduceAdd, Int.reduceSub, Int.reduceMul, Int.reduceEq, Int.reduceNe]
  generalize feedI j (feedI j l a ⟨q.x.part, q.x.id, q.x.at_⟩).ins_ b ⟨y.part, y.id, q.x.at_⟩ = r2 at *
  generalize feedI j (feedI j l b ⟨y.part, y.id, q.x.at_⟩).ins_ a ⟨q.x.part, q.x.id, q.x.at_⟩ = r4 at *
  generalize feedI j l a ⟨q.x.part, q.x.id, q.x.at_⟩ = r1 at *
  generalize feedI j l b ⟨y.part, y.id, q.x.at_⟩ = r3 at *
  refine ⟨fun h => ?_, fun h => ?_⟩
  · refine runR_callf (by simp only [go_sem, Nat.reduceEqDiff, Nat.reduceBEq, Nat.reduceAdd, Nat.reduceMul, Nat.reduceSub, Nat.reduceLeDiff, Nat.reduceLT, reduceIte, reduceCtorEq, Int.reduceToNat, Int.reduceLE, Int.reduceLT, Int.reduceNeg, Bool.not_not, and_self, Bool.and_eq_false_iff, Int.cast_ofNat_Int, Int.reduceAdd, Int.reduceSub, Int.reduceMul, Int.reduceEq, Int.reduceNe]) (by simp only [go_sem, Nat.reduceEqDiff, Nat.reduceBEq, Nat.reduceAdd, Nat.reduceMul, Nat.reduceSub, Nat.reduceLeDiff, Nat.reduceLT, reduceIte, reduceCtorEq, Int.reduceToNat, Int.reduceLE, Int.reduceLT, Int.reduceNeg, Bool.not_not, and_self, Bool.and_eq_false_iff, Int.cast_ofNat_Int, Int.reduceAdd, Int.reduceSub, Int.reduceMul, Int.reduceEq, Int.reduceNe]) (fn33) ⟨rfl, trivial⟩ trivial ?_
    simp only [go_sem, Nat.reduceEqDiff, Nat.reduceBEq, Nat.reduceAdd, Nat.reduceMul, Nat.reduceSub, Nat.reduceLeDiff, Nat.reduceLT, reduceIte, reduceCtorEq, Int.reduceToNat, Int.reduceLE, Int.reduceLT, Int.reduceNeg, Bool.not_not, and_self, Bool.and_eq_false_iff, Int.cast_ofNat_Int, Int.reduceAdd, Int.reduceSub, Int.reduceMul, Int.reduceEq, Int.reduceNe]
  have hz : r1.err = 0 ∧ r2.err = 0 ∧ r3.err = 0 ∧ r4.err = 0 := by simpa [and_assoc] using h
  obtain ⟨e1, e2, e3⟩ := key hz.1 hz.2.1 hz.2.2.1 hz.2.2.2
  rw [e1] at t3
  rw [e1, e2, e3]
  refine runR_callf (by simp only [go_sem, Nat.reduceEqDiff, Nat.reduceBEq, Nat.reduceAdd, Nat.reduceMul, Nat.reduceSub, Nat.reduceLeDiff, Nat.reduceLT, reduceIte, reduceCtorEq, Int.reduceToNat, Int.reduceLE, Int.reduceLT, Int.reduceNeg, Bool.not_not, and_self, Bool.and_eq_false_iff, Int.cast_ofNat_Int, Int.reduceAdd, Int.reduceSub, Int.reduceMul, Int.reduceEq, Int.reduceNe]) (by simp only [go_sem, Nat.reduceEqDiff, Nat.reduceBEq, Nat.reduceAdd, Nat.reduceMul, Nat.reduceSub, Nat.reduceLeDiff, Nat.reduceLT, reduceIte, reduceCtorEq, Int.reduceToNat, Int.reduceLE, Int.reduceLT, Int.reduceNeg, Bool.not_not, and_self, Bool.and_eq_false_iff, Int.cast_ofNat_Int, Int.reduceAdd, Int.reduceSub, Int.reduceMul, Int.reduceEq, Int.reduceNe]) (fn35 r4.ins_ r4.ins_ (by omega) (by omega) (fun y hy => by have := t4.2.1 y hy; omega) (fun y hy => by have := t4.2.1 y hy; omega)) ⟨rfl, trivial⟩ trivial ?_
  simp only [go_sem, Nat.reduceEqDiff, Nat.reduceBEq, Nat.reduceAdd, Nat.reduceMul, Nat.reduceSub, Nat.reduceLeDiff, Nat.reduceLT, reduceIte, reduceCtorEq, Int.reduceToNat, Int.reduceLE, Int.reduceLT, Int.reduceNeg, Bool.not_not, and_self, Bool.and_eq_false_iff, Int.cast_ofNat_Int, Int.reduceAdd, Int.reduceSub, Int.reduceMul, Int.reduceEq, Int.reduceNe]
  refine runR_callgf (by simp only [go_sem, Nat.reduceEqDiff, Nat.reduceBEq, Nat.reduceAdd, Nat.reduceMul, Nat.reduceSub, Nat.reduceLeDiff, Nat.reduceLT, reduceIte, reduceCtorEq, Int.reduceToNat, Int.reduceLE, Int.reduceLT, Int.reduceNeg, Bool.not_not, and_self, Bool.and_eq_false_iff, Int.cast_ofNat_Int, Int.reduceAdd, Int.reduceSub, Int.reduceMul, Int.reduceEq, Int.reduceNe]) (by simp only [go_sem, Nat.reduceEqDiff, Nat.reduceBEq, Nat.reduceAdd, Nat.reduceMul, Nat.reduceSub, Nat.reduceLeDiff, Nat.reduceLT, reduceIte, reduceCtorEq, Int.reduceToNat, Int.reduceLE, Int.reduceLT, Int.reduceNeg, Bool.not_not, and_self, Bool.and_eq_false_iff, Int.cast_ofNat_Int, Int.reduceAdd, Int.reduceSub, Int.reduceMul, Int.reduceEq, Int.reduceNe]) (by simp only [go_sem, Nat.reduceEqDiff, Nat.reduceBEq, Nat.reduceAdd, Nat.reduceMul, Nat.reduceSub, Nat.reduceLeDiff, Nat.reduceLT, reduceIte, reduceCtorEq, Int.reduceToNat, Int.reduceLE, Int.reduceLT, Int.reduceNeg, Bool.not_not, and_self, Bool.and_eq_false_iff, Int.cast_ofNat_Int, Int.reduceAdd, Int.reduceSub, Int.reduceMul, Int.reduceEq, Int.reduceNe]) (fun _ => fn21 r4.fired r4.fired (by omega) (by omega)) rfl ?_
  simp only [go_sem, Nat.reduceEqDiff, Nat.reduceBEq, Nat.reduceAdd, Nat.reduceMul, Nat.reduceSub, Nat.reduceLeDiff, Nat.reduceLT, reduceIte, reduceCtorEq, Int.reduceToNat, Int.reduceLE, Int.reduceLT, Int.reduceNeg, Bool.not_not, and_self, Bool.and_eq_false_iff, Int.cast_ofNat_Int, Int.reduceAdd, Int.reduceSub, Int.reduceMul, Int.reduceEq, Int.reduceNe]
  refine runR_callgf (by simp only [go_sem, Nat.reduceEqDiff, Nat.reduceBEq, Nat.reduceAdd, Nat.reduceMul, Nat.reduceSub, Nat.reduceLeDiff, Nat.reduceLT, reduceIte, reduceCtorEq, Int.reduceToNat, Int.reduceLE, Int.reduceLT, Int.reduceNeg, Bool.not_not, and_self, Bool.and_eq_false_iff, Int.cast_ofNat_Int, Int.reduceAdd, Int.reduceSub, Int.reduceMul, Int.reduceEq, Int.reduceNe]) (by simp only [go_sem, Nat.reduceEqDiff, Nat.reduceBEq, Nat.reduceAdd, Nat.reduceMul, Nat.reduceSub, Nat.reduceLeDiff, Nat.reduceLT, reduceIte, reduceCtorEq, Int.reduceToNat, Int.reduceLE, Int.reduceLT, Int.reduceNeg, Bool.not_not, and_self, Bool.and_eq_false_iff, Int.cast_ofNat_Int, Int.reduceAdd, Int.reduceSub, Int.reduceMul, Int.reduceEq, Int.reduceNe]) (by simp only [go_sem, Nat.reduceEqDiff, Nat.reduceBEq, Nat.reduceAdd, Nat.reduceMul, Nat.reduceSub, Nat.reduceLeDiff, Nat.reduceLT, reduceIte, reduceCtorEq, Int.reduceToNat, Int.reduceLE, Int.reduceLT, Int.reduceNeg, Bool.not_not, and_self, Bool.and_eq_false_iff, Int.cast_ofNat_Int, Int.reduceAdd, Int.reduceSub, Int.reduceMul, Int.reduceEq, Int.reduceNe]) (fun _ => fn21 r3.fired r3.fired (by omega) (by omega)) rfl ?_
  simp only [go_sem, Nat.reduceEqDiff, Nat.reduceBEq, Nat.reduceAdd, Nat.reduceMul, Nat.reduceSub, Nat.reduceLeDiff, Nat.reduceLT, reduceIte, reduceCtorEq, Int.reduceToNat, Int.reduceLE, Int.reduceLT, Int.reduceNeg, Bool.not_not, and_self, Bool.and_eq_false_iff, Int.cast_ofNat_Int, Int.reduceAdd, Int.reduceSub, Int.reduceMul, Int.reduceEq, Int.reduceNe]
  refine runR_callgf (by simp only [go_sem, Nat.reduceEqDiff, Nat.reduceBEq, Nat.reduceAdd, Nat.reduceMul, Nat.reduceSub, Nat.reduceLeDiff, Nat.reduceLT, reduceIte, reduceCtorEq, Int.reduceToNat, Int.reduceLE, Int.reduceLT, Int.reduceNeg, Bool.not_not, and_self, Bool.and_eq_false_iff, Int.cast_ofNat_Int, Int.reduceAdd, Int.reduceSub, Int.reduceMul, Int.reduceEq, Int.reduceNe]) (by simp only [go_sem, Nat.reduceEqDiff, Nat.reduceBEq, Nat.reduceAdd, Nat.reduceMul, Nat.reduceSub, Nat.reduceLeDiff, Nat.reduceLT, reduceIte, reduceCtorEq, Int.reduceToNat, Int.reduceLE, Int.reduceLT, Int.reduceNeg, Bool.not_not, and_self, Bool.and_eq_false_iff, Int.cast_ofNat_Int, Int.reduceAdd, Int.reduceSub, Int.reduceMul, Int.reduceEq, Int.reduceNe]) (by simp only [go_sem, Nat.reduceEqDiff, Nat.reduceBEq, Nat.reduceAdd, Nat.reduceMul, Nat.reduceSub, Nat.reduceLeDiff, Nat.reduceLT, reduceIte, reduceCtorEq, Int.reduceToNat, Int.reduceLE, Int.reduceLT, Int.reduceNeg, Bool.not_not, and_self, Bool.and_eq_false_iff, Int.cast_ofNat_Int, Int.reduceAdd, Int.reduceSub, Int.reduceMul, Int.reduceEq, Int.reduceNe]) (fun _ => fn33) rfl ?_
  simp only [go_sem, Nat.reduceEqDiff, Nat.reduceBEq, Nat.reduceAdd, Nat.reduceMul, Nat.reduceSub, Nat.reduceLeDiff, Nat.reduceLT, reduceIte, reduceCtorEq, Int.reduceToNat, Int.reduceLE, Int.reduceLT, Int.reduceNeg, Bool.not_not, and_self, Bool.and_eq_false_iff, Int.cast_ofNat_Int, Int.reduceAdd, Int.reduceSub, Int.reduceMul, Int.reduceEq, Int.reduceNe]
theorem mem_allI {l : List In} {k : Kp} : k ∈ allI l ↔ ∃ x ∈ l, k ∈ x.l := by
  unfold allI
  rw [List.mem_flatten]
  constructor
  · rintro ⟨s, hs, hk⟩
    obtain ⟨x, hx, rfl⟩ := List.mem_map.1 hs
    exact ⟨x, hx, hk⟩
  · rintro ⟨x, hx, hk⟩
    exact ⟨x.l, List.mem_map.2 ⟨x, hx, rfl⟩, hk⟩
theorem tw_all {q : Kp → Bool} : ∀ {l : List Kp}, (∀ k ∈ l, q k = true) → l.takeWhile q = l
  | [], _ => rfl
  | a :: l, h => by
    rw [List.takeWhile_cons, if_pos (h a (by simp)), tw_all fun k hk => h k (List.mem_cons_of_mem _ hk)]
theorem GoodI.at_ {j : Jn} {l : List In} (g : GoodI j l) {k : Kp} (h : k ∈ allI l) : 0 ≤ k.at_ ∧ k.at_ ≤ 1099511627775 := by
  obtain ⟨x, hx, hk⟩ := mem_allI.1 h
  exact checkJ_at (g.one x hx).2.2 k hk
theorem getD_mem {l : List Kp} (h : l ≠ []) : l.getD (l.length - 1) default ∈ l := by
  have : 0 < l.length := List.length_pos_iff.2 h
  rw [getD_get (by omega)]
  exact List.getElem_mem _
theorem expire_all {j : Jn} {l : List In} (g : GoodI j l) {now : Int} (ht : timeB now = true) (h : ∀ k ∈ allI l, k.at_ + j.window < now) : expireI j l now = ⟨[], allI l, true⟩ := by
  have hw := mayJ_win g.may
  have hov : ∀ x ∈ l, nOver j now x.l = x.l.length := fun x hx => by
    unfold nOver
    have : x.l.takeWhile (isOver j now) = x.l := tw_all fun k hk => by
      simpa [isOver] using h k (mem_allI.2 ⟨x, hx, hk⟩)
    rw [this]
  have hea : l.any (fun x => earlyK x.l now) = false := by
    rw [List.any_eq_false]
    intro x hx
    have hne := (g.one x hx).2.1
    rw [early_iff x.l hne]
    have := h _ (mem_allI.2 ⟨x, hx, getD_mem hne⟩)
    simp only [decide_eq_true_eq]; omega
  unfold expireI
  rw [if_pos ⟨checkI_iff.2 g, ht, hea⟩]
  have e1 : leftI j now l = [] := by
    unfold leftI
    rw [List.filter_eq_nil_iff]
    intro y hy
    obtain ⟨x, hx, rfl⟩ := List.mem_map.1 hy
    simp [leftOne, hov x hx]
  have e2 : overI j now l = allI l := by
    unfold overI allI
    congr 1
    refine List.map_congr_left fun x hx => ?_
    rw [hov x hx, List.take_length]
  rw [e1, e2]
theorem expire_none {j : Jn} {l : List In} (g : GoodI j l) {now : Int} (ht : timeB now = true) (h : ∀ k ∈ allI l, now ≤ k.at_ + j.window ∧ k.at_ ≤ now) : expireI j l now = ⟨l, [], true⟩ := by
  have hov : ∀ x ∈ l, nOver j now x.l = 0 := fun x hx => by
    unfold nOver
    cases hx2 : x.l with
    | nil => rfl
    | cons k r =>
      have := h k (mem_allI.2 ⟨x, hx, by rw [hx2]; simp⟩)
      rw [List.takeWhile_cons, if_neg (by simp [isOver]; omega)]
      rfl
  have hea : l.any (fun x => earlyK x.l now) = false := by
    rw [List.any_eq_false]
    intro x hx
    have hne := (g.one x hx).2.1
    rw [early_iff x.l hne]
    have := h _ (mem_allI.2 ⟨x, hx, getD_mem hne⟩)
    simp only [decide_eq_true_eq]; omega
  unfold expireI
  rw [if_pos ⟨checkI_iff.2 g, ht, hea⟩]
  have e1 : leftI j now l = l := by
    unfold leftI
    have : l.map (leftOne j now) = l := by
      conv => rhs; rw [← List.map_id l]
      refine List.map_congr_left fun x hx => ?_
      simp [leftOne, hov x hx]
    rw [this, List.filter_eq_self]
    intro x hx
    simpa using (g.one x hx).2.1
  have e2 : overI j now l = [] := by
    unfold overI
    have : l.map (fun x => x.l.take (nOver j now x.l)) = l.map (fun _ => []) := List.map_congr_left fun x hx => by simp [hov x hx]
    rw [this]
    simp
  rw [e1, e2]
set_option maxHeartbeats 1000000 in
theorem law16 (q : Fd) (hl : q.l.length ≤ 9223372036854775807) (hk : ∀ x ∈ q.l, x.l.length ≤ 9223372036854775807) : Fn Try.prog 16 [q.pv] (.pv (pB true)) [] := by
  refine Run16 [] (by simp) ?_
  simp only [go_sem, Nat.reduceEqDiff, Nat.reduceBEq, Nat.reduceAdd, Nat.reduceMul, Nat.reduceSub, Nat.reduceLeDiff, Nat.reduceLT, reduceIte, reduceCtorEq, Int.reduceToNat, Int.reduceLE, Int.reduceLT, Int.reduceNeg, Bool.not_not, and_self, Bool.and_eq_false_iff, Int.cast_ofNat_Int, Int.reduceAdd, Int.reduceSub, Int.reduceMul, Int.reduceEq, Int.reduceNe, M16]
  refine runG_callf (by simp only [go_sem, Nat.reduceEqDiff, Nat.reduceBEq, Nat.reduceAdd, Nat.reduceMul, Nat.reduceSub, Nat.reduceLeDiff, Nat.reduceLT, reduceIte, reduceCtorEq, Int.reduceToNat, Int.reduceLE, Int.reduceLT, Int.reduceNeg, Bool.not_not, and_self, Bool.and_eq_false_iff, Int.cast_ofNat_Int, Int.reduceAdd, Int.reduceSub, Int.reduceMul, Int.reduceEq, Int.reduceNe]) (by simp only [go_sem, Nat.reduceEqDiff, Nat.reduceBEq, Nat.reduceAdd, Nat.reduceMul, Nat.reduceSub, Nat.reduceLeDiff, Nat.reduceLT, reduceIte, reduceCtorEq, Int.reduceToNat, Int.reduceLE, Int.reduceLT, Int.reduceNeg, Bool.not_not, and_self, Bool.and_eq_false_iff, Int.cast_ofNat_Int, Int.reduceAdd, Int.reduceSub, Int.reduceMul, Int.reduceEq, Int.reduceNe]) (fn17 q.j) ⟨rfl, trivial⟩ trivial ?_
  simp only [go_sem, Nat.reduceEqDiff, Nat.reduceBEq, Nat.reduceAdd, Nat.reduceMul, Nat.reduceSub, Nat.reduceLeDiff, Nat.reduceLT, reduceIte, reduceCtorEq, Int.reduceToNat, Int.reduceLE, Int.reduceLT, Int.reduceNeg, Bool.not_not, and_self, Bool.and_eq_false_iff, Int.cast_ofNat_Int, Int.reduceAdd, Int.reduceSub, Int.reduceMul, Int.reduceEq, Int.reduceNe]
  refine runG_call (by simp only [go_sem, Nat.reduceEqDiff, Nat.reduceBEq, Nat.reduceAdd, Nat.reduceMul, Nat.reduceSub, Nat.reduceLeDiff, Nat.reduceLT, reduceIte, reduceCtorEq, Int.reduceToNat, Int.reduceLE, Int.reduceLT, Int.reduceNeg, Bool.not_not, and_self, Bool.and_eq_false_iff, Int.cast_ofNat_Int, Int.reduceAdd, Int.reduceSub, Int.reduceMul, Int.reduceEq, Int.reduceNe]) rfl (fn34 q.l hl hk) (.inl rfl) trivial ?_
  simp only [go_sem, Nat.reduceEqDiff, Nat.reduceBEq, Nat.reduceAdd, Nat.reduceMul, Nat.reduceSub, Nat.reduceLeDiff, Nat.reduceLT, reduceIte, reduceCtorEq, Int.reduceToNat, Int.reduceLE, Int.reduceLT, Int.reduceNeg, Bool.not_not, and_self, Bool.and_eq_false_iff, Int.cast_ofNat_Int, Int.reduceAdd, Int.reduceSub, Int.reduceMul, Int.reduceEq, Int.reduceNe]
  have h1 := fewI_lt q.l
  generalize fewI q.l = l at *
  generalize kindOf q.j = j
  refine runR_callf (by simp only [go_sem, Nat.reduceEqDiff, Nat.reduceBEq, Nat.reduceAdd, Nat.reduceMul, Nat.reduceSub, Nat.reduceLeDiff, Nat.reduceLT, reduceIte, reduceCtorEq, Int.reduceToNat, Int.reduceLE, Int.reduceLT, Int.reduceNeg, Bool.not_not, and_self, Bool.and_eq_false_iff, Int.cast_ofNat_Int, Int.reduceAdd, Int.reduceSub, Int.reduceMul, Int.reduceEq, Int.reduceNe]) (by simp only [go_sem, Nat.reduceEqDiff, Nat.reduceBEq, Nat.reduceAdd, Nat.reduceMul, Nat.reduceSub, Nat.reduceLeDiff, Nat.reduceLT, reduceIte, reduceCtorEq, Int.reduceToNat, Int.reduceLE, Int.reduceLT, Int.reduceNeg, Bool.not_not, and_self, Bool.and_eq_false_iff, Int.cast_ofNat_Int, Int.reduceAdd, Int.reduceSub, Int.reduceMul, Int.reduceEq, Int.reduceNe]) (fn37 j l (by omega) (fun y hy => by have := h1.2 y hy; omega)) ⟨rfl, trivial⟩ trivial ?_
  cases hc : checkI j l with
  | false =>
    simp only [go_sem, Nat.reduceEqDiff, Nat.reduceBEq, Nat.reduceAdd, Nat.reduceMul, Nat.reduceSub, Nat.reduceLeDiff, Nat.reduceLT, reduceIte, reduceCtorEq, Int.reduceToNat, Int.reduceLE, Int.reduceLT, Int.reduceNeg, Bool.not_not, and_self, Bool.and_eq_false_iff, Int.cast_ofNat_Int, Int.reduceAdd, Int.reduceSub, Int.reduceMul, Int.reduceEq, Int.reduceNe, errN]
    refine runR_callf (by simp only [go_sem, Nat.reduceEqDiff, Nat.reduceBEq, Nat.reduceAdd, Nat.reduceMul, Nat.reduceSub, Nat.reduceLeDiff, Nat.reduceLT, reduceIte, reduceCtorEq, Int.reduceToNat, Int.reduceLE, Int.reduceLT, Int.reduceNeg, Bool.not_not, and_self, Bool.and_eq_false_iff, Int.cast_ofNat_Int, Int.reduceAdd, Int.reduceSub, Int.reduceMul, Int.reduceEq, Int.reduceNe]) (by simp only [go_sem, Nat.reduceEqDiff, Nat.reduceBEq, Nat.reduceAdd, Nat.reduceMul, Nat.reduceSub, Nat.reduceLeDiff, Nat.reduceLT, reduceIte, reduceCtorEq, Int.reduceToNat, Int.reduceLE, Int.reduceLT, Int.reduceNeg, Bool.not_not, and_self, Bool.and_eq_false_iff, Int.cast_ofNat_Int, Int.reduceAdd, Int.reduceSub, Int.reduceMul, Int.reduceEq, Int.reduceNe]) (fn33) ⟨rfl, trivial⟩ trivial ?_
    simp only [go_sem, Nat.reduceEqDiff, Nat.reduceBEq, Nat.reduceAdd, Nat.reduceMul, Nat.reduceSub, Nat.reduceLeDiff, Nat.reduceLT, reduceIte, reduceCtorEq, Int.reduceToNat, Int.reduceLE, Int.reduceLT, Int.reduceNeg, Bool.not_not, and_self, Bool.and_eq_false_iff, Int.cast_ofNat_Int, Int.reduceAdd, Int.reduceSub, Int.reduceMul, Int.reduceEq, Int.reduceNe]
  | true =>
    simp only [go_sem, Nat.reduceEqDiff, Nat.reduceBEq, Nat.reduceAdd, Nat.reduceMul, Nat.reduceSub, Nat.reduceLeDiff, Nat.reduceLT, reduceIte, reduceCtorEq, Int.reduceToNat, Int.reduceLE, Int.reduceLT, Int.reduceNeg, Bool.not_not, and_self, Bool.and_eq_false_iff, Int.cast_ofNat_Int, Int.reduceAdd, Int.reduceSub, Int.reduceMul, Int.reduceEq, Int.reduceNe, errN]
    refine runR_call (by simp only [go_sem, Nat.reduceEqDiff, Nat.reduceBEq, Nat.reduceAdd, Nat.reduceMul, Nat.reduceSub, Nat.reduceLeDiff, Nat.reduceLT, reduceIte, reduceCtorEq, Int.reduceToNat, Int.reduceLE, Int.reduceLT, Int.reduceNeg, Bool.not_not, and_self, Bool.and_eq_false_iff, Int.cast_ofNat_Int, Int.reduceAdd, Int.reduceSub, Int.reduceMul, Int.reduceEq, Int.reduceNe]) rfl (fn32 l (by omega) (fun y hy => by have := h1.2 y hy; omega)) (.inl rfl) trivial ?_
    simp only [go_sem, Nat.reduceEqDiff, Nat.reduceBEq, Nat.reduceAdd, Nat.reduceMul, Nat.reduceSub, Nat.reduceLeDiff, Nat.reduceLT, reduceIte, reduceCtorEq, Int.reduceToNat, Int.reduceLE, Int.reduceLT, Int.reduceNeg, Bool.not_not, and_self, Bool.and_eq_false_iff, Int.cast_ofNat_Int, Int.reduceAdd, Int.reduceSub, Int.reduceMul, Int.reduceEq, Int.reduceNe]
    have g := checkI_iff.1 hc
    have hw := mayJ_win g.may
    have hat := fun k (h : k ∈ allI l) => g.at_ h
    have hcb := countI_bound g.lt.1 g.lt.2
    rw [← allI_len] at hcb
    have hall := fun now ht h => expire_all (now := now) g ht h
    have hnon := fun now ht h => expire_none (now := now) g ht h
    generalize allI l = all at *
    refine run_loop (T := Nat × Int × Int) (fun t => ⟨[(3, .ptr 3 0), (4, .pv (ins l)), (5, .pv (pI t.2.1)), (6, .pv (pI t.2.2)), (7, .pv (ks all)), (8, .pv (pI t.1))], [(3, .box [.pv (pS j.kind), .pv (pI j.parts), .pv (pI j.need), .pv (pI j.window)])]⟩)
      (fun t => t.1 ≤ all.length ∧ (0 ≤ t.2.1 ∧ t.2.1 ≤ 1099511627775) ∧ (0 ≤ t.2.2 ∧ t.2.2 ≤ 1099511627775) ∧ ∀ k ∈ all.take t.1, t.2.1 ≤ k.at_ ∧ k.at_ ≤ t.2.2) (fun t => all.length - t.1) ⟨0, 1099511627775, 0⟩ rfl ⟨Nat.zero_le _, ⟨by decide, by decide⟩, ⟨by decide, by decide⟩, fun k hk => by simp at hk⟩ ?_
    rintro ⟨i, f, la⟩ ⟨hi, hf, hla, hr⟩
    simp only at hi hf hla hr
    by_cases hlt : i < all.length
    · have hai := hat _ (List.getElem_mem hlt)
      simp only [go_sem, Nat.reduceEqDiff, Nat.reduceBEq, Nat.reduceAdd, Nat.reduceMul, Nat.reduceSub, Nat.reduceLeDiff, Nat.reduceLT, reduceIte, reduceCtorEq, Int.reduceToNat, Int.reduceLE, Int.reduceLT, Int.reduceNeg, Bool.not_not, and_self, Bool.and_eq_false_iff, Int.cast_ofNat_Int, Int.reduceAdd, Int.reduceSub, Int.reduceMul, Int.reduceEq, Int.reduceNe, B16_0, wf_ks, getD_ks hlt, getD_get hlt, show (i : Int) < (all.length : Int) by omega]
      refine ⟨⟨by omega, by omega⟩, ⟨i + 1, if all[i].at_ < f then all[i].at_ else f, if la < all[i].at_ then all[i].at_ else la⟩, rfl, ⟨hlt, ?_, ?_, ?_⟩, by simp only; omega⟩
      · simp only; split <;> omega
      · simp only; split <;> omega
      · intro k hk
        simp only at hk ⊢
        rw [take_snoc hlt, getD_get hlt] at hk
        rcases List.mem_append.1 hk with hk | hk
        · have := hr k hk
          constructor <;> split <;> omega
        · simp only [List.mem_cons, List.not_mem_nil, or_false] at hk
          subst hk
          constructor <;> split <;> omega
    · have hie : i = all.length := by omega
      subst hie
      rw [List.take_length] at hr
      simp only [go_sem, Nat.reduceEqDiff, Nat.reduceBEq, Nat.reduceAdd, Nat.reduceMul, Nat.reduceSub, Nat.reduceLeDiff, Nat.reduceLT, reduceIte, reduceCtorEq, Int.reduceToNat, Int.reduceLE, Int.reduceLT, Int.reduceNeg, Bool.not_not, and_self, Bool.and_eq_false_iff, Int.cast_ofNat_Int, Int.reduceAdd, Int.reduceSub, Int.reduceMul, Int.reduceEq, Int.reduceNe, B16_0, R16_0, show ¬ ((all.length : Int) < (all.length : Int)) by omega]
      refine ⟨fun h => ⟨h, by omega, by omega⟩, fun h => ⟨h, by omega, by omega⟩, fun h => ?_, fun h => ?_⟩
      · refine runR_callf (by simp only [go_sem, Nat.reduceEqDiff, Nat.reduceBEq, Nat.reduceAdd, Nat.reduceMul, Nat.reduceSub, Nat.reduceLeDiff, Nat.reduceLT, reduceIte, reduceCtorEq, Int.reduceToNat, Int.reduceLE, Int.reduceLT, Int.reduceNeg, Bool.not_not, and_self, Bool.and_eq_false_iff, Int.cast_ofNat_Int, Int.reduceAdd, Int.reduceSub, Int.reduceMul, Int.reduceEq, Int.reduceNe]) (by simp only [go_sem, Nat.reduceEqDiff, Nat.reduceBEq, Nat.reduceAdd, Nat.reduceMul, Nat.reduceSub, Nat.reduceLeDiff, Nat.reduceLT, reduceIte, reduceCtorEq, Int.reduceToNat, Int.reduceLE, Int.reduceLT, Int.reduceNeg, Bool.not_not, and_self, Bool.and_eq_false_iff, Int.cast_ofNat_Int, Int.reduceAdd, Int.reduceSub, Int.reduceMul, Int.reduceEq, Int.reduceNe]) (fn33) ⟨rfl, trivial⟩ trivial ?_
        simp only [go_sem, Nat.reduceEqDiff, Nat.reduceBEq, Nat.reduceAdd, Nat.reduceMul, Nat.reduceSub, Nat.reduceLeDiff, Nat.reduceLT, reduceIte, reduceCtorEq, Int.reduceToNat, Int.reduceLE, Int.reduceLT, Int.reduceNeg, Bool.not_not, and_self, Bool.and_eq_false_iff, Int.cast_ofNat_Int, Int.reduceAdd, Int.reduceSub, Int.reduceMul, Int.reduceEq, Int.reduceNe]
      have e1 := hall (la + j.window + 1) ((timeB_iff _).2 (by omega)) (fun k hk => by have := hr k hk; omega)
      have f43 := fn43 j l (la + j.window + 1) (by omega) (fun y hy => by have := h1.2 y hy; omega)
      rw [e1] at f43
      refine ⟨⟨by omega, by omega⟩, ⟨by omega, by omega⟩, ?_⟩
      refine runR_call (by simp only [go_sem, Nat.reduceEqDiff, Nat.reduceBEq, Nat.reduceAdd, Nat.reduceMul, Nat.reduceSub, Nat.reduceLeDiff, Nat.reduceLT, reduceIte, reduceCtorEq, Int.reduceToNat, Int.reduceLE, Int.reduceLT, Int.reduceNeg, Bool.not_not, and_self, Bool.and_eq_false_iff, Int.cast_ofNat_Int, Int.reduceAdd, Int.reduceSub, Int.reduceMul, Int.reduceEq, Int.reduceNe]) rfl (f43) (.inl rfl) trivial ?_
      simp only [go_sem, Nat.reduceEqDiff, Nat.reduceBEq, Nat.reduceAdd, Nat.reduceMul, Nat.reduceSub, Nat.reduceLeDiff, Nat.reduceLT, reduceIte, reduceCtorEq, Int.reduceToNat, Int.reduceLE, Int.reduceLT, Int.reduceNeg, Bool.not_not, and_self, Bool.and_eq_false_iff, Int.cast_ofNat_Int, Int.reduceAdd, Int.reduceSub, Int.reduceMul, Int.reduceEq, Int.reduceNe, errN]
      refine ⟨⟨by omega, by omega⟩, fun h2 => ?_, fun h2 => ?_⟩
      · refine runR_callf (by simp only [go_sem, Nat.reduceEqDiff, Nat.reduceBEq, Nat.reduceAdd, Nat.reduceMul, Nat.reduceSub, Nat.reduceLeDiff, Nat.reduceLT, reduceIte, reduceCtorEq, Int.reduceToNat, Int.reduceLE, Int.reduceLT, Int.reduceNeg, Bool.not_not, and_self, Bool.and_eq_false_iff, Int.cast_ofNat_Int, Int.reduceAdd, Int.reduceSub, Int.reduceMul, Int.reduceEq, Int.reduceNe]) (by simp only [go_sem, Nat.reduceEqDiff, Nat.reduceBEq, Nat.reduceAdd, Nat.reduceMul, Nat.reduceSub, Nat.reduceLeDiff, Nat.reduceLT, reduceIte, reduceCtorEq, Int.reduceToNat, Int.reduceLE, Int.reduceLT, Int.reduceNeg, Bool.not_not, and_self, Bool.and_eq_false_iff, Int.cast_ofNat_Int, Int.reduceAdd, Int.reduceSub, Int.reduceMul, Int.reduceEq, Int.reduceNe]) (fn33) ⟨rfl, trivial⟩ trivial ?_
        simp only [go_sem, Nat.reduceEqDiff, Nat.reduceBEq, Nat.reduceAdd, Nat.reduceMul, Nat.reduceSub, Nat.reduceLeDiff, Nat.reduceLT, reduceIte, reduceCtorEq, Int.reduceToNat, Int.reduceLE, Int.reduceLT, Int.reduceNeg, Bool.not_not, and_self, Bool.and_eq_false_iff, Int.cast_ofNat_Int, Int.reduceAdd, Int.reduceSub, Int.reduceMul, Int.reduceEq, Int.reduceNe]
      refine ⟨⟨by omega, by omega⟩, ?_⟩
      have hpos : 0 < all.length := by omega
      have hk0 := List.getElem_mem hpos
      have hfl := hr _ hk0
      have e2 := hnon (f + j.window) ((timeB_iff _).2 (by omega)) (fun k hk => by have := hr k hk; omega)
      have f43b := fn43 j l (f + j.window) (by omega) (fun y hy => by have := h1.2 y hy; omega)
      rw [e2] at f43b
      refine runR_call (by simp only [go_sem, Nat.reduceEqDiff, Nat.reduceBEq, Nat.reduceAdd, Nat.reduceMul, Nat.reduceSub, Nat.reduceLeDiff, Nat.reduceLT, reduceIte, reduceCtorEq, Int.reduceToNat, Int.reduceLE, Int.reduceLT, Int.reduceNeg, Bool.not_not, and_self, Bool.and_eq_false_iff, Int.cast_ofNat_Int, Int.reduceAdd, Int.reduceSub, Int.reduceMul, Int.reduceEq, Int.reduceNe]) rfl (f43b) (.inl rfl) trivial ?_
      simp only [go_sem, Nat.reduceEqDiff, Nat.reduceBEq, Nat.reduceAdd, Nat.reduceMul, Nat.reduceSub, Nat.reduceLeDiff, Nat.reduceLT, reduceIte, reduceCtorEq, Int.reduceToNat, Int.reduceLE, Int.reduceLT, Int.reduceNeg, Bool.not_not, and_self, Bool.and_eq_false_iff, Int.cast_ofNat_Int, Int.reduceAdd, Int.reduceSub, Int.reduceMul, Int.reduceEq, Int.reduceNe, errN]

      refine runR_callf (by simp only [go_sem, Nat.reduceEqDiff, Nat.reduceBEq, Nat.reduceAdd, Nat.reduceMul, Nat.reduceSub, Nat.reduceLeDiff, Nat.reduceLT, reduceIte, reduceCtorEq, Int.reduceToNat, Int.reduceLE, Int.reduceLT, Int.reduceNeg, Bool.not_not, and_self, Bool.and_eq_false_iff, Int.cast_ofNat_Int, Int.reduceAdd, Int.reduceSub, Int.reduceMul, Int.reduceEq, Int.reduceNe]) (by simp only [go_sem, Nat.reduceEqDiff, Nat.reduceBEq, Nat.reduceAdd, Nat.reduceMul, Nat.reduceSub, Nat.reduceLeDiff, Nat.reduceLT, reduceIte, reduceCtorEq, Int.reduceToNat, Int.reduceLE, Int.reduceLT, Int.reduceNeg, Bool.not_not, and_self, Bool.and_eq_false_iff, Int.cast_ofNat_Int, Int.reduceAdd, Int.reduceSub, Int.reduceMul, Int.reduceEq, Int.reduceNe]) (fn35 l l (by omega) (by omega) (fun y hy => by have := h1.2 y hy; omega) (fun y hy => by have := h1.2 y hy; omega)) ⟨rfl, trivial⟩ trivial ?_
      simp only [go_sem, Nat.reduceEqDiff, Nat.reduceBEq, Nat.reduceAdd, Nat.reduceMul, Nat.reduceSub, Nat.reduceLeDiff, Nat.reduceLT, reduceIte, reduceCtorEq, Int.reduceToNat, Int.reduceLE, Int.reduceLT, Int.reduceNeg, Bool.not_not, and_self, Bool.and_eq_false_iff, Int.cast_ofNat_Int, Int.reduceAdd, Int.reduceSub, Int.reduceMul, Int.reduceEq, Int.reduceNe]
      refine runR_callgf (by simp only [go_sem, Nat.reduceEqDiff, Nat.reduceBEq, Nat.reduceAdd, Nat.reduceMul, Nat.reduceSub, Nat.reduceLeDiff, Nat.reduceLT, reduceIte, reduceCtorEq, Int.reduceToNat, Int.reduceLE, Int.reduceLT, Int.reduceNeg, Bool.not_not, and_self, Bool.and_eq_false_iff, Int.cast_ofNat_Int, Int.reduceAdd, Int.reduceSub, Int.reduceMul, Int.reduceEq, Int.reduceNe]) (by simp only [go_sem, Nat.reduceEqDiff, Nat.reduceBEq, Nat.reduceAdd, Nat.reduceMul, Nat.reduceSub, Nat.reduceLeDiff, Nat.reduceLT, reduceIte, reduceCtorEq, Int.reduceToNat, Int.reduceLE, Int.reduceLT, Int.reduceNeg, Bool.not_not, and_self, Bool.and_eq_false_iff, Int.cast_ofNat_Int, Int.reduceAdd, Int.reduceSub, Int.reduceMul, Int.reduceEq, Int.reduceNe]) (by simp only [go_sem, Nat.reduceEqDiff, Nat.reduceBEq, Nat.reduceAdd, Nat.reduceMul, Nat.reduceSub, Nat.reduceLeDiff, Nat.reduceLT, reduceIte, reduceCtorEq, Int.reduceToNat, Int.reduceLE, Int.reduceLT, Int.reduceNeg, Bool.not_not, and_self, Bool.and_eq_false_iff, Int.cast_ofNat_Int, Int.reduceAdd, Int.reduceSub, Int.reduceMul, Int.reduceEq, Int.reduceNe]) (fun _ => fn33) rfl ?_
      simp only [go_sem, Nat.reduceEqDiff, Nat.reduceBEq, Nat.reduceAdd, Nat.reduceMul, Nat.reduceSub, Nat.reduceLeDiff, Nat.reduceLT, reduceIte, reduceCtorEq, Int.reduceToNat, Int.reduceLE, Int.reduceLT, Int.reduceNeg, Bool.not_not, and_self, Bool.and_eq_false_iff, Int.cast_ofNat_Int, Int.reduceAdd, Int.reduceSub, Int.reduceMul, Int.reduceEq, Int.reduceNe]
end Go.Vc

namespace Go.Vc
open Go.Proofs

theorem args1 {a : Bool × List Sh} {qs : List PV} (h : ArgsOk [a] qs) : ∃ p, qs = [p] ∧ ArgOk a p := by
  simp only [ArgsOk] at h
  obtain ⟨p, r, rfl, h1, rfl⟩ := h
  exact ⟨p, rfl, h1⟩
theorem vl_of {p : PV} (h : ArgOk (true, [.bool, .int .i64, .str]) p) : ∃ v : Vl, p = v.pv := by
  obtain ⟨ss, rfl, h⟩ := h
  simp only [OkShs, OkSh] at h
  obtain ⟨_, _, rfl, ⟨b, rfl⟩, _, _, rfl, ⟨n, rfl, _⟩, _, _, rfl, ⟨s, rfl, _⟩, rfl⟩ := h
  exact ⟨⟨b, n, s⟩, rfl⟩
abbrev shIn : List Sh := [.bool, .int .i64, .str, .lst true [.int .i64, .int .u64, .int .i64]]
theorem in_of {ss : List PV} (h : OkShs shIn ss) : ∃ x : {x : In // x.l.length ≤ 9223372036854775807}, PV.agg ss = x.1.pv := by
  simp only [shIn, OkShs] at h
  obtain ⟨_, _, rfl, h1, _, _, rfl, h2, _, _, rfl, h3, p4, _, rfl, h4, rfl⟩ := h
  obtain ⟨l, rfl, hl⟩ := ks_of (p := p4) ⟨_, _, rfl, h4, rfl⟩
  simp only [OkSh] at h1 h2 h3
  obtain ⟨b, rfl⟩ := h1
  obtain ⟨n, rfl, _⟩ := h2
  obtain ⟨s, rfl, _⟩ := h3
  exact ⟨⟨⟨⟨b, n, s⟩, l⟩, hl⟩, rfl⟩
theorem insl_of {p : PV} (h : OkSh (.lst true shIn) p) : ∃ l : List In, p = ins l ∧ l.length ≤ 9223372036854775807 ∧ ∀ x ∈ l, x.l.length ≤ 9223372036854775807 := by
  simp only [OkSh] at h
  obtain ⟨xs, rfl, hl, hx⟩ := h
  obtain ⟨l, rfl⟩ := map_of (f := fun x : {x : In // x.l.length ≤ 9223372036854775807} => x.1.pv) (fun x hx' => by obtain ⟨qs, rfl, hq⟩ := (hx x hx').1 trivial; exact in_of hq)
  refine ⟨l.map (·.1), by simp [List.map_map, Function.comp_def], by simpa [maxLen] using hl, fun x hx' => ?_⟩
  obtain ⟨y, _, rfl⟩ := List.mem_map.1 hx'
  exact y.2
theorem fd_of {p : PV} (h : ArgOk (true, [.str, .int .i64, .int .i64, .int .i64, .lst true shIn, .bool, .int .i64, .str, .int .i64, .int .u64, .int .i64, .int .i64]) p) :
    ∃ q : Fd, p = q.pv ∧ q.l.length ≤ 9223372036854775807 ∧ ∀ x ∈ q.l, x.l.length ≤ 9223372036854775807 := by
  obtain ⟨ss, rfl, h⟩ := h
  simp only [OkShs] at h
  obtain ⟨_, _, rfl, h1, _, _, rfl, h2, _, _, rfl, h3, _, _, rfl, h4, _, _, rfl, h5, _, _, rfl, h6, _, _, rfl, h7, _, _, rfl, h8, _, _, rfl, h9, _, _, rfl, h10, _, _, rfl, h11, _, _, rfl, h12, rfl⟩ := h
  obtain ⟨l, rfl, hl, hk⟩ := insl_of h5
  simp only [OkSh] at h1 h2 h3 h4 h6 h7 h8 h9 h10 h11 h12
  obtain ⟨s, rfl, _⟩ := h1
  obtain ⟨a, rfl, _⟩ := h2
  obtain ⟨b, rfl, _⟩ := h3
  obtain ⟨c, rfl, _⟩ := h4
  obtain ⟨d, rfl⟩ := h6
  obtain ⟨e, rfl, _⟩ := h7
  obtain ⟨f, rfl, _⟩ := h8
  obtain ⟨g, rfl, _⟩ := h9
  obtain ⟨i, rfl, _⟩ := h10
  obtain ⟨j, rfl, _⟩ := h11
  obtain ⟨k, rfl, _⟩ := h12
  exact ⟨⟨⟨s, a, b, c⟩, l, ⟨d, e, f⟩, ⟨g, i, j⟩, k⟩, rfl, hl, hk⟩
end Go.Vc
