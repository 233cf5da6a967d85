/- A part of the proofs of the seat Ytcjhccdbgphboaa: the contracts of functions, each proved out of its code. -/
import Derived.Test.YtcjhccdbgphboaaJe
import Derived.Test.YtcjhccdbgphboaaProg
namespace Go.Vc
open Go.Proofs
set_option maxRecDepth 100000

/-- 'trystlaw09.JoinLate' -/
def M7 : MC := (.seq (.reg [⟨(some 3), none, (.box (.t 0))⟩, ⟨(some 5), none, (.box (.t 2))⟩, ⟨(some 6), none, (.q (.mv (.c (.bool false))))⟩] [] [1, 3, 5] [3, 5, 1019, 1021]) (.seq (.reg [⟨(some 18),
  none, (.q (.ld (.t 3) 4 true))⟩, ⟨(some 19), none, (.call (.f 17) [(.t 18)])⟩, ⟨(some 20), none, (.q (.mv (.t 1)))⟩, ⟨(some 21), none, (.call (.f 18) [(.t 20)])⟩, ⟨none, none, (.st (.t 3) (.t 19)
  4)⟩, ⟨(some 1), none, (.q (.mv (.t 21)))⟩] [] [1, 3, 5] [3, 5, 1019, 1021]) (.seq (.reg [⟨(some 23), none, (.q (.ld (.t 3) 4 true))⟩, ⟨(some 24), none, (.q (.mv (.t 1)))⟩, ⟨(some 25), none,
  (.q (.fa (.t 5) 2))⟩, ⟨(some 26), none, (.q (.ld (.t 25) 1 false))⟩, ⟨(some 27), none, (.call (.f 27) [(.t 23), (.t 24), (.t 26)])⟩, ⟨(some 22), none, (.q (.mv (.t 27)))⟩, ⟨(some 28), none,
  (.q (.ext (.t 22) 0))⟩, ⟨(some 29), none, (.q (.ext (.t 22) 1))⟩, ⟨(some 30), none, (.q (.ext (.t 22) 2))⟩, ⟨(some 7), none, (.q (.mv (.t 28)))⟩, ⟨(some 8), none, (.q (.mv (.t 29)))⟩, ⟨(some 9),
  none, (.q (.mv (.t 30)))⟩] [(1027, 1027, 0)] [1, 3, 5, 7, 8, 9] [3, 5, 1019, 1021, 1027]) (.seq (.reg [⟨(some 32), none, (.q (.ld (.t 3) 4 true))⟩, ⟨(some 33), none, (.q (.mv (.t 1)))⟩, ⟨(some 34),
  none, (.q (.ld (.t 5) 3 true))⟩, ⟨(some 35), none, (.call (.f 19) [(.t 32), (.t 33), (.t 34)])⟩, ⟨(some 31), none, (.q (.mv (.t 35)))⟩, ⟨(some 36), none, (.q (.ext (.t 31) 0))⟩, ⟨(some 37), none,
  (.q (.ext (.t 31) 1))⟩, ⟨(some 38), none, (.q (.ext (.t 31) 2))⟩, ⟨(some 39), none, (.q (.ext (.t 31) 3))⟩, ⟨(some 10), none, (.q (.mv (.t 36)))⟩, ⟨(some 11), none, (.q (.mv (.t 37)))⟩, ⟨(some 12),
  none, (.q (.mv (.t 38)))⟩, ⟨(some 13), none, (.q (.mv (.t 39)))⟩] [] [3, 5, 7, 8, 9, 10, 11, 12, 13] [3, 5, 1019, 1027, 1035]) (.seq (.seq (.reg [⟨(some 40), none, (.q (.mv (.t 9)))⟩, ⟨(some 41),
  none, (.q (.bin .neq (.t 40) (.c (.int .i64 0))))⟩, ⟨(some 42), none, (.q (.mv (.t 41)))⟩, ⟨(some 43), (some (42, false)), (.q (.mv (.t 13)))⟩, ⟨(some 44), (some (42, false)), (.q (.bin .neq (.t 43)
  (.c (.int .i64 0))))⟩, ⟨(some 45), none, (.q (.pick (.t 42) (.c (.bool true)) (.t 44)))⟩, ⟨(some 46), none, (.q (.mv (.t 45)))⟩, ⟨(some 47), (some (46, false)), (.q (.ld (.t 3) 4 true))⟩,
  ⟨(some 48), (some (46, false)), (.q (.mv (.t 7)))⟩, ⟨(some 49), (some (46, false)), (.call (.f 24) [(.t 47), (.t 48)])⟩, ⟨(some 50), (some (46, false)), (.q (.bin .neq (.t 49) (.c (.int .i64 0))))⟩,
  ⟨(some 51), none, (.q (.pick (.t 46) (.c (.bool true)) (.t 50)))⟩] [] [3, 5, 7, 8, 10, 11, 12, 51] [3, 5, 1019, 1027, 1035, 1049]) (.cond (.t 51) (.seq (.reg [⟨(some 52), none, (.call (.f 26) [])⟩,
  ⟨(some 6), none, (.q (.mv (.t 52)))⟩] [] [6] [1052, 1057, 1067, 1072, 1082, 1085]) .ret) .skip)) (.seq (.reg [⟨(some 54), none, (.q (.ld (.t 3) 4 true))⟩, ⟨(some 55), none, (.q (.mv (.t 7)))⟩,
  ⟨(some 56), none, (.q (.ld (.t 5) 3 true))⟩, ⟨(some 57), none, (.call (.f 19) [(.t 54), (.t 55), (.t 56)])⟩, ⟨(some 53), none, (.q (.mv (.t 57)))⟩, ⟨(some 58), none, (.q (.ext (.t 53) 0))⟩,
  ⟨(some 59), none, (.q (.ext (.t 53) 1))⟩, ⟨(some 60), none, (.q (.ext (.t 53) 2))⟩, ⟨(some 61), none, (.q (.ext (.t 53) 3))⟩, ⟨(some 14), none, (.q (.mv (.t 58)))⟩, ⟨(some 15), none,
  (.q (.mv (.t 59)))⟩, ⟨(some 16), none, (.q (.mv (.t 60)))⟩, ⟨(some 17), none, (.q (.mv (.t 61)))⟩] [] [8, 10, 11, 12, 14, 15, 16, 17] [1027, 1035, 1057]) (.seq (.reg [⟨(some 62), none,
  (.q (.mv (.t 17)))⟩, ⟨(some 63), none, (.q (.bin .eql (.t 62) (.c (.int .i64 0))))⟩, ⟨(some 64), none, (.q (.mv (.t 63)))⟩, ⟨(some 65), (some (64, true)), (.q (.mv (.t 10)))⟩, ⟨(some 66), (some (64,
  true)), (.q (.mv (.t 14)))⟩, ⟨(some 67), (some (64, true)), (.call (.f 21) [(.t 65), (.t 66)])⟩, ⟨(some 68), none, (.q (.pick (.t 64) (.t 67) (.c (.bool false))))⟩, ⟨(some 69), none,
  (.q (.mv (.t 68)))⟩, ⟨(some 70), (some (69, true)), (.q (.mv (.t 11)))⟩, ⟨(some 71), (some (69, true)), (.q (.mv (.t 15)))⟩, ⟨(some 72), (some (69, true)), (.call (.f 21) [(.t 70), (.t 71)])⟩,
  ⟨(some 73), none, (.q (.pick (.t 69) (.t 72) (.c (.bool false))))⟩, ⟨(some 74), none, (.q (.mv (.t 73)))⟩, ⟨(some 75), (some (74, true)), (.q (.mv (.t 16)))⟩, ⟨(some 76), (some (74, true)),
  (.q (.len (.t 75) false))⟩, ⟨(some 77), (some (74, true)), (.q (.bin .eql (.t 76) (.c (.int .i64 0))))⟩, ⟨(some 78), none, (.q (.pick (.t 74) (.t 77) (.c (.bool false))))⟩, ⟨(some 79), none,
  (.q (.mv (.t 78)))⟩, ⟨(some 80), (some (79, true)), (.q (.mv (.t 12)))⟩, ⟨(some 81), (some (79, true)), (.q (.mv (.t 8)))⟩, ⟨(some 82), (some (79, true)), (.call (.f 21) [(.t 80), (.t 81)])⟩,
  ⟨(some 83), none, (.q (.pick (.t 79) (.t 82) (.c (.bool false))))⟩, ⟨(some 84), none, (.q (.mv (.t 83)))⟩, ⟨(some 85), (some (84, true)), (.call (.f 26) [])⟩, ⟨(some 86), none, (.q (.pick (.t 84)
  (.t 85) (.c (.bool false))))⟩, ⟨(some 6), none, (.q (.mv (.t 86)))⟩] [] [6] [1052, 1057, 1067, 1072, 1082, 1085]) .ret)))))))
theorem mc7 : ofCode Try.prog [] Try.f7.ntmps [(0, ⟨[1, 3, 5], [3, 5, 1019, 1021], [], 0, []⟩),
    (1, ⟨[1, 3, 5], [3, 5, 1019, 1021], [], 0, []⟩),
    (2, ⟨[1, 3, 5, 7, 8, 9], [3, 5, 1019, 1021, 1027], [], 0, [(1027, 1027, 0)]⟩),
    (3, ⟨[3, 5, 7, 8, 9, 10, 11, 12, 13], [3, 5, 1019, 1027, 1035], [], 0, []⟩),
    (4, ⟨[3, 5, 7, 8, 10, 11, 12, 51], [3, 5, 1019, 1027, 1035, 1049], [], 0, []⟩),
    (5, ⟨[6], [1052, 1057, 1067, 1072, 1082, 1085], [], 0, []⟩),
    (6, ⟨[8, 10, 11, 12, 14, 15, 16, 17], [1027, 1035, 1057], [], 0, []⟩),
    (7, ⟨[6], [1052, 1057, 1067, 1072, 1082, 1085], [], 0, []⟩)] (Try.f7.body.getD .skip) = some M7 := by kernel_rfl
theorem Run7 {args : List PV} {v : AV} {rs : List (Nat × List PV)} (ids : List Bool) (h : args.length ≤ 87) (hv : run Try.prog (retK [RV.tmp 6] ids v rs) M7 [] ⟨entry 0 args, []⟩) : Fn Try.prog 7 args v rs :=
  Fn_run ids (by kernel_rfl) Try.func7 (by decide) rfl mc7 (by kernel_rfl) (by rw [Try.ntmps7]; exact h) (by rw [Try.ntmps7]; decide) hv

/-- 'trystlaw09.JoinAll' -/
def B8_0 : MC := (.seq (.seq (.reg [⟨(some 28), none, (.q (.mv (.t 11)))⟩, ⟨(some 29), none, (.q (.mv (.t 7)))⟩, ⟨(some 30), none, (.q (.bin .lss (.t 28) (.t 29)))⟩] [] [1, 2, 7, 8, 9, 10, 11, 30] [8,
  1055, 1077]) (.cond (.t 30) .skip (.exit 0))) (.seq (.block 1 (.seq (.reg [⟨(some 33), none, (.q (.mv (.t 11)))⟩, ⟨(some 34), none, (.q (.mv (.t 1)))⟩, ⟨(some 35), none, (.q (.conv .i64 (.t 34)))⟩,
  ⟨(some 36), none, (.q (.bin .add (.t 33) (.t 35)))⟩, ⟨(some 37), none, (.q (.mv (.t 7)))⟩, ⟨(some 38), none, (.q (.bin .rem (.t 36) (.t 37)))⟩, ⟨(some 12), none, (.q (.mv (.t 38)))⟩] [] [1, 2, 7, 8,
  9, 10, 11, 12] [8, 1055, 1077]) (.seq (.seq (.reg [⟨(some 39), none, (.q (.mv (.t 2)))⟩, ⟨(some 40), none, (.q (.mv (.t 39)))⟩, ⟨(some 41), (some (40, true)), (.q (.mv (.t 11)))⟩, ⟨(some 42),
  (some (40, true)), (.q (.mv (.t 7)))⟩, ⟨(some 43), (some (40, true)), (.q (.bin .sub (.t 42) (.c (.int .i64 1))))⟩, ⟨(some 44), (some (40, true)), (.q (.bin .lss (.t 41) (.t 43)))⟩, ⟨(some 45),
  none, (.q (.pick (.t 40) (.t 44) (.c (.bool false))))⟩] [] [1, 2, 7, 8, 9, 10, 11, 12, 45] [8, 1055, 1077]) (.cond (.t 45) (.seq (.reg [⟨(some 46), none, (.q (.mv (.t 10)))⟩, ⟨(some 47), none,
  (.q (.bin .add (.t 46) (.c (.int .u64 1))))⟩, ⟨(some 10), none, (.q (.mv (.t 47)))⟩] [] [1, 2, 7, 8, 9, 10, 11, 12] [8, 1055, 1077]) (.seq (.reg [⟨(some 49), none, (.q (.ld (.t 8) 4 true))⟩,
  ⟨(some 50), none, (.q (.mv (.t 9)))⟩, ⟨(some 51), none, (.q (.mv (.t 12)))⟩, ⟨(some 52), none, (.q (.mv (.t 10)))⟩, ⟨(some 53), none, (.q (.mv (.t 11)))⟩, ⟨(some 54), none,
  (.q (.mk [(.pv (.sc (.int .i64 0))), (.pv (.sc (.int .u64 0))), (.pv (.sc (.int .i64 0)))] [(0, 1, (.t 51)), (1, 1, (.t 52)), (2, 1, (.t 53))]))⟩, ⟨(some 55), none, (.call (.f 19) [(.t 49), (.t 50),
  (.t 54)])⟩, ⟨(some 48), none, (.q (.mv (.t 55)))⟩, ⟨(some 56), none, (.q (.ext (.t 48) 0))⟩, ⟨(some 57), none, (.q (.ext (.t 48) 1))⟩, ⟨(some 58), none, (.q (.ext (.t 48) 2))⟩, ⟨(some 59), none,
  (.q (.ext (.t 48) 3))⟩, ⟨(some 13), none, (.q (.mv (.t 56)))⟩, ⟨(some 14), none, (.q (.mv (.t 57)))⟩, ⟨(some 15), none, (.q (.mv (.t 58)))⟩, ⟨(some 16), none, (.q (.mv (.t 59)))⟩] [] [1, 2, 7, 8,
  10, 11, 12, 13, 14, 16] [8, 1055]) (.seq (.seq (.reg [⟨(some 60), none, (.q (.mv (.t 16)))⟩, ⟨(some 61), none, (.q (.bin .neq (.t 60) (.c (.int .i64 0))))⟩, ⟨(some 62), none, (.q (.mv (.t 61)))⟩,
  ⟨(some 63), (some (62, false)), (.q (.mv (.t 14)))⟩, ⟨(some 64), (some (62, false)), (.q (.len (.t 63) false))⟩, ⟨(some 65), (some (62, false)), (.q (.bin .neq (.t 64) (.c (.int .i64 0))))⟩,
  ⟨(some 66), none, (.q (.pick (.t 62) (.c (.bool true)) (.t 65)))⟩] [] [1, 2, 7, 8, 10, 11, 12, 13, 66] [8, 1055]) (.cond (.t 66) (.seq (.reg [⟨(some 6), none,
  (.q (.mv (.c (.bool false))))⟩] [] [6] [1115]) .ret) .skip)) (.reg [⟨(some 67), none, (.q (.mv (.t 13)))⟩, ⟨(some 9), none, (.q (.mv (.t 67)))⟩] [] [1, 2, 7, 8, 9, 10, 11, 12] [8, 1055, 1077]))))
  .skip)) (.seq (.reg [⟨(some 68), none, (.q (.mv (.t 10)))⟩, ⟨(some 69), none, (.q (.bin .add (.t 68) (.c (.int .u64 1))))⟩, ⟨(some 10), none, (.q (.mv (.t 69)))⟩] [] [1, 2, 7, 8, 9, 10, 11, 12] [8,
  1055, 1077]) (.seq (.reg [⟨(some 71), none, (.q (.ld (.t 8) 4 true))⟩, ⟨(some 72), none, (.q (.mv (.t 9)))⟩, ⟨(some 73), none, (.q (.mv (.t 12)))⟩, ⟨(some 74), none, (.q (.mv (.t 10)))⟩, ⟨(some 75),
  none, (.q (.mv (.t 11)))⟩, ⟨(some 76), none, (.q (.mk [(.pv (.sc (.int .i64 0))), (.pv (.sc (.int .u64 0))), (.pv (.sc (.int .i64 0)))] [(0, 1, (.t 73)), (1, 1, (.t 74)), (2, 1, (.t 75))]))⟩,
  ⟨(some 77), none, (.call (.f 19) [(.t 71), (.t 72), (.t 76)])⟩, ⟨(some 70), none, (.q (.mv (.t 77)))⟩, ⟨(some 78), none, (.q (.ext (.t 70) 0))⟩, ⟨(some 79), none, (.q (.ext (.t 70) 1))⟩, ⟨(some 80),
  none, (.q (.ext (.t 70) 2))⟩, ⟨(some 81), none, (.q (.ext (.t 70) 3))⟩, ⟨(some 17), none, (.q (.mv (.t 78)))⟩, ⟨(some 18), none, (.q (.mv (.t 79)))⟩, ⟨(some 19), none, (.q (.mv (.t 80)))⟩,
  ⟨(some 20), none, (.q (.mv (.t 81)))⟩] [] [1, 2, 7, 8, 10, 11, 17, 18, 20] [8, 1077]) (.seq (.seq (.reg [⟨(some 82), none, (.q (.mv (.t 20)))⟩, ⟨(some 83), none, (.q (.bin .neq (.t 82)
  (.c (.int .i64 0))))⟩, ⟨(some 84), none, (.q (.mv (.t 83)))⟩, ⟨(some 85), (some (84, false)), (.q (.mv (.t 18)))⟩, ⟨(some 86), (some (84, false)), (.q (.len (.t 85) false))⟩, ⟨(some 87), (some (84,
  false)), (.q (.mv (.t 7)))⟩, ⟨(some 88), (some (84, false)), (.q (.bin .eql (.t 86) (.t 87)))⟩, ⟨(some 89), (some (84, false)), (.q (.mv (.t 11)))⟩, ⟨(some 90), (some (84, false)),
  (.q (.mv (.t 7)))⟩, ⟨(some 91), (some (84, false)), (.q (.bin .sub (.t 90) (.c (.int .i64 1))))⟩, ⟨(some 92), (some (84, false)), (.q (.bin .eql (.t 89) (.t 91)))⟩, ⟨(some 93), (some (84, false)),
  (.q (.beq true (.t 88) (.t 92)))⟩, ⟨(some 94), none, (.q (.pick (.t 84) (.c (.bool true)) (.t 93)))⟩, ⟨(some 95), none, (.q (.mv (.t 94)))⟩, ⟨(some 96), (some (95, false)), (.q (.mv (.t 18)))⟩,
  ⟨(some 97), (some (95, false)), (.q (.len (.t 96) false))⟩, ⟨(some 98), (some (95, false)), (.q (.bin .neq (.t 97) (.c (.int .i64 0))))⟩, ⟨(some 99), (some (95, false)), (.q (.mv (.t 98)))⟩,
  ⟨(some 100), (some (99, true)), (.q (.mv (.t 11)))⟩, ⟨(some 101), (some (99, true)), (.q (.mv (.t 7)))⟩, ⟨(some 102), (some (99, true)), (.q (.bin .sub (.t 101) (.c (.int .i64 1))))⟩, ⟨(some 103),
  (some (99, true)), (.q (.bin .lss (.t 100) (.t 102)))⟩, ⟨(some 104), (some (95, false)), (.q (.pick (.t 99) (.t 103) (.c (.bool false))))⟩, ⟨(some 105), none, (.q (.pick (.t 95) (.c (.bool true))
  (.t 104)))⟩] [] [1, 2, 7, 8, 10, 11, 17, 105] [8, 1077]) (.cond (.t 105) (.seq (.reg [⟨(some 6), none, (.q (.mv (.c (.bool false))))⟩] [] [6] [1115]) .ret) .skip)) (.reg [⟨(some 106), none,
  (.q (.mv (.t 17)))⟩, ⟨(some 9), none, (.q (.mv (.t 106)))⟩] [] [1, 2, 7, 8, 9, 10, 11] [8, 1055, 1077]))))))) (.reg [⟨(some 31), none, (.q (.mv (.t 11)))⟩, ⟨(some 32), none, (.q (.bin .add (.t 31)
  (.c (.int .i64 1))))⟩, ⟨(some 11), none, (.q (.mv (.t 32)))⟩] [] [1, 2, 7, 8, 9, 10, 11] [8, 1055, 1077])))
def R8_0 : MC := (.seq (.reg [⟨(some 21), none, (.q (.mv (.c (.int .i64 0))))⟩] [] [2, 7, 9, 21] [1055, 1077]) (.seq (.seq (.reg [⟨(some 107), none, (.q (.mv (.t 2)))⟩] [] [7, 9, 21, 107] [1055,
  1077]) (.cond (.t 107) (.reg [⟨(some 108), none, (.q (.mv (.t 7)))⟩, ⟨(some 109), none, (.q (.bin .sub (.t 108) (.c (.int .i64 1))))⟩, ⟨(some 21), none, (.q (.mv (.t 109)))⟩] [] [9, 21] [1055,
  1077]) .skip)) (.seq (.reg [⟨(some 110), none, (.q (.mv (.t 9)))⟩, ⟨(some 111), none, (.q (.len (.t 110) false))⟩, ⟨(some 112), none, (.q (.mv (.t 21)))⟩, ⟨(some 113), none, (.q (.bin .eql (.t 111)
  (.t 112)))⟩, ⟨(some 114), none, (.q (.mv (.t 113)))⟩, ⟨(some 115), (some (114, true)), (.call (.f 26) [])⟩, ⟨(some 116), none, (.q (.pick (.t 114) (.t 115) (.c (.bool false))))⟩, ⟨(some 6), none,
  (.q (.mv (.t 116)))⟩] [] [6] [1115]) .ret)))
def M8 : MC := (.seq (.reg [⟨(some 6), none, (.q (.mv (.c (.bool false))))⟩] [] [0, 1, 2] []) (.seq (.reg [⟨(some 22), none, (.q (.mv (.t 0)))⟩, ⟨(some 23), none, (.q (.bin .rem (.t 22)
  (.c (.int .u8 6))))⟩, ⟨(some 24), none, (.q (.conv .i64 (.t 23)))⟩, ⟨(some 25), none, (.q (.bin .add (.c (.int .i64 1)) (.t 24)))⟩, ⟨(some 7), none, (.q (.mv (.t 25)))⟩] [] [1, 2, 7] [])
  (.seq (.reg [⟨(some 26), none, (.q (.mv (.t 7)))⟩, ⟨(some 27), none, (.q (.mk [(.pv (.sc (.string ⟨#[]⟩))), (.pv (.sc (.int .i64 0))), (.pv (.sc (.int .i64 0))), (.pv (.sc (.int .i64 0)))] [(0, 1,
  (.c (.string ⟨#[97, 108, 108]⟩))), (1, 1, (.t 26)), (3, 1, (.c (.int .i64 100)))]))⟩, ⟨(some 8), none, (.alloc [(.pv (.sc (.string ⟨#[]⟩))), (.pv (.sc (.int .i64 0))), (.pv (.sc (.int .i64 0))),
  (.pv (.sc (.int .i64 0)))])⟩, ⟨none, none, (.st (.t 8) (.t 27) 4)⟩] [] [1, 2, 7, 8] [8]) (.seq (.reg [⟨(some 9), none, (.q (.mv .nil))⟩] [(9, 10, 0)] [1, 2, 7, 8, 9] [8, 1055, 1077])
  (.seq (.reg [⟨(some 10), none, (.q (.mv (.c (.int .u64 0))))⟩] [] [1, 2, 7, 8, 9, 10] [8, 1055, 1077]) (.seq (.seq (.reg [⟨(some 11), none, (.q (.mv (.c (.int .i64 0))))⟩] [] [1, 2, 7, 8, 9, 10,
  11] [8, 1055, 1077]) (.block 0 (.loop B8_0))) R8_0))))))
theorem mc8 : ofCode Try.prog [] Try.f8.ntmps [(0, ⟨[0, 1, 2], [], [], 0, []⟩),
    (1, ⟨[1, 2, 7], [], [], 0, []⟩),
    (2, ⟨[1, 2, 7, 8], [8], [], 0, []⟩),
    (3, ⟨[1, 2, 7, 8, 9], [8, 1055, 1077], [], 0, [(9, 10, 0)]⟩),
    (4, ⟨[1, 2, 7, 8, 9, 10], [8, 1055, 1077], [], 0, []⟩),
    (5, ⟨[1, 2, 7, 8, 9, 10, 11], [8, 1055, 1077], [], 0, []⟩),
    (6, ⟨[1, 2, 7, 8, 9, 10, 11, 30], [8, 1055, 1077], [], 0, []⟩),
    (7, ⟨[1, 2, 7, 8, 9, 10, 11], [8, 1055, 1077], [], 0, []⟩),
    (8, ⟨[1, 2, 7, 8, 9, 10, 11, 12], [8, 1055, 1077], [], 0, []⟩),
    (9, ⟨[1, 2, 7, 8, 9, 10, 11, 12, 45], [8, 1055, 1077], [], 0, []⟩),
    (10, ⟨[1, 2, 7, 8, 9, 10, 11, 12], [8, 1055, 1077], [], 0, []⟩),
    (11, ⟨[1, 2, 7, 8, 10, 11, 12, 13, 14, 16], [8, 1055], [], 0, []⟩),
    (12, ⟨[1, 2, 7, 8, 10, 11, 12, 13, 66], [8, 1055], [], 0, []⟩),
    (13, ⟨[6], [1115], [], 0, []⟩),
    (14, ⟨[1, 2, 7, 8, 9, 10, 11, 12], [8, 1055, 1077], [], 0, []⟩),
    (15, ⟨[1, 2, 7, 8, 9, 10, 11, 12], [8, 1055, 1077], [], 0, []⟩),
    (16, ⟨[1, 2, 7, 8, 10, 11, 17, 18, 20], [8, 1077], [], 0, []⟩),
    (17, ⟨[1, 2, 7, 8, 10, 11, 17, 105], [8, 1077], [], 0, []⟩),
    (18, ⟨[6], [1115], [], 0, []⟩),
    (19, ⟨[1, 2, 7, 8, 9, 10, 11], [8, 1055, 1077], [], 0, []⟩),
    (20, ⟨[2, 7, 9, 21], [1055, 1077], [], 0, []⟩),
    (21, ⟨[7, 9, 21, 107], [1055, 1077], [], 0, []⟩),
    (22, ⟨[9, 21], [1055, 1077], [], 0, []⟩),
    (23, ⟨[6], [1115], [], 0, []⟩)] (Try.f8.body.getD .skip) = some M8 := by kernel_rfl
theorem Run8 {args : List PV} {v : AV} {rs : List (Nat × List PV)} (ids : List Bool) (h : args.length ≤ 117) (hv : run Try.prog (retK [RV.tmp 6] ids v rs) M8 [] ⟨entry 0 args, []⟩) : Fn Try.prog 8 args v rs :=
  Fn_run ids (by kernel_rfl) Try.func8 (by decide) rfl mc8 (by kernel_rfl) (by rw [Try.ntmps8]; exact h) (by rw [Try.ntmps8]; decide) hv

/-- 'trystlaw09.JoinWaits' -/
def B6_0 : MC := (.seq (.seq (.reg [⟨(some 20), none, (.q (.mv (.t 9)))⟩, ⟨(some 21), none, (.q (.mv (.t 1)))⟩, ⟨(some 22), none, (.q (.bin .rem (.t 21) (.c (.int .u8 90))))⟩, ⟨(some 23), none,
  (.q (.conv .i64 (.t 22)))⟩, ⟨(some 24), none, (.q (.bin .lss (.t 20) (.t 23)))⟩] [] [1, 2, 7, 8, 9, 24] [7, 1046]) (.cond (.t 24) .skip (.exit 0))) (.seq (.block 1 (.seq (.reg [⟨(some 27), none,
  (.q (.mv (.t 9)))⟩, ⟨(some 28), none, (.q (.conv .u64 (.t 27)))⟩, ⟨(some 29), none, (.q (.mv (.t 9)))⟩, ⟨(some 30), none, (.q (.mk [(.pv (.sc (.int .i64 0))), (.pv (.sc (.int .u64 0))),
  (.pv (.sc (.int .i64 0)))] [(1, 1, (.t 28)), (2, 1, (.t 29))]))⟩, ⟨(some 10), none, (.alloc [(.pv (.sc (.int .i64 0))), (.pv (.sc (.int .u64 0))), (.pv (.sc (.int .i64 0)))])⟩, ⟨none, none,
  (.st (.t 10) (.t 30) 3)⟩] [] [1, 2, 7, 8, 9, 10] [7, 10, 1046]) (.seq (.seq (.reg [⟨(some 31), none, (.q (.mv (.t 9)))⟩, ⟨(some 32), none, (.q (.mv (.t 2)))⟩, ⟨(some 33), none, (.q (.len (.t 32)
  false))⟩, ⟨(some 34), none, (.q (.bin .lss (.t 31) (.t 33)))⟩] [] [1, 2, 7, 8, 9, 10, 34] [7, 10, 1046]) (.cond (.t 34) (.reg [⟨(some 35), none, (.q (.mv (.t 2)))⟩, ⟨(some 36), none,
  (.q (.mv (.t 9)))⟩, ⟨(some 37), none, (.q (.ia (.t 35) (.t 36) 1))⟩, ⟨(some 38), none, (.q (.ld (.t 37) 1 false))⟩, ⟨(some 39), none, (.q (.bin .rem (.t 38) (.c (.int .u8 6))))⟩, ⟨(some 40), none,
  (.q (.conv .i64 (.t 39)))⟩, ⟨(some 41), none, (.q (.fa (.t 10) 0))⟩, ⟨none, none, (.st (.t 41) (.t 40) 1)⟩] [] [1, 2, 7, 8, 9, 10] [7, 10, 1046]) .skip)) (.seq (.reg [⟨(some 43), none,
  (.q (.ld (.t 7) 4 true))⟩, ⟨(some 44), none, (.q (.mv (.t 8)))⟩, ⟨(some 45), none, (.q (.ld (.t 10) 3 true))⟩, ⟨(some 46), none, (.call (.f 19) [(.t 43), (.t 44), (.t 45)])⟩, ⟨(some 42), none,
  (.q (.mv (.t 46)))⟩, ⟨(some 47), none, (.q (.ext (.t 42) 0))⟩, ⟨(some 48), none, (.q (.ext (.t 42) 1))⟩, ⟨(some 49), none, (.q (.ext (.t 42) 2))⟩, ⟨(some 50), none, (.q (.ext (.t 42) 3))⟩,
  ⟨(some 11), none, (.q (.mv (.t 47)))⟩, ⟨(some 12), none, (.q (.mv (.t 48)))⟩, ⟨(some 13), none, (.q (.mv (.t 49)))⟩, ⟨(some 14), none, (.q (.mv (.t 50)))⟩] [] [1, 2, 7, 9, 10, 11, 12, 13, 14] [7,
  10, 1046]) (.seq (.seq (.reg [⟨(some 51), none, (.q (.mv (.t 14)))⟩, ⟨(some 52), none, (.q (.bin .neq (.t 51) (.c (.int .i64 0))))⟩, ⟨(some 53), none, (.q (.mv (.t 52)))⟩, ⟨(some 54), (some (53,
  false)), (.q (.mv (.t 13)))⟩, ⟨(some 55), (some (53, false)), (.q (.len (.t 54) false))⟩, ⟨(some 56), (some (53, false)), (.q (.bin .neq (.t 55) (.c (.int .i64 0))))⟩, ⟨(some 57), none,
  (.q (.pick (.t 53) (.c (.bool true)) (.t 56)))⟩] [] [1, 2, 7, 9, 10, 11, 12, 57] [7, 10, 1046]) (.cond (.t 57) (.seq (.reg [⟨(some 6), none, (.q (.mv (.c (.bool false))))⟩] [] [6] [1111]) .ret)
  .skip)) (.seq (.seq (.reg [⟨(some 58), none, (.q (.mv (.t 9)))⟩, ⟨(some 59), none, (.q (.bin .add (.t 58) (.c (.int .i64 1))))⟩, ⟨(some 60), none, (.q (.fa (.t 7) 2))⟩, ⟨(some 61), none,
  (.q (.ld (.t 60) 1 false))⟩, ⟨(some 62), none, (.q (.bin .rem (.t 59) (.t 61)))⟩, ⟨(some 63), none, (.q (.bin .eql (.t 62) (.c (.int .i64 0))))⟩] [] [1, 2, 7, 9, 10, 11, 12, 63] [7, 10, 1046])
  (.cond (.t 63) (.seq (.reg [⟨(some 64), none, (.q (.mv (.t 12)))⟩, ⟨(some 65), none, (.q (.len (.t 64) false))⟩, ⟨(some 66), none, (.q (.fa (.t 7) 2))⟩, ⟨(some 67), none, (.q (.ld (.t 66)
  1 false))⟩, ⟨(some 68), none, (.q (.bin .neq (.t 65) (.t 67)))⟩, ⟨(some 69), none, (.q (.mv (.t 68)))⟩, ⟨(some 70), (some (69, false)), (.q (.mv (.t 11)))⟩, ⟨(some 71), (some (69, false)),
  (.q (.len (.t 70) false))⟩, ⟨(some 72), (some (69, false)), (.q (.bin .neq (.t 71) (.c (.int .i64 0))))⟩, ⟨(some 73), none, (.q (.pick (.t 69) (.c (.bool true)) (.t 72)))⟩, ⟨(some 74), none,
  (.q (.mv (.t 73)))⟩, ⟨(some 75), (some (74, false)), (.q (.mv (.t 12)))⟩, ⟨(some 76), (some (74, false)), (.q (.ia (.t 75) (.c (.int .i64 0)) 3))⟩, ⟨(some 77), (some (74, false)), (.q (.fa (.t 76)
  1))⟩, ⟨(some 78), (some (74, false)), (.q (.ld (.t 77) 1 false))⟩, ⟨(some 79), (some (74, false)), (.q (.mv (.t 9)))⟩, ⟨(some 80), (some (74, false)), (.q (.bin .add (.t 79) (.c (.int .i64 1))))⟩,
  ⟨(some 81), (some (74, false)), (.q (.fa (.t 7) 2))⟩, ⟨(some 82), (some (74, false)), (.q (.ld (.t 81) 1 false))⟩, ⟨(some 83), (some (74, false)), (.q (.bin .sub (.t 80) (.t 82)))⟩, ⟨(some 84),
  (some (74, false)), (.q (.conv .u64 (.t 83)))⟩, ⟨(some 85), (some (74, false)), (.q (.bin .neq (.t 78) (.t 84)))⟩, ⟨(some 86), none, (.q (.pick (.t 74) (.c (.bool true)) (.t 85)))⟩, ⟨(some 87),
  none, (.q (.mv (.t 86)))⟩, ⟨(some 88), (some (87, false)), (.q (.mv (.t 12)))⟩, ⟨(some 89), (some (87, false)), (.q (.mv (.t 12)))⟩, ⟨(some 90), (some (87, false)), (.q (.len (.t 89) false))⟩,
  ⟨(some 91), (some (87, false)), (.q (.bin .sub (.t 90) (.c (.int .i64 1))))⟩, ⟨(some 92), (some (87, false)), (.q (.ia (.t 88) (.t 91) 3))⟩, ⟨(some 93), (some (87, false)), (.q (.ld (.t 92)
  3 true))⟩, ⟨(some 94), (some (87, false)), (.q (.ld (.t 10) 3 true))⟩, ⟨(some 95), (some (87, false)), (.q (.seq true [0, 0, 0] (.t 93) (.t 94)))⟩, ⟨(some 96), none, (.q (.pick (.t 87)
  (.c (.bool true)) (.t 95)))⟩] [] [1, 2, 7, 9, 11, 96] [7, 1046]) (.cond (.t 96) (.seq (.reg [⟨(some 6), none, (.q (.mv (.c (.bool false))))⟩] [] [6] [1111]) .ret) .skip)) (.seq (.reg [⟨(some 97),
  none, (.q (.mv (.t 12)))⟩, ⟨(some 98), none, (.q (.len (.t 97) false))⟩, ⟨(some 99), none, (.q (.bin .neq (.t 98) (.c (.int .i64 0))))⟩, ⟨(some 100), none, (.q (.mv (.t 99)))⟩, ⟨(some 101),
  (some (100, false)), (.q (.mv (.t 11)))⟩, ⟨(some 102), (some (100, false)), (.q (.len (.t 101) false))⟩, ⟨(some 103), (some (100, false)), (.q (.mv (.t 9)))⟩, ⟨(some 104), (some (100, false)),
  (.q (.bin .add (.t 103) (.c (.int .i64 1))))⟩, ⟨(some 105), (some (100, false)), (.q (.fa (.t 7) 2))⟩, ⟨(some 106), (some (100, false)), (.q (.ld (.t 105) 1 false))⟩, ⟨(some 107), (some (100,
  false)), (.q (.bin .rem (.t 104) (.t 106)))⟩, ⟨(some 108), (some (100, false)), (.q (.bin .neq (.t 102) (.t 107)))⟩, ⟨(some 109), none, (.q (.pick (.t 100) (.c (.bool true)) (.t 108)))⟩] [] [1, 2,
  7, 9, 11, 109] [7, 1046]) (.cond (.t 109) (.seq (.reg [⟨(some 6), none, (.q (.mv (.c (.bool false))))⟩] [] [6] [1111]) .ret) .skip)))) (.reg [⟨(some 110), none, (.q (.mv (.t 11)))⟩, ⟨(some 8), none,
  (.q (.mv (.t 110)))⟩] [] [1, 2, 7, 8, 9] [7, 1046]))))))) (.reg [⟨(some 25), none, (.q (.mv (.t 9)))⟩, ⟨(some 26), none, (.q (.bin .add (.t 25) (.c (.int .i64 1))))⟩, ⟨(some 9), none,
  (.q (.mv (.t 26)))⟩] [] [1, 2, 7, 8, 9] [7, 1046])))
def R6_0 : MC := (.seq (.reg [⟨(some 111), none, (.call (.f 26) [])⟩, ⟨(some 6), none, (.q (.mv (.t 111)))⟩] [] [6] [1111]) .ret)
def M6 : MC := (.seq (.reg [⟨(some 6), none, (.q (.mv (.c (.bool false))))⟩] [] [0, 1, 2] []) (.seq (.reg [⟨(some 15), none, (.q (.mv (.t 0)))⟩, ⟨(some 16), none, (.q (.bin .rem (.t 15)
  (.c (.int .u8 20))))⟩, ⟨(some 17), none, (.q (.conv .i64 (.t 16)))⟩, ⟨(some 18), none, (.q (.bin .add (.c (.int .i64 1)) (.t 17)))⟩, ⟨(some 19), none, (.q (.mk [(.pv (.sc (.string ⟨#[]⟩))),
  (.pv (.sc (.int .i64 0))), (.pv (.sc (.int .i64 0))), (.pv (.sc (.int .i64 0)))] [(0, 1, (.c (.string ⟨#[99, 111, 117, 110, 116]⟩))), (1, 1, (.c (.int .i64 6))), (2, 1, (.t 18)), (3, 1,
  (.c (.int .i64 1073741824)))]))⟩, ⟨(some 7), none, (.alloc [(.pv (.sc (.string ⟨#[]⟩))), (.pv (.sc (.int .i64 0))), (.pv (.sc (.int .i64 0))), (.pv (.sc (.int .i64 0)))])⟩, ⟨none, none, (.st (.t 7)
  (.t 19) 4)⟩] [] [1, 2, 7] [7]) (.seq (.reg [⟨(some 8), none, (.q (.mv .nil))⟩] [(8, 9, 0)] [1, 2, 7, 8] [7, 1046]) (.seq (.seq (.reg [⟨(some 9), none, (.q (.mv (.c (.int .i64 0))))⟩] [] [1, 2, 7, 8,
  9] [7, 1046]) (.block 0 (.loop B6_0))) R6_0))))
theorem mc6 : ofCode Try.prog [] Try.f6.ntmps [(0, ⟨[0, 1, 2], [], [], 0, []⟩),
    (1, ⟨[1, 2, 7], [7], [], 0, []⟩),
    (2, ⟨[1, 2, 7, 8], [7, 1046], [], 0, [(8, 9, 0)]⟩),
    (3, ⟨[1, 2, 7, 8, 9], [7, 1046], [], 0, []⟩),
    (4, ⟨[1, 2, 7, 8, 9, 24], [7, 1046], [], 0, []⟩),
    (5, ⟨[1, 2, 7, 8, 9], [7, 1046], [], 0, []⟩),
    (6, ⟨[1, 2, 7, 8, 9, 10], [7, 10, 1046], [], 0, []⟩),
    (7, ⟨[1, 2, 7, 8, 9, 10, 34], [7, 10, 1046], [], 0, []⟩),
    (8, ⟨[1, 2, 7, 8, 9, 10], [7, 10, 1046], [], 0, []⟩),
    (9, ⟨[1, 2, 7, 9, 10, 11, 12, 13, 14], [7, 10, 1046], [], 0, []⟩),
    (10, ⟨[1, 2, 7, 9, 10, 11, 12, 57], [7, 10, 1046], [], 0, []⟩),
    (11, ⟨[6], [1111], [], 0, []⟩),
    (12, ⟨[1, 2, 7, 9, 10, 11, 12, 63], [7, 10, 1046], [], 0, []⟩),
    (13, ⟨[1, 2, 7, 9, 11, 96], [7, 1046], [(0, 8589934579), (1, 8589934578), (2, 8589934588), (3, 8589934584), (4, 8589934576), (5, 8589934560), (6, 8589934528), (7, 8589934464), (8, 8589934336), (9, 8589934080), (10, 8589933568), (11, 8587868160), (12, 8587866112), (13, 8587862016), (14, 8587853824), (15, 8589508608), (16, 8589475840), (17, 8589803520), (18, 8589672448), (19, 8589410304), (20, 8588886016), (21, 8587837440), (22, 8585740288), (23, 8581545984), (24, 7264534528), (25, 7482638336), (26, 7449083904), (27, 7381975040), (28, 7247757312), (29, 6979321856), (30, 7516192768), (31, 6442450944), (32, 4294967296)], 8589934591, []⟩),
    (14, ⟨[6], [1111], [], 0, []⟩),
    (15, ⟨[1, 2, 7, 9, 11, 109], [7, 1046], [], 0, []⟩),
    (16, ⟨[6], [1111], [], 0, []⟩),
    (17, ⟨[1, 2, 7, 8, 9], [7, 1046], [], 0, []⟩),
    (18, ⟨[6], [1111], [], 0, []⟩)] (Try.f6.body.getD .skip) = some M6 := by kernel_rfl
theorem Run6 {args : List PV} {v : AV} {rs : List (Nat × List PV)} (ids : List Bool) (h : args.length ≤ 112) (hv : run Try.prog (retK [RV.tmp 6] ids v rs) M6 [] ⟨entry 0 args, []⟩) : Fn Try.prog 6 args v rs :=
  Fn_run ids (by kernel_rfl) Try.func6 (by decide) rfl mc6 (by kernel_rfl) (by rw [Try.ntmps6]; exact h) (by rw [Try.ntmps6]; decide) hv

end Go.Vc

namespace Go.Vc
open Go.Proofs
set_option linter.unusedSimpArgs false
set_option linter.unusedVariables false

theorem tw_drop (q : Kp → Bool) : ∀ l : List Kp, (l.drop (l.takeWhile q).length).takeWhile q = []
  | [] => rfl
  | a :: l => by
    by_cases h : q a = true
    · rw [List.takeWhile_cons, if_pos h, List.length_cons, List.drop_succ_cons]; exact tw_drop q l
    · rw [List.takeWhile_cons, if_neg h, List.length_nil, List.drop_zero, List.takeWhile_cons, if_neg h]
theorem nOver_drop (j : Jn) (now : Int) (l : List Kp) : nOver j now (l.drop (nOver j now l)) = 0 := by
  unfold nOver
  rw [tw_drop]; rfl
theorem early_drop {l : List Kp} {now : Int} (n : Nat) (h : earlyK l now = false) : earlyK (l.drop n) now = false := by
  unfold earlyK at *
  by_cases h1 : n < l.length
  · have e : (l.drop n).getD ((l.drop n).length - 1) default = l.getD (l.length - 1) default := by
      simp only [List.getD_eq_getElem?_getD, List.getElem?_drop, List.length_drop]
      congr 2
      omega
    rw [e]
    rw [show decide (0 < l.length) = true by simp; omega, Bool.true_and] at h
    rw [h, Bool.and_false]
  · rw [show decide (0 < (l.drop n).length) = false by simp; omega, Bool.false_and]
theorem idIn_drop {l : List Kp} {m : Int} (n : Nat) (h : idIn l m = false) : idIn (l.drop n) m = false := by
  unfold idIn at *
  rw [List.any_eq_false] at *
  intro k hk
  exact h k (List.mem_of_mem_drop hk)
theorem feed_late {j : Jn} {l : List Kp} {x : Kp} (hf : (feedR j l x).err = 0) (hc : checkJ j (l.drop (nOver j x.at_ l)) = true) :
    feedR j (l.drop (nOver j x.at_ l)) x = ⟨(feedR j l x).left, (feedR j l x).fired, [], 0⟩ ∧ (feedR j l x).over = l.take (nOver j x.at_ l) := by
  have c1 : checkJ j l = true := by
    cases h : checkJ j l with
    | true => rfl
    | false => simp [feedR, h, frErr] at hf
  have c2 : fitsK j x = true := by
    cases h : fitsK j x with
    | true => rfl
    | false => simp [feedR, h, frErr] at hf
  have c3 : earlyK l x.at_ = false := by
    cases h : earlyK l x.at_ with
    | false => rfl
    | true => simp [feedR, c1, c2, h, frErr] at hf
  have c4 : idIn l x.id = false := by
    cases h : idIn l x.id with
    | false => rfl
    | true => simp [feedR, c1, c2, c3, h, frErr] at hf
  have ew : waitsJ j (l.drop (nOver j x.at_ l)) x = waitsJ j l x := by simp [waitsJ, nOver_drop]
  by_cases hm : metJ j (waitsJ j l x) = true
  · simp [feedR, c1, c2, c3, c4, hc, early_drop _ c3, idIn_drop _ c4, ew, hm, nOver_drop]
  · have hm' : metJ j (waitsJ j l x) = false := by simpa using hm
    by_cases h30 : 30 ≤ (waitsJ j l x).length
    · simp [feedR, c1, c2, c3, c4, hm', h30, frErr] at hf
    · simp [feedR, c1, c2, c3, c4, hc, early_drop _ c3, idIn_drop _ c4, ew, hm', h30, nOver_drop]
theorem law7 (j : Jn) (l : List Kp) (x : Kp) (hl : l.length ≤ 9223372036854775807) : Fn Try.prog 7 [j.pv, ks l, x.pv] (.pv (pB true)) [] := by
  refine Run7 [] (by simp) ?_
  simp only [go_sem, Nat.reduceEqDiff, Nat.reduceBEq, Nat.reduceAdd, Nat.reduceMul, Nat.reduceSub, Nat.reduceLeDiff, Nat.reduceLT, reduceIte, reduceCtorEq, Int.reduceToNat, Int.reduceLE, Int.reduceLT, Int.reduceNeg, Int.toNat_natCast, Option.getD_some, List.take_length, List.getD_nil, Int.natCast_nonneg, List.length_map, Bool.not_not, and_self, Bool.and_eq_false_iff, Int.cast_ofNat_Int, Int.reduceAdd, Int.reduceSub, Int.reduceMul, Int.reduceEq, Int.reduceNe, M7]
  refine runR_callf (by simp only [go_sem, Nat.reduceEqDiff, Nat.reduceBEq, Nat.reduceAdd, Nat.reduceMul, Nat.reduceSub, Nat.reduceLeDiff, Nat.reduceLT, reduceIte, reduceCtorEq, Int.reduceToNat, Int.reduceLE, Int.reduceLT, Int.reduceNeg, Int.toNat_natCast, Option.getD_some, List.take_length, List.getD_nil, Int.natCast_nonneg, List.length_map, Bool.not_not, and_self, Bool.and_eq_false_iff, Int.cast_ofNat_Int, Int.reduceAdd, Int.reduceSub, Int.reduceMul, Int.reduceEq, Int.reduceNe]) (by simp only [go_sem, Nat.reduceEqDiff, Nat.reduceBEq, Nat.reduceAdd, Nat.reduceMul, Nat.reduceSub, Nat.reduceLeDiff, Nat.reduceLT, reduceIte, reduceCtorEq, Int.reduceToNat, Int.reduceLE, Int.reduceLT, Int.reduceNeg, Int.toNat_natCast, Option.getD_some, List.take_length, List.getD_nil, Int.natCast_nonneg, List.length_map, Bool.not_not, and_self, Bool.and_eq_false_iff, Int.cast_ofNat_Int, Int.reduceAdd, Int.reduceSub, Int.reduceMul, Int.reduceEq, Int.reduceNe]) (fn17 j) ⟨rfl, trivial⟩ trivial ?_
  simp only [go_sem, Nat.reduceEqDiff, Nat.reduceBEq, Nat.reduceAdd, Nat.reduceMul, Nat.reduceSub, Nat.reduceLeDiff, Nat.reduceLT, reduceIte, reduceCtorEq, Int.reduceToNat, Int.reduceLE, Int.reduceLT, Int.reduceNeg, Int.toNat_natCast, Option.getD_some, List.take_length, List.getD_nil, Int.natCast_nonneg, List.length_map, Bool.not_not, and_self, Bool.and_eq_false_iff, Int.cast_ofNat_Int, Int.reduceAdd, Int.reduceSub, Int.reduceMul, Int.reduceEq, Int.reduceNe]
  refine runR_call (by simp only [go_sem, Nat.reduceEqDiff, Nat.reduceBEq, Nat.reduceAdd, Nat.reduceMul, Nat.reduceSub, Nat.reduceLeDiff, Nat.reduceLT, reduceIte, reduceCtorEq, Int.reduceToNat, Int.reduceLE, Int.reduceLT, Int.reduceNeg, Int.toNat_natCast, Option.getD_some, List.take_length, List.getD_nil, Int.natCast_nonneg, List.length_map, Bool.not_not, and_self, Bool.and_eq_false_iff, Int.cast_ofNat_Int, Int.reduceAdd, Int.reduceSub, Int.reduceMul, Int.reduceEq, Int.reduceNe]) rfl (fn18 l hl) (.inl rfl) trivial ?_
  simp only [go_sem, Nat.reduceEqDiff, Nat.reduceBEq, Nat.reduceAdd, Nat.reduceMul, Nat.reduceSub, Nat.reduceLeDiff, Nat.reduceLT, reduceIte, reduceCtorEq, Int.reduceToNat, Int.reduceLE, Int.reduceLT, Int.reduceNeg, Int.toNat_natCast, Option.getD_some, List.take_length, List.getD_nil, Int.natCast_nonneg, List.length_map, Bool.not_not, and_self, Bool.and_eq_false_iff, Int.cast_ofNat_Int, Int.reduceAdd, Int.reduceSub, Int.reduceMul, Int.reduceEq, Int.reduceNe]
  have h31 : (l.take 31).length ≤ 31 := by simp; omega
  generalize l.take 31 = m at *
  generalize kindOf j = i
  by_cases hok : expOk i m x.at_ = true
  · refine runR_call (by simp only [go_sem, Nat.reduceEqDiff, Nat.reduceBEq, Nat.reduceAdd, Nat.reduceMul, Nat.reduceSub, Nat.reduceLeDiff, Nat.reduceLT, reduceIte, reduceCtorEq, Int.reduceToNat, Int.reduceLE, Int.reduceLT, Int.reduceNeg, Int.toNat_natCast, Option.getD_some, List.take_length, List.getD_nil, Int.natCast_nonneg, List.length_map, Bool.not_not, and_self, Bool.and_eq_false_iff, Int.cast_ofNat_Int, Int.reduceAdd, Int.reduceSub, Int.reduceMul, Int.reduceEq, Int.reduceNe]) rfl (fn27 i m x.at_ (by omega) hok) (.inl rfl) trivial ?_
    simp only [go_sem, Nat.reduceEqDiff, Nat.reduceBEq, Nat.reduceAdd, Nat.reduceMul, Nat.reduceSub, Nat.reduceLeDiff, Nat.reduceLT, reduceIte, reduceCtorEq, Int.reduceToNat, Int.reduceLE, Int.reduceLT, Int.reduceNeg, Int.toNat_natCast, Option.getD_some, List.take_length, List.getD_nil, Int.natCast_nonneg, List.length_map, Bool.not_not, and_self, Bool.and_eq_false_iff, Int.cast_ofNat_Int, Int.reduceAdd, Int.reduceSub, Int.reduceMul, Int.reduceEq, Int.reduceNe, show List.take (m.length - nOver i x.at_ m) (List.map Kp.pv (List.drop (nOver i x.at_ m) m)) = (m.drop (nOver i x.at_ m)).map Kp.pv from List.take_of_length_le (by simp)]
    refine runR_call (by simp only [go_sem, Nat.reduceEqDiff, Nat.reduceBEq, Nat.reduceAdd, Nat.reduceMul, Nat.reduceSub, Nat.reduceLeDiff, Nat.reduceLT, reduceIte, reduceCtorEq, Int.reduceToNat, Int.reduceLE, Int.reduceLT, Int.reduceNeg, Int.toNat_natCast, Option.getD_some, List.take_length, List.getD_nil, Int.natCast_nonneg, List.length_map, Bool.not_not, and_self, Bool.and_eq_false_iff, Int.cast_ofNat_Int, Int.reduceAdd, Int.reduceSub, Int.reduceMul, Int.reduceEq, Int.reduceNe]) rfl (fn19 i m x (by omega)) (.inl rfl) trivial ?_
    simp only [go_sem, Nat.reduceEqDiff, Nat.reduceBEq, Nat.reduceAdd, Nat.reduceMul, Nat.reduceSub, Nat.reduceLeDiff, Nat.reduceLT, reduceIte, reduceCtorEq, Int.reduceToNat, Int.reduceLE, Int.reduceLT, Int.reduceNeg, Int.toNat_natCast, Option.getD_some, List.take_length, List.getD_nil, Int.natCast_nonneg, List.length_map, Bool.not_not, and_self, Bool.and_eq_false_iff, Int.cast_ofNat_Int, Int.reduceAdd, Int.reduceSub, Int.reduceMul, Int.reduceEq, Int.reduceNe]
    refine runR_callgf (by simp only [go_sem, Nat.reduceEqDiff, Nat.reduceBEq, Nat.reduceAdd, Nat.reduceMul, Nat.reduceSub, Nat.reduceLeDiff, Nat.reduceLT, reduceIte, reduceCtorEq, Int.reduceToNat, Int.reduceLE, Int.reduceLT, Int.reduceNeg, Int.toNat_natCast, Option.getD_some, List.take_length, List.getD_nil, Int.natCast_nonneg, List.length_map, Bool.not_not, and_self, Bool.and_eq_false_iff, Int.cast_ofNat_Int, Int.reduceAdd, Int.reduceSub, Int.reduceMul, Int.reduceEq, Int.reduceNe]) (by simp only [go_sem, Nat.reduceEqDiff, Nat.reduceBEq, Nat.reduceAdd, Nat.reduceMul, Nat.reduceSub, Nat.reduceLeDiff, Nat.reduceLT, reduceIte, reduceCtorEq, Int.reduceToNat, Int.reduceLE, Int.reduceLT, Int.reduceNeg, Int.toNat_natCast, Option.getD_some, List.take_length, List.getD_nil, Int.natCast_nonneg, List.length_map, Bool.not_not, and_self, Bool.and_eq_false_iff, Int.cast_ofNat_Int, Int.reduceAdd, Int.reduceSub, Int.reduceMul, Int.reduceEq, Int.reduceNe]) (by simp only [go_sem, Nat.reduceEqDiff, Nat.reduceBEq, Nat.reduceAdd, Nat.reduceMul, Nat.reduceSub, Nat.reduceLeDiff, Nat.reduceLT, reduceIte, reduceCtorEq, Int.reduceToNat, Int.reduceLE, Int.reduceLT, Int.reduceNeg, Int.toNat_natCast, Option.getD_some, List.take_length, List.getD_nil, Int.natCast_nonneg, List.length_map, Bool.not_not, and_self, Bool.and_eq_false_iff, Int.cast_ofNat_Int, Int.reduceAdd, Int.reduceSub, Int.reduceMul, Int.reduceEq, Int.reduceNe]) (fun _ => fn24 i (m.drop (nOver i x.at_ m)) (by simp; omega)) rfl ?_
    simp only [go_sem, Nat.reduceEqDiff, Nat.reduceBEq, Nat.reduceAdd, Nat.reduceMul, Nat.reduceSub, Nat.reduceLeDiff, Nat.reduceLT, reduceIte, reduceCtorEq, Int.reduceToNat, Int.reduceLE, Int.reduceLT, Int.reduceNeg, Int.toNat_natCast, Option.getD_some, List.take_length, List.getD_nil, Int.natCast_nonneg, List.length_map, Bool.not_not, and_self, Bool.and_eq_false_iff, Int.cast_ofNat_Int, Int.reduceAdd, Int.reduceSub, Int.reduceMul, Int.reduceEq, Int.reduceNe, checkJ_err]
    refine ⟨fun _ => ?_, fun ⟨he, hc⟩ => ?_⟩
    · refine runR_callf (by simp only [go_sem, Nat.reduceEqDiff, Nat.reduceBEq, Nat.reduceAdd, Nat.reduceMul, Nat.reduceSub, Nat.reduceLeDiff, Nat.reduceLT, reduceIte, reduceCtorEq, Int.reduceToNat, Int.reduceLE, Int.reduceLT, Int.reduceNeg, Int.toNat_natCast, Option.getD_some, List.take_length, List.getD_nil, Int.natCast_nonneg, List.length_map, Bool.not_not, and_self, Bool.and_eq_false_iff, Int.cast_ofNat_Int, Int.reduceAdd, Int.reduceSub, Int.reduceMul, Int.reduceEq, Int.reduceNe]) (by simp only [go_sem, Nat.reduceEqDiff, Nat.reduceBEq, Nat.reduceAdd, Nat.reduceMul, Nat.reduceSub, Nat.reduceLeDiff, Nat.reduceLT, reduceIte, reduceCtorEq, Int.reduceToNat, Int.reduceLE, Int.reduceLT, Int.reduceNeg, Int.toNat_natCast, Option.getD_some, List.take_length, List.getD_nil, Int.natCast_nonneg, List.length_map, Bool.not_not, and_self, Bool.and_eq_false_iff, Int.cast_ofNat_Int, Int.reduceAdd, Int.reduceSub, Int.reduceMul, Int.reduceEq, Int.reduceNe]) (fn26) ⟨rfl, trivial⟩ trivial ?_
      simp only [go_sem, Nat.reduceEqDiff, Nat.reduceBEq, Nat.reduceAdd, Nat.reduceMul, Nat.reduceSub, Nat.reduceLeDiff, Nat.reduceLT, reduceIte, reduceCtorEq, Int.reduceToNat, Int.reduceLE, Int.reduceLT, Int.reduceNeg, Int.toNat_natCast, Option.getD_some, List.take_length, List.getD_nil, Int.natCast_nonneg, List.length_map, Bool.not_not, and_self, Bool.and_eq_false_iff, Int.cast_ofNat_Int, Int.reduceAdd, Int.reduceSub, Int.reduceMul, Int.reduceEq, Int.reduceNe]
    obtain ⟨e1, e2⟩ := feed_late he hc
    obtain ⟨b1, b2, b3⟩ := feedR_len i m x
    refine runR_call (by simp only [go_sem, Nat.reduceEqDiff, Nat.reduceBEq, Nat.reduceAdd, Nat.reduceMul, Nat.reduceSub, Nat.reduceLeDiff, Nat.reduceLT, reduceIte, reduceCtorEq, Int.reduceToNat, Int.reduceLE, Int.reduceLT, Int.reduceNeg, Int.toNat_natCast, Option.getD_some, List.take_length, List.getD_nil, Int.natCast_nonneg, List.length_map, Bool.not_not, and_self, Bool.and_eq_false_iff, Int.cast_ofNat_Int, Int.reduceAdd, Int.reduceSub, Int.reduceMul, Int.reduceEq, Int.reduceNe]) rfl (fn19 i (m.drop (nOver i x.at_ m)) x (by simp; omega)) (.inl rfl) trivial ?_
    rw [e1]
    simp only [go_sem, Nat.reduceEqDiff, Nat.reduceBEq, Nat.reduceAdd, Nat.reduceMul, Nat.reduceSub, Nat.reduceLeDiff, Nat.reduceLT, reduceIte, reduceCtorEq, Int.reduceToNat, Int.reduceLE, Int.reduceLT, Int.reduceNeg, Int.toNat_natCast, Option.getD_some, List.take_length, List.getD_nil, Int.natCast_nonneg, List.length_map, Bool.not_not, and_self, Bool.and_eq_false_iff, Int.cast_ofNat_Int, Int.reduceAdd, Int.reduceSub, Int.reduceMul, Int.reduceEq, Int.reduceNe]
    rw [e2] at b3 ⊢
    refine runR_callgf (by simp only [go_sem, Nat.reduceEqDiff, Nat.reduceBEq, Nat.reduceAdd, Nat.reduceMul, Nat.reduceSub, Nat.reduceLeDiff, Nat.reduceLT, reduceIte, reduceCtorEq, Int.reduceToNat, Int.reduceLE, Int.reduceLT, Int.reduceNeg, Int.toNat_natCast, Option.getD_some, List.take_length, List.getD_nil, Int.natCast_nonneg, List.length_map, Bool.not_not, and_self, Bool.and_eq_false_iff, Int.cast_ofNat_Int, Int.reduceAdd, Int.reduceSub, Int.reduceMul, Int.reduceEq, Int.reduceNe]) (by simp only [go_sem, Nat.reduceEqDiff, Nat.reduceBEq, Nat.reduceAdd, Nat.reduceMul, Nat.reduceSub, Nat.reduceLeDiff, Nat.reduceLT, reduceIte, reduceCtorEq, Int.reduceToNat, Int.reduceLE, Int.reduceLT, Int.reduceNeg, Int.toNat_natCast, Option.getD_some, List.take_length, List.getD_nil, Int.natCast_nonneg, List.length_map, Bool.not_not, and_self, Bool.and_eq_false_iff, Int.cast_ofNat_Int, Int.reduceAdd, Int.reduceSub, Int.reduceMul, Int.reduceEq, Int.reduceNe]) (by simp only [go_sem, Nat.reduceEqDiff, Nat.reduceBEq, Nat.reduceAdd, Nat.reduceMul, Nat.reduceSub, Nat.reduceLeDiff, Nat.reduceLT, reduceIte, reduceCtorEq, Int.reduceToNat, Int.reduceLE, Int.reduceLT, Int.reduceNeg, Int.toNat_natCast, Option.getD_some, List.take_length, List.getD_nil, Int.natCast_nonneg, List.length_map, Bool.not_not, and_self, Bool.and_eq_false_iff, Int.cast_ofNat_Int, Int.reduceAdd, Int.reduceSub, Int.reduceMul, Int.reduceEq, Int.reduceNe]) (fun _ => fn21 (feedR i m x).left (feedR i m x).left (by omega) (by omega)) rfl ?_
    simp only [go_sem, Nat.reduceEqDiff, Nat.reduceBEq, Nat.reduceAdd, Nat.reduceMul, Nat.reduceSub, Nat.reduceLeDiff, Nat.reduceLT, reduceIte, reduceCtorEq, Int.reduceToNat, Int.reduceLE, Int.reduceLT, Int.reduceNeg, Int.toNat_natCast, Option.getD_some, List.take_length, List.getD_nil, Int.natCast_nonneg, List.length_map, Bool.not_not, and_self, Bool.and_eq_false_iff, Int.cast_ofNat_Int, Int.reduceAdd, Int.reduceSub, Int.reduceMul, Int.reduceEq, Int.reduceNe]
    refine runR_callgf (by simp only [go_sem, Nat.reduceEqDiff, Nat.reduceBEq, Nat.reduceAdd, Nat.reduceMul, Nat.reduceSub, Nat.reduceLeDiff, Nat.reduceLT, reduceIte, reduceCtorEq, Int.reduceToNat, Int.reduceLE, Int.reduceLT, Int.reduceNeg, Int.toNat_natCast, Option.getD_some, List.take_length, List.getD_nil, Int.natCast_nonneg, List.length_map, Bool.not_not, and_self, Bool.and_eq_false_iff, Int.cast_ofNat_Int, Int.reduceAdd, Int.reduceSub, Int.reduceMul, Int.reduceEq, Int.reduceNe]) (by simp only [go_sem, Nat.reduceEqDiff, Nat.reduceBEq, Nat.reduceAdd, Nat.reduceMul, Nat.reduceSub, Nat.reduceLeDiff, Nat.reduceLT, reduceIte, reduceCtorEq, Int.reduceToNat, Int.reduceLE, Int.reduceLT, Int.reduceNeg, Int.toNat_natCast, Option.getD_some, List.take_length, List.getD_nil, Int.natCast_nonneg, List.length_map, Bool.not_not, and_self, Bool.and_eq_false_iff, Int.cast_ofNat_Int, Int.reduceAdd, Int.reduceSub, Int.reduceMul, Int.reduceEq, Int.reduceNe]) (by simp only [go_sem, Nat.reduceEqDiff, Nat.reduceBEq, Nat.reduceAdd, Nat.reduceMul, Nat.reduceSub, Nat.reduceLeDiff, Nat.reduceLT, reduceIte, reduceCtorEq, Int.reduceToNat, Int.reduceLE, Int.reduceLT, Int.reduceNeg, Int.toNat_natCast, Option.getD_some, List.take_length, List.getD_nil, Int.natCast_nonneg, List.length_map, Bool.not_not, and_self, Bool.and_eq_false_iff, Int.cast_ofNat_Int, Int.reduceAdd, Int.reduceSub, Int.reduceMul, Int.reduceEq, Int.reduceNe]) (fun _ => fn21 (feedR i m x).fired (feedR i m x).fired (by omega) (by omega)) rfl ?_
    simp only [go_sem, Nat.reduceEqDiff, Nat.reduceBEq, Nat.reduceAdd, Nat.reduceMul, Nat.reduceSub, Nat.reduceLeDiff, Nat.reduceLT, reduceIte, reduceCtorEq, Int.reduceToNat, Int.reduceLE, Int.reduceLT, Int.reduceNeg, Int.toNat_natCast, Option.getD_some, List.take_length, List.getD_nil, Int.natCast_nonneg, List.length_map, Bool.not_not, and_self, Bool.and_eq_false_iff, Int.cast_ofNat_Int, Int.reduceAdd, Int.reduceSub, Int.reduceMul, Int.reduceEq, Int.reduceNe, List.map_nil, List.length_nil]
    refine runR_callgf (by simp only [go_sem, Nat.reduceEqDiff, Nat.reduceBEq, Nat.reduceAdd, Nat.reduceMul, Nat.reduceSub, Nat.reduceLeDiff, Nat.reduceLT, reduceIte, reduceCtorEq, Int.reduceToNat, Int.reduceLE, Int.reduceLT, Int.reduceNeg, Int.toNat_natCast, Option.getD_some, List.take_length, List.getD_nil, Int.natCast_nonneg, List.length_map, Bool.not_not, and_self, Bool.and_eq_false_iff, Int.cast_ofNat_Int, Int.reduceAdd, Int.reduceSub, Int.reduceMul, Int.reduceEq, Int.reduceNe]) (by simp only [go_sem, Nat.reduceEqDiff, Nat.reduceBEq, Nat.reduceAdd, Nat.reduceMul, Nat.reduceSub, Nat.reduceLeDiff, Nat.reduceLT, reduceIte, reduceCtorEq, Int.reduceToNat, Int.reduceLE, Int.reduceLT, Int.reduceNeg, Int.toNat_natCast, Option.getD_some, List.take_length, List.getD_nil, Int.natCast_nonneg, List.length_map, Bool.not_not, and_self, Bool.and_eq_false_iff, Int.cast_ofNat_Int, Int.reduceAdd, Int.reduceSub, Int.reduceMul, Int.reduceEq, Int.reduceNe]) (by simp only [go_sem, Nat.reduceEqDiff, Nat.reduceBEq, Nat.reduceAdd, Nat.reduceMul, Nat.reduceSub, Nat.reduceLeDiff, Nat.reduceLT, reduceIte, reduceCtorEq, Int.reduceToNat, Int.reduceLE, Int.reduceLT, Int.reduceNeg, Int.toNat_natCast, Option.getD_some, List.take_length, List.getD_nil, Int.natCast_nonneg, List.length_map, Bool.not_not, and_self, Bool.and_eq_false_iff, Int.cast_ofNat_Int, Int.reduceAdd, Int.reduceSub, Int.reduceMul, Int.reduceEq, Int.reduceNe]) (fun _ => fn21 (m.take (nOver i x.at_ m)) (m.take (nOver i x.at_ m)) (by omega) (by omega)) rfl ?_
    simp only [go_sem, Nat.reduceEqDiff, Nat.reduceBEq, Nat.reduceAdd, Nat.reduceMul, Nat.reduceSub, Nat.reduceLeDiff, Nat.reduceLT, reduceIte, reduceCtorEq, Int.reduceToNat, Int.reduceLE, Int.reduceLT, Int.reduceNeg, Int.toNat_natCast, Option.getD_some, List.take_length, List.getD_nil, Int.natCast_nonneg, List.length_map, Bool.not_not, and_self, Bool.and_eq_false_iff, Int.cast_ofNat_Int, Int.reduceAdd, Int.reduceSub, Int.reduceMul, Int.reduceEq, Int.reduceNe]
    refine runR_callgf (by simp only [go_sem, Nat.reduceEqDiff, Nat.reduceBEq, Nat.reduceAdd, Nat.reduceMul, Nat.reduceSub, Nat.reduceLeDiff, Nat.reduceLT, reduceIte, reduceCtorEq, Int.reduceToNat, Int.reduceLE, Int.reduceLT, Int.reduceNeg, Int.toNat_natCast, Option.getD_some, List.take_length, List.getD_nil, Int.natCast_nonneg, List.length_map, Bool.not_not, and_self, Bool.and_eq_false_iff, Int.cast_ofNat_Int, Int.reduceAdd, Int.reduceSub, Int.reduceMul, Int.reduceEq, Int.reduceNe]) (by simp only [go_sem, Nat.reduceEqDiff, Nat.reduceBEq, Nat.reduceAdd, Nat.reduceMul, Nat.reduceSub, Nat.reduceLeDiff, Nat.reduceLT, reduceIte, reduceCtorEq, Int.reduceToNat, Int.reduceLE, Int.reduceLT, Int.reduceNeg, Int.toNat_natCast, Option.getD_some, List.take_length, List.getD_nil, Int.natCast_nonneg, List.length_map, Bool.not_not, and_self, Bool.and_eq_false_iff, Int.cast_ofNat_Int, Int.reduceAdd, Int.reduceSub, Int.reduceMul, Int.reduceEq, Int.reduceNe]) (by simp only [go_sem, Nat.reduceEqDiff, Nat.reduceBEq, Nat.reduceAdd, Nat.reduceMul, Nat.reduceSub, Nat.reduceLeDiff, Nat.reduceLT, reduceIte, reduceCtorEq, Int.reduceToNat, Int.reduceLE, Int.reduceLT, Int.reduceNeg, Int.toNat_natCast, Option.getD_some, List.take_length, List.getD_nil, Int.natCast_nonneg, List.length_map, Bool.not_not, and_self, Bool.and_eq_false_iff, Int.cast_ofNat_Int, Int.reduceAdd, Int.reduceSub, Int.reduceMul, Int.reduceEq, Int.reduceNe]) (fun _ => fn26) rfl ?_
    simp only [go_sem, Nat.reduceEqDiff, Nat.reduceBEq, Nat.reduceAdd, Nat.reduceMul, Nat.reduceSub, Nat.reduceLeDiff, Nat.reduceLT, reduceIte, reduceCtorEq, Int.reduceToNat, Int.reduceLE, Int.reduceLT, Int.reduceNeg, Int.toNat_natCast, Option.getD_some, List.take_length, List.getD_nil, Int.natCast_nonneg, List.length_map, Bool.not_not, and_self, Bool.and_eq_false_iff, Int.cast_ofNat_Int, Int.reduceAdd, Int.reduceSub, Int.reduceMul, Int.reduceEq, Int.reduceNe]
  · refine runR_call (by simp only [go_sem, Nat.reduceEqDiff, Nat.reduceBEq, Nat.reduceAdd, Nat.reduceMul, Nat.reduceSub, Nat.reduceLeDiff, Nat.reduceLT, reduceIte, reduceCtorEq, Int.reduceToNat, Int.reduceLE, Int.reduceLT, Int.reduceNeg, Int.toNat_natCast, Option.getD_some, List.take_length, List.getD_nil, Int.natCast_nonneg, List.length_map, Bool.not_not, and_self, Bool.and_eq_false_iff, Int.cast_ofNat_Int, Int.reduceAdd, Int.reduceSub, Int.reduceMul, Int.reduceEq, Int.reduceNe]) rfl (fn27no i m x.at_ (by omega) (by simpa using hok)) (.inl rfl) trivial ?_
    simp only [go_sem, Nat.reduceEqDiff, Nat.reduceBEq, Nat.reduceAdd, Nat.reduceMul, Nat.reduceSub, Nat.reduceLeDiff, Nat.reduceLT, reduceIte, reduceCtorEq, Int.reduceToNat, Int.reduceLE, Int.reduceLT, Int.reduceNeg, Int.toNat_natCast, Option.getD_some, List.take_length, List.getD_nil, Int.natCast_nonneg, List.length_map, Bool.not_not, and_self, Bool.and_eq_false_iff, Int.cast_ofNat_Int, Int.reduceAdd, Int.reduceSub, Int.reduceMul, Int.reduceEq, Int.reduceNe]
    refine runR_call (by simp only [go_sem, Nat.reduceEqDiff, Nat.reduceBEq, Nat.reduceAdd, Nat.reduceMul, Nat.reduceSub, Nat.reduceLeDiff, Nat.reduceLT, reduceIte, reduceCtorEq, Int.reduceToNat, Int.reduceLE, Int.reduceLT, Int.reduceNeg, Int.toNat_natCast, Option.getD_some, List.take_length, List.getD_nil, Int.natCast_nonneg, List.length_map, Bool.not_not, and_self, Bool.and_eq_false_iff, Int.cast_ofNat_Int, Int.reduceAdd, Int.reduceSub, Int.reduceMul, Int.reduceEq, Int.reduceNe]) rfl (fn19 i m x (by omega)) (.inl rfl) trivial ?_
    simp only [go_sem, Nat.reduceEqDiff, Nat.reduceBEq, Nat.reduceAdd, Nat.reduceMul, Nat.reduceSub, Nat.reduceLeDiff, Nat.reduceLT, reduceIte, reduceCtorEq, Int.reduceToNat, Int.reduceLE, Int.reduceLT, Int.reduceNeg, Int.toNat_natCast, Option.getD_some, List.take_length, List.getD_nil, Int.natCast_nonneg, List.length_map, Bool.not_not, and_self, Bool.and_eq_false_iff, Int.cast_ofNat_Int, Int.reduceAdd, Int.reduceSub, Int.reduceMul, Int.reduceEq, Int.reduceNe]
    refine runR_callgf (by simp only [go_sem, Nat.reduceEqDiff, Nat.reduceBEq, Nat.reduceAdd, Nat.reduceMul, Nat.reduceSub, Nat.reduceLeDiff, Nat.reduceLT, reduceIte, reduceCtorEq, Int.reduceToNat, Int.reduceLE, Int.reduceLT, Int.reduceNeg, Int.toNat_natCast, Option.getD_some, List.take_length, List.getD_nil, Int.natCast_nonneg, List.length_map, Bool.not_not, and_self, Bool.and_eq_false_iff, Int.cast_ofNat_Int, Int.reduceAdd, Int.reduceSub, Int.reduceMul, Int.reduceEq, Int.reduceNe]) (by simp only [go_sem, Nat.reduceEqDiff, Nat.reduceBEq, Nat.reduceAdd, Nat.reduceMul, Nat.reduceSub, Nat.reduceLeDiff, Nat.reduceLT, reduceIte, reduceCtorEq, Int.reduceToNat, Int.reduceLE, Int.reduceLT, Int.reduceNeg, Int.toNat_natCast, Option.getD_some, List.take_length, List.getD_nil, Int.natCast_nonneg, List.length_map, Bool.not_not, and_self, Bool.and_eq_false_iff, Int.cast_ofNat_Int, Int.reduceAdd, Int.reduceSub, Int.reduceMul, Int.reduceEq, Int.reduceNe]) (by simp only [go_sem, Nat.reduceEqDiff, Nat.reduceBEq, Nat.reduceAdd, Nat.reduceMul, Nat.reduceSub, Nat.reduceLeDiff, Nat.reduceLT, reduceIte, reduceCtorEq, Int.reduceToNat, Int.reduceLE, Int.reduceLT, Int.reduceNeg, Int.toNat_natCast, Option.getD_some, List.take_length, List.getD_nil, Int.natCast_nonneg, List.length_map, Bool.not_not, and_self, Bool.and_eq_false_iff, Int.cast_ofNat_Int, Int.reduceAdd, Int.reduceSub, Int.reduceMul, Int.reduceEq, Int.reduceNe]) (fun _ => fn24 i [] (by simp)) rfl ?_
    simp only [go_sem, Nat.reduceEqDiff, Nat.reduceBEq, Nat.reduceAdd, Nat.reduceMul, Nat.reduceSub, Nat.reduceLeDiff, Nat.reduceLT, reduceIte, reduceCtorEq, Int.reduceToNat, Int.reduceLE, Int.reduceLT, Int.reduceNeg, Int.toNat_natCast, Option.getD_some, List.take_length, List.getD_nil, Int.natCast_nonneg, List.length_map, Bool.not_not, and_self, Bool.and_eq_false_iff, Int.cast_ofNat_Int, Int.reduceAdd, Int.reduceSub, Int.reduceMul, Int.reduceEq, Int.reduceNe, checkJ_err]
    refine runR_callf (by simp only [go_sem, Nat.reduceEqDiff, Nat.reduceBEq, Nat.reduceAdd, Nat.reduceMul, Nat.reduceSub, Nat.reduceLeDiff, Nat.reduceLT, reduceIte, reduceCtorEq, Int.reduceToNat, Int.reduceLE, Int.reduceLT, Int.reduceNeg, Int.toNat_natCast, Option.getD_some, List.take_length, List.getD_nil, Int.natCast_nonneg, List.length_map, Bool.not_not, and_self, Bool.and_eq_false_iff, Int.cast_ofNat_Int, Int.reduceAdd, Int.reduceSub, Int.reduceMul, Int.reduceEq, Int.reduceNe]) (by simp only [go_sem, Nat.reduceEqDiff, Nat.reduceBEq, Nat.reduceAdd, Nat.reduceMul, Nat.reduceSub, Nat.reduceLeDiff, Nat.reduceLT, reduceIte, reduceCtorEq, Int.reduceToNat, Int.reduceLE, Int.reduceLT, Int.reduceNeg, Int.toNat_natCast, Option.getD_some, List.take_length, List.getD_nil, Int.natCast_nonneg, List.length_map, Bool.not_not, and_self, Bool.and_eq_false_iff, Int.cast_ofNat_Int, Int.reduceAdd, Int.reduceSub, Int.reduceMul, Int.reduceEq, Int.reduceNe]) (fn26) ⟨rfl, trivial⟩ trivial ?_
    simp only [go_sem, Nat.reduceEqDiff, Nat.reduceBEq, Nat.reduceAdd, Nat.reduceMul, Nat.reduceSub, Nat.reduceLeDiff, Nat.reduceLT, reduceIte, reduceCtorEq, Int.reduceToNat, Int.reduceLE, Int.reduceLT, Int.reduceNeg, Int.toNat_natCast, Option.getD_some, List.take_length, List.getD_nil, Int.natCast_nonneg, List.length_map, Bool.not_not, and_self, Bool.and_eq_false_iff, Int.cast_ofNat_Int, Int.reduceAdd, Int.reduceSub, Int.reduceMul, Int.reduceEq, Int.reduceNe]
theorem bd1 (w a : Int) (h1 : 0 ≤ w ∧ w ≤ 65535) (h2 : 0 ≤ a ∧ a ≤ 4294967295) : feedR ⟨sAll, 2, 0, w⟩ [] ⟨0, 1, a⟩ = ⟨[⟨0, 1, a⟩], [], [], 0⟩ := by
  have m1 : mayJ ⟨sAll, 2, 0, w⟩ = true := by simp [mayJ, ne_AC]; omega
  have m2 : checkJ ⟨sAll, 2, 0, w⟩ [] = true := by simp [checkJ, m1, okTo, places, firstsTo]
  have m3 : fitsK ⟨sAll, 2, 0, w⟩ ⟨0, 1, a⟩ = true := by rw [fits_iff]; simp; omega
  have m4 : waitsJ ⟨sAll, 2, 0, w⟩ [] ⟨0, 1, a⟩ = [⟨0, 1, a⟩] := rfl
  have m5 : metJ ⟨sAll, 2, 0, w⟩ [⟨0, 1, a⟩] = false := by
    rw [show metJ ⟨sAll, 2, 0, w⟩ [⟨0, 1, a⟩] = metJ ⟨sAll, 2, 0, 0⟩ [⟨0, 1, 0⟩] from rfl]; rfl
  simp [feedR, m2, m3, m4, m5, earlyK, idIn]
theorem bd2 (w a : Int) (h1 : 0 ≤ w ∧ w ≤ 65535) (h2 : 0 ≤ a ∧ a ≤ 4294967295) (d : Int) (hd : 0 ≤ d ∧ d ≤ w) : feedR ⟨sAll, 2, 0, w⟩ [⟨0, 1, a⟩] ⟨1, 2, a + d⟩ = ⟨[], [⟨0, 1, a⟩, ⟨1, 2, a + d⟩], [], 0⟩ := by
  have m1 : mayJ ⟨sAll, 2, 0, w⟩ = true := by simp [mayJ, ne_AC]; omega
  have m2 : checkJ ⟨sAll, 2, 0, w⟩ [⟨0, 1, a⟩] = true := by
    simp [checkJ, m1, okTo, places, firstsTo, isFirst, hasPart, okAt, fitsK, timeB, earlyK, List.range_succ]; omega
  have m3 : fitsK ⟨sAll, 2, 0, w⟩ ⟨1, 2, a + d⟩ = true := by rw [fits_iff]; simp; omega
  have m4 : waitsJ ⟨sAll, 2, 0, w⟩ [⟨0, 1, a⟩] ⟨1, 2, a + d⟩ = [⟨0, 1, a⟩, ⟨1, 2, a + d⟩] := by
    have : isOver ⟨sAll, 2, 0, w⟩ (a + d) ⟨0, 1, a⟩ = false := by simp [isOver]; omega
    simp [waitsJ, nOver, this]
  have m5 : metJ ⟨sAll, 2, 0, w⟩ [⟨0, 1, a⟩, ⟨1, 2, a + d⟩] = true := by
    rw [show metJ ⟨sAll, 2, 0, w⟩ [⟨0, 1, a⟩, ⟨1, 2, a + d⟩] = metJ ⟨sAll, 2, 0, 0⟩ [⟨0, 1, 0⟩, ⟨1, 2, 0⟩] from rfl]; rfl
  have m6 : nOver ⟨sAll, 2, 0, w⟩ (a + d) [⟨0, 1, a⟩] = 0 := by
    have : isOver ⟨sAll, 2, 0, w⟩ (a + d) ⟨0, 1, a⟩ = false := by simp [isOver]; omega
    simp [nOver, this]
  have m7 : earlyK [⟨0, 1, a⟩] (a + d) = false := by simp [earlyK]; omega
  have m8 : pickK (fireAt ⟨sAll, 2, 0, w⟩ [⟨0, 1, a⟩, ⟨1, 2, a + d⟩]) [⟨0, 1, a⟩, ⟨1, 2, a + d⟩] 2 = [⟨0, 1, a⟩, ⟨1, 2, a + d⟩] := rfl
  have m9 : pickK (fun i => !fireAt ⟨sAll, 2, 0, w⟩ [⟨0, 1, a⟩, ⟨1, 2, a + d⟩] i) [⟨0, 1, a⟩, ⟨1, 2, a + d⟩] 2 = [] := rfl
  simp [feedR, m2, m3, m4, m5, m6, m7, m8, m9, idIn]
theorem bd3 (w a : Int) (h1 : 0 ≤ w ∧ w ≤ 65535) (h2 : 0 ≤ a ∧ a ≤ 4294967295) : feedR ⟨sAll, 2, 0, w⟩ [⟨0, 1, a⟩] ⟨1, 2, a + w + 1⟩ = ⟨[⟨1, 2, a + w + 1⟩], [], [⟨0, 1, a⟩], 0⟩ := by
  have m1 : mayJ ⟨sAll, 2, 0, w⟩ = true := by simp [mayJ, ne_AC]; omega
  have m2 : checkJ ⟨sAll, 2, 0, w⟩ [⟨0, 1, a⟩] = true := by
    simp [checkJ, m1, okTo, places, firstsTo, isFirst, hasPart, okAt, fitsK, timeB, earlyK, List.range_succ]; omega
  have m3 : fitsK ⟨sAll, 2, 0, w⟩ ⟨1, 2, a + w + 1⟩ = true := by rw [fits_iff]; simp; omega
  have m0 : isOver ⟨sAll, 2, 0, w⟩ (a + w + 1) ⟨0, 1, a⟩ = true := by simp [isOver]; omega
  have m6 : nOver ⟨sAll, 2, 0, w⟩ (a + w + 1) [⟨0, 1, a⟩] = 1 := by simp [nOver, m0]
  have m4 : waitsJ ⟨sAll, 2, 0, w⟩ [⟨0, 1, a⟩] ⟨1, 2, a + w + 1⟩ = [⟨1, 2, a + w + 1⟩] := by simp [waitsJ, m6]
  have m5 : metJ ⟨sAll, 2, 0, w⟩ [⟨1, 2, a + w + 1⟩] = false := by
    rw [show metJ ⟨sAll, 2, 0, w⟩ [⟨1, 2, a + w + 1⟩] = metJ ⟨sAll, 2, 0, 0⟩ [⟨1, 2, 0⟩] from rfl]; rfl
  have m7 : earlyK [⟨0, 1, a⟩] (a + w + 1) = false := by simp [earlyK]; omega
  simp [feedR, m2, m3, m4, m5, m6, m7, idIn]
theorem law9 (w a : Int) (h1 : 0 ≤ w ∧ w ≤ 65535) (h2 : 0 ≤ a ∧ a ≤ 4294967295) : Fn Try.prog 9 [.sc (.int .u16 w), .sc (.int .u32 a)] (.pv (pB true)) [] := by
  refine Run9 [] (by simp) ?_
  have e1 := fn19 ⟨sAll, 2, 0, w⟩ [] ⟨0, 1, a⟩ (by simp)
  have e2 := fn19 ⟨sAll, 2, 0, w⟩ [⟨0, 1, a⟩] ⟨1, 2, a + w⟩ (by simp)
  have e3 := fn19 ⟨sAll, 2, 0, w⟩ [⟨0, 1, a⟩] ⟨1, 2, a + w + 1⟩ (by simp)
  rw [bd1 w a h1 h2] at e1
  rw [bd2 w a h1 h2 w ⟨by omega, by omega⟩] at e2
  rw [bd3 w a h1 h2] at e3
  simp only [go_sem, Nat.reduceEqDiff, Nat.reduceBEq, Nat.reduceAdd, Nat.reduceMul, Nat.reduceSub, Nat.reduceLeDiff, Nat.reduceLT, reduceIte, reduceCtorEq, Int.reduceToNat, Int.reduceLE, Int.reduceLT, Int.reduceNeg, Int.toNat_natCast, Option.getD_some, List.take_length, List.getD_nil, Int.natCast_nonneg, List.length_map, Bool.not_not, and_self, Bool.and_eq_false_iff, Int.cast_ofNat_Int, Int.reduceAdd, Int.reduceSub, Int.reduceMul, Int.reduceEq, Int.reduceNe, M9, fAll]
  refine ⟨by omega, by omega, ?_⟩
  refine runR_call (by simp only [go_sem, Nat.reduceEqDiff, Nat.reduceBEq, Nat.reduceAdd, Nat.reduceMul, Nat.reduceSub, Nat.reduceLeDiff, Nat.reduceLT, reduceIte, reduceCtorEq, Int.reduceToNat, Int.reduceLE, Int.reduceLT, Int.reduceNeg, Int.toNat_natCast, Option.getD_some, List.take_length, List.getD_nil, Int.natCast_nonneg, List.length_map, Bool.not_not, and_self, Bool.and_eq_false_iff, Int.cast_ofNat_Int, Int.reduceAdd, Int.reduceSub, Int.reduceMul, Int.reduceEq, Int.reduceNe]) rfl (e1) (.inl rfl) trivial ?_
  simp only [go_sem, Nat.reduceEqDiff, Nat.reduceBEq, Nat.reduceAdd, Nat.reduceMul, Nat.reduceSub, Nat.reduceLeDiff, Nat.reduceLT, reduceIte, reduceCtorEq, Int.reduceToNat, Int.reduceLE, Int.reduceLT, Int.reduceNeg, Int.toNat_natCast, Option.getD_some, List.take_length, List.getD_nil, Int.natCast_nonneg, List.length_map, Bool.not_not, and_self, Bool.and_eq_false_iff, Int.cast_ofNat_Int, Int.reduceAdd, Int.reduceSub, Int.reduceMul, Int.reduceEq, Int.reduceNe, List.map_cons, List.map_nil]
  refine ⟨by omega, by omega, by omega, ?_⟩
  refine runR_call (by simp only [go_sem, Nat.reduceEqDiff, Nat.reduceBEq, Nat.reduceAdd, Nat.reduceMul, Nat.reduceSub, Nat.reduceLeDiff, Nat.reduceLT, reduceIte, reduceCtorEq, Int.reduceToNat, Int.reduceLE, Int.reduceLT, Int.reduceNeg, Int.toNat_natCast, Option.getD_some, List.take_length, List.getD_nil, Int.natCast_nonneg, List.length_map, Bool.not_not, and_self, Bool.and_eq_false_iff, Int.cast_ofNat_Int, Int.reduceAdd, Int.reduceSub, Int.reduceMul, Int.reduceEq, Int.reduceNe]) rfl (e2) (.inl rfl) trivial ?_
  simp only [go_sem, Nat.reduceEqDiff, Nat.reduceBEq, Nat.reduceAdd, Nat.reduceMul, Nat.reduceSub, Nat.reduceLeDiff, Nat.reduceLT, reduceIte, reduceCtorEq, Int.reduceToNat, Int.reduceLE, Int.reduceLT, Int.reduceNeg, Int.toNat_natCast, Option.getD_some, List.take_length, List.getD_nil, Int.natCast_nonneg, List.length_map, Bool.not_not, and_self, Bool.and_eq_false_iff, Int.cast_ofNat_Int, Int.reduceAdd, Int.reduceSub, Int.reduceMul, Int.reduceEq, Int.reduceNe, List.map_cons, List.map_nil]
  refine ⟨by omega, by omega, by omega, by omega, ?_⟩
  refine runR_call (by simp only [go_sem, Nat.reduceEqDiff, Nat.reduceBEq, Nat.reduceAdd, Nat.reduceMul, Nat.reduceSub, Nat.reduceLeDiff, Nat.reduceLT, reduceIte, reduceCtorEq, Int.reduceToNat, Int.reduceLE, Int.reduceLT, Int.reduceNeg, Int.toNat_natCast, Option.getD_some, List.take_length, List.getD_nil, Int.natCast_nonneg, List.length_map, Bool.not_not, and_self, Bool.and_eq_false_iff, Int.cast_ofNat_Int, Int.reduceAdd, Int.reduceSub, Int.reduceMul, Int.reduceEq, Int.reduceNe]) rfl (e3) (.inl rfl) trivial ?_
  simp only [go_sem, Nat.reduceEqDiff, Nat.reduceBEq, Nat.reduceAdd, Nat.reduceMul, Nat.reduceSub, Nat.reduceLeDiff, Nat.reduceLT, reduceIte, reduceCtorEq, Int.reduceToNat, Int.reduceLE, Int.reduceLT, Int.reduceNeg, Int.toNat_natCast, Option.getD_some, List.take_length, List.getD_nil, Int.natCast_nonneg, List.length_map, Bool.not_not, and_self, Bool.and_eq_false_iff, Int.cast_ofNat_Int, Int.reduceAdd, Int.reduceSub, Int.reduceMul, Int.reduceEq, Int.reduceNe, List.map_cons, List.map_nil]
  refine runR_callgf (by simp only [go_sem, Nat.reduceEqDiff, Nat.reduceBEq, Nat.reduceAdd, Nat.reduceMul, Nat.reduceSub, Nat.reduceLeDiff, Nat.reduceLT, reduceIte, reduceCtorEq, Int.reduceToNat, Int.reduceLE, Int.reduceLT, Int.reduceNeg, Int.toNat_natCast, Option.getD_some, List.take_length, List.getD_nil, Int.natCast_nonneg, List.length_map, Bool.not_not, and_self, Bool.and_eq_false_iff, Int.cast_ofNat_Int, Int.reduceAdd, Int.reduceSub, Int.reduceMul, Int.reduceEq, Int.reduceNe]) (by simp only [go_sem, Nat.reduceEqDiff, Nat.reduceBEq, Nat.reduceAdd, Nat.reduceMul, Nat.reduceSub, Nat.reduceLeDiff, Nat.reduceLT, reduceIte, reduceCtorEq, Int.reduceToNat, Int.reduceLE, Int.reduceLT, Int.reduceNeg, Int.toNat_natCast, Option.getD_some, List.take_length, List.getD_nil, Int.natCast_nonneg, List.length_map, Bool.not_not, and_self, Bool.and_eq_false_iff, Int.cast_ofNat_Int, Int.reduceAdd, Int.reduceSub, Int.reduceMul, Int.reduceEq, Int.reduceNe]) (by simp only [go_sem, Nat.reduceEqDiff, Nat.reduceBEq, Nat.reduceAdd, Nat.reduceMul, Nat.reduceSub, Nat.reduceLeDiff, Nat.reduceLT, reduceIte, reduceCtorEq, Int.reduceToNat, Int.reduceLE, Int.reduceLT, Int.reduceNeg, Int.toNat_natCast, Option.getD_some, List.take_length, List.getD_nil, Int.natCast_nonneg, List.length_map, Bool.not_not, and_self, Bool.and_eq_false_iff, Int.cast_ofNat_Int, Int.reduceAdd, Int.reduceSub, Int.reduceMul, Int.reduceEq, Int.reduceNe]) (fun _ => fn26) rfl ?_
  simp only [go_sem, Nat.reduceEqDiff, Nat.reduceBEq, Nat.reduceAdd, Nat.reduceMul, Nat.reduceSub, Nat.reduceLeDiff, Nat.reduceLT, reduceIte, reduceCtorEq, Int.reduceToNat, Int.reduceLE, Int.reduceLT, Int.reduceNeg, Int.toNat_natCast, Option.getD_some, List.take_length, List.getD_nil, Int.natCast_nonneg, List.length_map, Bool.not_not, and_self, Bool.and_eq_false_iff, Int.cast_ofNat_Int, Int.reduceAdd, Int.reduceSub, Int.reduceMul, Int.reduceEq, Int.reduceNe]
theorem any1 (j : Jn) (h : j = ⟨sAny, 6, 0, 3⟩ ∨ j = ⟨sCount, 6, 1, 3⟩) (x : Kp) : feedR j [] x = if 0 ≤ x.part ∧ x.part < 6 ∧ 0 ≤ x.at_ ∧ x.at_ ≤ 1099511627775 then ⟨[], [x], [], 0⟩ else frErr 1 := by
  have m1 : checkJ j [] = true := by rcases h with rfl | rfl <;> rfl
  have m2 : j.parts = 6 := by rcases h with rfl | rfl <;> rfl
  have m3 := fits_iff j x
  rw [m2] at m3
  have m4 : waitsJ j [] x = [x] := rfl
  have m5 : metJ j [x] = true := by rcases h with rfl | rfl <;> rfl
  have m6 : pickK (fireAt j [x]) [x] 1 = [x] := by rcases h with rfl | rfl <;> rfl
  have m7 : pickK (fun i => !fireAt j [x] i) [x] 1 = [] := by rcases h with rfl | rfl <;> rfl
  split
  · rename_i hx
    simp [feedR, m1, m3.2 hx, m4, m5, m6, m7, earlyK, idIn]
  · rename_i hx
    have : fitsK j x = false := by rw [Bool.eq_false_iff]; intro ht; exact hx (m3.1 ht)
    simp [feedR, m1, this]
theorem law10 (l : List Kp) (c : Bool) (hl : l.length ≤ 9223372036854775807) : Fn Try.prog 10 [ks l, pB c] (.pv (pB true)) [] := by
  refine Run10 [] (by simp) ?_
  have main : ∀ j : Jn, j = ⟨sAny, 6, 0, 3⟩ ∨ j = ⟨sCount, 6, 1, 3⟩ → run Try.prog (retK [RV.tmp 4] [] (.pv (pB true)) []) (.loop B10_0) [.blk 0, .code R10_0]
     ⟨[(0, .pv (ks l)), (5, .ptr 5 0), (6, .pv (pI 0))], [(5, .box [.pv (pS j.kind), .pv (pI j.parts), .pv (pI j.need), .pv (pI j.window)])]⟩ := by
    intro j hj
    refine run_loop (T := Nat) (fun i => ⟨[(0, .pv (ks l)), (5, .ptr 5 0), (6, .pv (pI i))], [(5, .box [.pv (pS j.kind), .pv (pI j.parts), .pv (pI j.need), .pv (pI j.window)])]⟩)
      (fun i => i ≤ l.length ∧ i ≤ 20) (fun i => 20 - i) 0 rfl ⟨Nat.zero_le _, by omega⟩ ?_
    intro i ⟨hi, h20⟩
    by_cases hlt : i < l.length ∧ i < 20
    · obtain ⟨hlt, hlt2⟩ := hlt
      simp only [go_sem, Nat.reduceEqDiff, Nat.reduceBEq, Nat.reduceAdd, Nat.reduceMul, Nat.reduceSub, Nat.reduceLeDiff, Nat.reduceLT, reduceIte, reduceCtorEq, Int.reduceToNat, Int.reduceLE, Int.reduceLT, Int.reduceNeg, Int.toNat_natCast, Option.getD_some, List.take_length, List.getD_nil, Int.natCast_nonneg, List.length_map, Bool.not_not, and_self, Bool.and_eq_false_iff, Int.cast_ofNat_Int, Int.reduceAdd, Int.reduceSub, Int.reduceMul, Int.reduceEq, Int.reduceNe, B10_0, wf_ks, getD_ks hlt, show (i : Int) < (l.length : Int) by omega, show (i : Int) < 20 by omega]
      refine runR_call (by simp only [go_sem, Nat.reduceEqDiff, Nat.reduceBEq, Nat.reduceAdd, Nat.reduceMul, Nat.reduceSub, Nat.reduceLeDiff, Nat.reduceLT, reduceIte, reduceCtorEq, Int.reduceToNat, Int.reduceLE, Int.reduceLT, Int.reduceNeg, Int.toNat_natCast, Option.getD_some, List.take_length, List.getD_nil, Int.natCast_nonneg, List.length_map, Bool.not_not, and_self, Bool.and_eq_false_iff, Int.cast_ofNat_Int, Int.reduceAdd, Int.reduceSub, Int.reduceMul, Int.reduceEq, Int.reduceNe]) rfl (fn19 j [] (l.getD i default) (by simp)) (.inl rfl) trivial ?_
      rw [any1 j hj]
      by_cases hx : 0 ≤ (l.getD i default).part ∧ (l.getD i default).part < 6 ∧ 0 ≤ (l.getD i default).at_ ∧ (l.getD i default).at_ ≤ 1099511627775
      · rw [if_pos hx]
        simp only [go_sem, Nat.reduceEqDiff, Nat.reduceBEq, Nat.reduceAdd, Nat.reduceMul, Nat.reduceSub, Nat.reduceLeDiff, Nat.reduceLT, reduceIte, reduceCtorEq, Int.reduceToNat, Int.reduceLE, Int.reduceLT, Int.reduceNeg, Int.toNat_natCast, Option.getD_some, List.take_length, List.getD_nil, Int.natCast_nonneg, List.length_map, Bool.not_not, and_self, Bool.and_eq_false_iff, Int.cast_ofNat_Int, Int.reduceAdd, Int.reduceSub, Int.reduceMul, Int.reduceEq, Int.reduceNe, List.map_nil, List.length_nil, List.map_cons]
        refine ⟨fun h => absurd h (by omega), fun _ => ?_⟩
        refine runR_callgf (by simp only [go_sem, Nat.reduceEqDiff, Nat.reduceBEq, Nat.reduceAdd, Nat.reduceMul, Nat.reduceSub, Nat.reduceLeDiff, Nat.reduceLT, reduceIte, reduceCtorEq, Int.reduceToNat, Int.reduceLE, Int.reduceLT, Int.reduceNeg, Int.toNat_natCast, Option.getD_some, List.take_length, List.getD_nil, Int.natCast_nonneg, List.length_map, Bool.not_not, and_self, Bool.and_eq_false_iff, Int.cast_ofNat_Int, Int.reduceAdd, Int.reduceSub, Int.reduceMul, Int.reduceEq, Int.reduceNe]) (by simp only [go_sem, Nat.reduceEqDiff, Nat.reduceBEq, Nat.reduceAdd, Nat.reduceMul, Nat.reduceSub, Nat.reduceLeDiff, Nat.reduceLT, reduceIte, reduceCtorEq, Int.reduceToNat, Int.reduceLE, Int.reduceLT, Int.reduceNeg, Int.toNat_natCast, Option.getD_some, List.take_length, List.getD_nil, Int.natCast_nonneg, List.length_map, Bool.not_not, and_self, Bool.and_eq_false_iff, Int.cast_ofNat_Int, Int.reduceAdd, Int.reduceSub, Int.reduceMul, Int.reduceEq, Int.reduceNe]) (by simp only [go_sem, Nat.reduceEqDiff, Nat.reduceBEq, Nat.reduceAdd, Nat.reduceMul, Nat.reduceSub, Nat.reduceLeDiff, Nat.reduceLT, reduceIte, reduceCtorEq, Int.reduceToNat, Int.reduceLE, Int.reduceLT, Int.reduceNeg, Int.toNat_natCast, Option.getD_some, List.take_length, List.getD_nil, Int.natCast_nonneg, List.length_map, Bool.not_not, and_self, Bool.and_eq_false_iff, Int.cast_ofNat_Int, Int.reduceAdd, Int.reduceSub, Int.reduceMul, Int.reduceEq, Int.reduceNe]; rfl) (fun _ => fn21 [l.getD i default] [l.getD i default] (by simp) (by simp)) rfl ?_
        simp only [go_sem, Nat.reduceEqDiff, Nat.reduceBEq, Nat.reduceAdd, Nat.reduceMul, Nat.reduceSub, Nat.reduceLeDiff, Nat.reduceLT, reduceIte, reduceCtorEq, Int.reduceToNat, Int.reduceLE, Int.reduceLT, Int.reduceNeg, Int.toNat_natCast, Option.getD_some, List.take_length, List.getD_nil, Int.natCast_nonneg, List.length_map, Bool.not_not, and_self, Bool.and_eq_false_iff, Int.cast_ofNat_Int, Int.reduceAdd, Int.reduceSub, Int.reduceMul, Int.reduceEq, Int.reduceNe]
        exact ⟨by omega, i + 1, rfl, ⟨hlt, hlt2⟩, by omega⟩
      · rw [if_neg hx]
        simp only [go_sem, Nat.reduceEqDiff, Nat.reduceBEq, Nat.reduceAdd, Nat.reduceMul, Nat.reduceSub, Nat.reduceLeDiff, Nat.reduceLT, reduceIte, reduceCtorEq, Int.reduceToNat, Int.reduceLE, Int.reduceLT, Int.reduceNeg, Int.toNat_natCast, Option.getD_some, List.take_length, List.getD_nil, Int.natCast_nonneg, List.length_map, Bool.not_not, and_self, Bool.and_eq_false_iff, Int.cast_ofNat_Int, Int.reduceAdd, Int.reduceSub, Int.reduceMul, Int.reduceEq, Int.reduceNe, List.map_nil, List.length_nil, frErr]
        exact ⟨fun h => ⟨by omega, i + 1, rfl, ⟨hlt, hlt2⟩, by omega⟩, fun h => absurd h (by omega)⟩
    · by_cases h1 : i < l.length
      · simp only [go_sem, Nat.reduceEqDiff, Nat.reduceBEq, Nat.reduceAdd, Nat.reduceMul, Nat.reduceSub, Nat.reduceLeDiff, Nat.reduceLT, reduceIte, reduceCtorEq, Int.reduceToNat, Int.reduceLE, Int.reduceLT, Int.reduceNeg, Int.toNat_natCast, Option.getD_some, List.take_length, List.getD_nil, Int.natCast_nonneg, List.length_map, Bool.not_not, and_self, Bool.and_eq_false_iff, Int.cast_ofNat_Int, Int.reduceAdd, Int.reduceSub, Int.reduceMul, Int.reduceEq, Int.reduceNe, B10_0, show (i : Int) < (l.length : Int) by omega, show ¬ (i : Int) < 20 by omega, R10_0]
        refine runR_callf (by simp only [go_sem, Nat.reduceEqDiff, Nat.reduceBEq, Nat.reduceAdd, Nat.reduceMul, Nat.reduceSub, Nat.reduceLeDiff, Nat.reduceLT, reduceIte, reduceCtorEq, Int.reduceToNat, Int.reduceLE, Int.reduceLT, Int.reduceNeg, Int.toNat_natCast, Option.getD_some, List.take_length, List.getD_nil, Int.natCast_nonneg, List.length_map, Bool.not_not, and_self, Bool.and_eq_false_iff, Int.cast_ofNat_Int, Int.reduceAdd, Int.reduceSub, Int.reduceMul, Int.reduceEq, Int.reduceNe]) (by simp only [go_sem, Nat.reduceEqDiff, Nat.reduceBEq, Nat.reduceAdd, Nat.reduceMul, Nat.reduceSub, Nat.reduceLeDiff, Nat.reduceLT, reduceIte, reduceCtorEq, Int.reduceToNat, Int.reduceLE, Int.reduceLT, Int.reduceNeg, Int.toNat_natCast, Option.getD_some, List.take_length, List.getD_nil, Int.natCast_nonneg, List.length_map, Bool.not_not, and_self, Bool.and_eq_false_iff, Int.cast_ofNat_Int, Int.reduceAdd, Int.reduceSub, Int.reduceMul, Int.reduceEq, Int.reduceNe]) (fn26) ⟨rfl, trivial⟩ trivial ?_
        simp only [go_sem, Nat.reduceEqDiff, Nat.reduceBEq, Nat.reduceAdd, Nat.reduceMul, Nat.reduceSub, Nat.reduceLeDiff, Nat.reduceLT, reduceIte, reduceCtorEq, Int.reduceToNat, Int.reduceLE, Int.reduceLT, Int.reduceNeg, Int.toNat_natCast, Option.getD_some, List.take_length, List.getD_nil, Int.natCast_nonneg, List.length_map, Bool.not_not, and_self, Bool.and_eq_false_iff, Int.cast_ofNat_Int, Int.reduceAdd, Int.reduceSub, Int.reduceMul, Int.reduceEq, Int.reduceNe]
      · simp only [go_sem, Nat.reduceEqDiff, Nat.reduceBEq, Nat.reduceAdd, Nat.reduceMul, Nat.reduceSub, Nat.reduceLeDiff, Nat.reduceLT, reduceIte, reduceCtorEq, Int.reduceToNat, Int.reduceLE, Int.reduceLT, Int.reduceNeg, Int.toNat_natCast, Option.getD_some, List.take_length, List.getD_nil, Int.natCast_nonneg, List.length_map, Bool.not_not, and_self, Bool.and_eq_false_iff, Int.cast_ofNat_Int, Int.reduceAdd, Int.reduceSub, Int.reduceMul, Int.reduceEq, Int.reduceNe, B10_0, show ¬ (i : Int) < (l.length : Int) by omega, R10_0]
        refine runR_callf (by simp only [go_sem, Nat.reduceEqDiff, Nat.reduceBEq, Nat.reduceAdd, Nat.reduceMul, Nat.reduceSub, Nat.reduceLeDiff, Nat.reduceLT, reduceIte, reduceCtorEq, Int.reduceToNat, Int.reduceLE, Int.reduceLT, Int.reduceNeg, Int.toNat_natCast, Option.getD_some, List.take_length, List.getD_nil, Int.natCast_nonneg, List.length_map, Bool.not_not, and_self, Bool.and_eq_false_iff, Int.cast_ofNat_Int, Int.reduceAdd, Int.reduceSub, Int.reduceMul, Int.reduceEq, Int.reduceNe]) (by simp only [go_sem, Nat.reduceEqDiff, Nat.reduceBEq, Nat.reduceAdd, Nat.reduceMul, Nat.reduceSub, Nat.reduceLeDiff, Nat.reduceLT, reduceIte, reduceCtorEq, Int.reduceToNat, Int.reduceLE, Int.reduceLT, Int.reduceNeg, Int.toNat_natCast, Option.getD_some, List.take_length, List.getD_nil, Int.natCast_nonneg, List.length_map, Bool.not_not, and_self, Bool.and_eq_false_iff, Int.cast_ofNat_Int, Int.reduceAdd, Int.reduceSub, Int.reduceMul, Int.reduceEq, Int.reduceNe]) (fn26) ⟨rfl, trivial⟩ trivial ?_
        simp only [go_sem, Nat.reduceEqDiff, Nat.reduceBEq, Nat.reduceAdd, Nat.reduceMul, Nat.reduceSub, Nat.reduceLeDiff, Nat.reduceLT, reduceIte, reduceCtorEq, Int.reduceToNat, Int.reduceLE, Int.reduceLT, Int.reduceNeg, Int.toNat_natCast, Option.getD_some, List.take_length, List.getD_nil, Int.natCast_nonneg, List.length_map, Bool.not_not, and_self, Bool.and_eq_false_iff, Int.cast_ofNat_Int, Int.reduceAdd, Int.reduceSub, Int.reduceMul, Int.reduceEq, Int.reduceNe]
  simp only [go_sem, Nat.reduceEqDiff, Nat.reduceBEq, Nat.reduceAdd, Nat.reduceMul, Nat.reduceSub, Nat.reduceLeDiff, Nat.reduceLT, reduceIte, reduceCtorEq, Int.reduceToNat, Int.reduceLE, Int.reduceLT, Int.reduceNeg, Int.toNat_natCast, Option.getD_some, List.take_length, List.getD_nil, Int.natCast_nonneg, List.length_map, Bool.not_not, and_self, Bool.and_eq_false_iff, Int.cast_ofNat_Int, Int.reduceAdd, Int.reduceSub, Int.reduceMul, Int.reduceEq, Int.reduceNe, M10, fAny, fCount]
  exact ⟨fun _ => main ⟨sCount, 6, 1, 3⟩ (.inr rfl), fun _ => main ⟨sAny, 6, 0, 3⟩ (.inl rfl)⟩
end Go.Vc
