/- A part of the proofs of the seat YtmgbbmhljopepaaGreatDoor: the contracts of functions, each proved out of its code. -/
import Derived.Test.YtmgbbmhljopepaaGreatDoorVh
import Derived.Test.YtmgbbmhljopepaaGreatDoorProg
import Derived.Test.YtmgbbmhljopepaaGreatDoorDh
namespace Go.Vc
open Go.Proofs
set_option maxRecDepth 100000
def B14_2 : MC := (.seq (.reg [⟨some 75, none, .q (.bin .lss (.t 74) (.t 73))⟩] [] [1, 2, 4, 6, 7, 8, 9, 10, 11, 12, 13, 14, 68, 69, 72, 73, 74, 75] [2, 4, 9, 14, 41, 42, 66, 119, 129, 137, 1035,
 1049, 1061, 1086]) (.seq (.cond (.t 75) .skip (.exit 4)) (.seq (.block 5 (.seq (.reg [⟨some 76, none, .q (.ia (.t 72) (.t 74) 1)⟩, ⟨some 77, none, .q (.ld (.t 76) 1 false)⟩, ⟨some 16,
 none, .q (.mv (.t 77))⟩] [] [1, 2, 4, 6, 7, 8, 9, 10, 11, 12, 13, 14, 16, 68, 69, 72, 73, 74] [2, 4, 9, 14, 41, 42, 66, 119, 129, 137, 1035, 1049, 1061, 1086]) (.reg [⟨some 78, none,
 .q (.ld (.t 14) 3 true)⟩, ⟨some 79, none, .q (.mv (.t 6))⟩, ⟨some 80, none, .q (.mv (.t 16))⟩, ⟨some 81, none, .q (.ia (.t 79) (.t 80) 1)⟩, ⟨some 82, none, .q (.ld (.t 81)
 1 false)⟩, ⟨some 83, none, .q (.mv (.t 13))⟩, ⟨some 84, none, .q (.ia (.t 82) (.t 83) 3)⟩, ⟨some 85, none, .q (.ld (.t 84) 3 true)⟩, ⟨some 86, none, .call (.f 48) [.t 78,
 .t 85]⟩, ⟨none, none, .st (.t 14) (.t 86) 3⟩] [] [1, 2, 4, 6, 7, 8, 9, 10, 11, 12, 13, 14, 68, 69, 72, 73, 74] [2, 4, 9, 14, 41, 42, 66, 119, 129, 137, 1035, 1049, 1061, 1086])))
 (.reg [⟨some 87, none, .q (.bin .add (.t 74) (.c (.int .i64 1)))⟩, ⟨some 74, none, .q (.mv (.t 87))⟩] [] [1, 2, 4, 6, 7, 8, 9, 10, 11, 12, 13, 14, 68, 69, 72, 73, 74] [2, 4, 9, 14, 41, 42,
 66, 119, 129, 137, 1035, 1049, 1061, 1086]))))
def R14_2 : MC := (.seq (.reg [⟨some 89, none, .q (.mv (.t 8))⟩, ⟨some 90, none, .q (.ld (.t 14) 3 true)⟩, ⟨some 91, none, .q (.mget (.t 89) (.t 90) true (Kk.st [0, 0, 0])
 (.pv (.sc (.int .i64 0))))⟩, ⟨some 88, none, .q (.mv (.t 91))⟩, ⟨some 92, none, .q (.ext (.t 88) 0)⟩, ⟨some 93, none, .q (.ext (.t 88) 1)⟩, ⟨some 17, none, .q (.mv (.t 92))⟩,
 ⟨some 18, none, .q (.mv (.t 93))⟩] [] [1, 2, 4, 6, 7, 8, 9, 10, 11, 12, 13, 14, 17, 18, 68, 69] [2, 4, 9, 14, 41, 42, 66, 119, 129, 137, 1035, 1049, 1061, 1086])
 (.seq (.block 6 (.seq (.reg [⟨some 95, none, .q (.ld (.t 14) 3 true)⟩, ⟨some 96, none, .q (.mk [.pv (.sc (.int .u64 0)), .pv (.sc (.int .u64 0)), .pv (.sc (.int .u64 0))] [])⟩,
 ⟨some 97, none, .q (.seq false [0, 0, 0] (.t 95) (.t 96))⟩, ⟨some 94, none, .q (.mv (.t 97))⟩] [] [1, 2, 4, 6, 7, 8, 9, 10, 11, 12, 13, 14, 17, 18, 68, 69, 94] [2, 4, 9, 14, 41, 42, 66, 119,
 129, 137, 1035, 1049, 1061, 1086]) (.cond (.t 94) (.reg [⟨some 17, none, .q (.mv (.c (.int .i64 (-1))))⟩] [] [1, 2, 4, 6, 7, 8, 9, 10, 11, 12, 13, 17, 68, 69] [2, 4, 9, 41, 42, 66, 119, 129,
 137, 1035, 1049, 1061, 1086]) (.seq (.reg [⟨some 99, none, .q (.mv (.t 18))⟩, ⟨some 100, none, .q (.not (.t 99))⟩, ⟨some 101, none, .q (.mv (.t 100))⟩, ⟨some 102, some (101, true),
 .q (.mv (.t 7))⟩, ⟨some 103, some (101, true), .q (.len (.t 102) false)⟩, ⟨some 104, some (101, true), .q (.mv (.t 1))⟩, ⟨some 105, some (101, true), .q (.bin .eql (.t 103)
 (.t 104))⟩, ⟨some 106, none, .q (.pick (.t 101) (.t 105) (.c (.bool false)))⟩, ⟨some 98, none, .q (.mv (.t 106))⟩] [] [1, 2, 4, 6, 7, 8, 9, 10, 11, 12, 13, 14, 17, 18, 68, 69, 98] [2, 4, 9,
 14, 41, 42, 66, 119, 129, 137, 1035, 1049, 1061, 1086]) (.cond (.t 98) (.seq (.reg [⟨some 107, none, .q (.mk [.e0, .e0, .e0] [])⟩, ⟨none, none, .st (.t 4) (.t 107) 3⟩, ⟨some 5, none,
 .q (.mv (.c (.int .i64 6)))⟩] [] [4, 5] [4, 129, 137, 1049]) .ret) (.seq (.reg [⟨some 109, none, .q (.mv (.t 18))⟩, ⟨some 110, none, .q (.not (.t 109))⟩, ⟨some 108, none,
 .q (.mv (.t 110))⟩] [] [1, 2, 4, 6, 7, 8, 9, 10, 11, 12, 13, 14, 17, 68, 69, 108] [2, 4, 9, 14, 41, 42, 66, 119, 129, 137, 1035, 1049, 1061, 1086]) (.cond (.t 108) (.seq (.reg [⟨some 111, none,
 .q (.mv (.t 7))⟩, ⟨some 112, none, .q (.len (.t 111) false)⟩, ⟨some 17, none, .q (.mv (.t 112))⟩] [] [1, 2, 4, 6, 7, 8, 9, 10, 11, 12, 13, 14, 17, 68, 69] [2, 4, 9, 14, 41, 42, 66, 119,
 129, 137, 1035, 1049, 1061, 1086]) (.seq (.reg [⟨some 113, none, .q (.mv (.t 8))⟩, ⟨some 114, none, .q (.ld (.t 14) 3 true)⟩, ⟨some 115, none, .q (.mv (.t 17))⟩, ⟨none, none,
 .mset (.t 113) (.t 114) (.t 115) (Kk.st [0, 0, 0])⟩] [] [1, 2, 4, 6, 7, 8, 9, 10, 11, 12, 13, 14, 17, 68, 69] [2, 4, 9, 14, 41, 42, 66, 119, 129, 137, 1035, 1049, 1061, 1086]) (.reg [⟨some 116,
 none, .q (.mv (.t 7))⟩, ⟨some 117, none, .q (.ld (.t 14) 3 true)⟩, ⟨some 118, none, .lits [.t 117] 3⟩, ⟨some 119, none, .app (.t 116) (.t 118) 3 24⟩, ⟨some 7, none,
 .q (.mv (.t 119))⟩] [] [1, 2, 4, 6, 7, 8, 9, 10, 11, 12, 13, 17, 68, 69] [2, 4, 9, 41, 42, 66, 119, 129, 137, 1035, 1049, 1061, 1086]))) .skip))))))) (.reg [⟨some 120, none, .q (.mv (.t 12))⟩,
 ⟨some 121, none, .q (.mv (.t 13))⟩, ⟨some 122, none, .q (.mv (.t 17))⟩, ⟨some 123, none, .q (.ia (.t 120) (.t 121) 1)⟩, ⟨none, none, .st (.t 123) (.t 122) 1⟩] [] [1, 2, 4, 6, 7, 8, 9,
 10, 11, 12, 68, 69] [2, 4, 9, 41, 42, 66, 119, 129, 137, 1035, 1049, 1061, 1086])))
def B14_1 : MC := (.seq (.reg [⟨some 70, none, .q (.bin .lss (.t 69) (.t 68))⟩] [] [1, 2, 4, 6, 7, 8, 9, 10, 11, 12, 68, 69, 70] [2, 4, 9, 41, 42, 66, 119, 129, 137, 1035, 1049, 1061, 1086])
 (.seq (.cond (.t 70) .skip (.exit 2)) (.seq (.block 3 (.seq (.reg [⟨some 71, none, .q (.mv (.t 69))⟩, ⟨some 13, none, .q (.mv (.t 71))⟩] [] [1, 2, 4, 6, 7, 8, 9, 10, 11, 12, 13, 68, 69] [2,
 4, 9, 41, 42, 66, 119, 129, 137, 1035, 1049, 1061, 1086]) (.seq (.reg [⟨some 14, none, .alloc [.pv (.sc (.int .u64 0)), .pv (.sc (.int .u64 0)), .pv (.sc (.int .u64 0))]⟩] [] [1, 2, 4, 6,
 7, 8, 9, 10, 11, 12, 13, 14, 68, 69] [2, 4, 9, 14, 41, 42, 66, 119, 129, 137, 1035, 1049, 1061, 1086]) (.seq (.seq (.reg [⟨some 72, none, .q (.mv (.t 11))⟩, ⟨some 73, none, .q (.len (.t 72)
 false)⟩, ⟨some 74, none, .q (.mv (.c (.int .i64 0)))⟩] [] [1, 2, 4, 6, 7, 8, 9, 10, 11, 12, 13, 14, 68, 69, 72, 73, 74] [2, 4, 9, 14, 41, 42, 66, 119, 129, 137, 1035, 1049, 1061, 1086])
 (.block 4 (.loop B14_2))) R14_2)))) (.reg [⟨some 124, none, .q (.bin .add (.t 69) (.c (.int .i64 1)))⟩, ⟨some 69, none, .q (.mv (.t 124))⟩] [] [1, 2, 4, 6, 7, 8, 9, 10, 11, 12, 68, 69] [2,
 4, 9, 41, 42, 66, 119, 129, 137, 1035, 1049, 1061, 1086]))))
def R14_1 : MC := (.seq (.reg [⟨some 125, none, .q (.fa (.t 9) 1)⟩, ⟨some 126, none, .q (.ld (.t 125) 1 false)⟩, ⟨some 127, none, .q (.mv (.t 12))⟩, ⟨some 128, none,
 .lits [.t 127] 1⟩, ⟨some 129, none, .app (.t 126) (.t 128) 1 24⟩, ⟨some 130, none, .q (.fa (.t 9) 1)⟩, ⟨none, none, .st (.t 130) (.t 129) 1⟩] [] [1, 2, 4, 6, 7, 8, 9, 10, 11] [2, 4, 9,
 41, 42, 119, 129, 137, 1035, 1049, 1061]) (.reg [⟨some 131, none, .q (.fa (.t 9) 2)⟩, ⟨some 132, none, .q (.ld (.t 131) 1 false)⟩, ⟨some 133, none, .q (.ld (.t 2) 4 true)⟩, ⟨some 134,
 none, .q (.mv (.t 11))⟩, ⟨some 135, none, .call (.f 49) [.t 133, .t 134]⟩, ⟨some 136, none, .lits [.t 135] 1⟩, ⟨some 137, none, .app (.t 132) (.t 136) 1 24⟩, ⟨some 138, none,
 .q (.fa (.t 9) 2)⟩, ⟨none, none, .st (.t 138) (.t 137) 1⟩] [] [1, 2, 4, 6, 7, 8, 9, 10] [2, 4, 9, 41, 42, 119, 129, 137, 1035, 1049]))
def B14_0 : MC := (.seq (.seq (.reg [⟨some 51, none, .q (.mv (.t 10))⟩, ⟨some 52, none, .q (.mv (.t 7))⟩, ⟨some 53, none, .q (.len (.t 52) false)⟩, ⟨some 54, none, .q (.bin .lss (.t 51)
 (.t 53))⟩] [] [1, 2, 4, 6, 7, 8, 9, 10, 54] [2, 4, 9, 41, 42, 119, 129, 137, 1035, 1049]) (.cond (.t 54) .skip (.exit 0))) (.seq (.block 1 (.seq (.reg [⟨some 57, none, .q (.mv (.t 7))⟩,
 ⟨some 58, none, .q (.mv (.t 10))⟩, ⟨some 59, none, .q (.ia (.t 57) (.t 58) 3)⟩, ⟨some 60, none, .q (.ld (.t 59) 3 true)⟩, ⟨some 61, none, .call (.f 47) [.t 60]⟩, ⟨some 11, none,
 .q (.mv (.t 61))⟩] [] [1, 2, 4, 6, 7, 8, 9, 10, 11] [2, 4, 9, 41, 42, 119, 129, 137, 1035, 1049, 1061]) (.seq (.reg [⟨some 62, none, .q (.fa (.t 2) 0)⟩, ⟨some 63, none, .q (.ld (.t 62)
 1 false)⟩, ⟨some 64, none, .q (.len (.t 63) false)⟩, ⟨some 65, none, .q (.bin .add (.t 64) (.c (.int .i64 1)))⟩, ⟨some 66, none, .mks (.t 65) (.t 65) 1 8 (.sc (.int .i64 0))⟩,
 ⟨some 12, none, .q (.mv (.t 66))⟩] [] [1, 2, 4, 6, 7, 8, 9, 10, 11, 12] [2, 4, 9, 41, 42, 66, 119, 129, 137, 1035, 1049, 1061, 1086]) (.seq (.seq (.reg [⟨some 67, none, .q (.mv (.t 12))⟩,
 ⟨some 68, none, .q (.len (.t 67) false)⟩, ⟨some 69, none, .q (.mv (.c (.int .i64 0)))⟩] [] [1, 2, 4, 6, 7, 8, 9, 10, 11, 12, 68, 69] [2, 4, 9, 41, 42, 66, 119, 129, 137, 1035, 1049, 1061,
 1086]) (.block 2 (.loop B14_1))) R14_1)))) (.reg [⟨some 55, none, .q (.mv (.t 10))⟩, ⟨some 56, none, .q (.bin .add (.t 55) (.c (.int .i64 1)))⟩, ⟨some 10, none, .q (.mv (.t 56))⟩] [] [1,
 2, 4, 6, 7, 8, 9, 10] [2, 4, 9, 41, 42, 119, 129, 137, 1035, 1049])))
def R14_0 : MC := (.seq (.reg [⟨some 139, none, .q (.ld (.t 9) 3 true)⟩, ⟨none, none, .st (.t 4) (.t 139) 3⟩, ⟨some 5, none, .q (.mv (.c (.int .i64 0)))⟩] [] [4, 5] [4, 129, 137, 1049])
 .ret)
def M14 : MC := (.seq (.reg [⟨some 2, none, .box (.t 0)⟩, ⟨some 4, none, .alloc [.e0, .e0, .e0]⟩, ⟨some 5, none, .q (.mv (.c (.int .i64 0)))⟩] [] [1, 2, 4] [2, 4, 129, 137, 1049])
 (.seq (.seq (.reg [⟨some 19, none, .q (.mv (.t 1))⟩, ⟨some 20, none, .q (.bin .lss (.t 19) (.c (.int .i64 1)))⟩, ⟨some 21, none, .q (.mv (.t 20))⟩, ⟨some 22, some (21, false),
 .q (.fa (.t 2) 1)⟩, ⟨some 23, some (21, false), .q (.ld (.t 22) 1 false)⟩, ⟨some 24, some (21, false), .q (.len (.t 23) false)⟩, ⟨some 25, some (21, false), .q (.bin .gtr (.t 24)
 (.c (.int .i64 180)))⟩, ⟨some 26, none, .q (.pick (.t 21) (.c (.bool true)) (.t 25))⟩, ⟨some 27, none, .q (.mv (.t 26))⟩, ⟨some 28, some (27, false), .q (.fa (.t 2) 0)⟩, ⟨some 29,
 some (27, false), .q (.ld (.t 28) 1 false)⟩, ⟨some 30, some (27, false), .q (.len (.t 29) false)⟩, ⟨some 31, some (27, false), .q (.bin .gtr (.t 30) (.c (.int .i64 160)))⟩,
 ⟨some 32, none, .q (.pick (.t 27) (.c (.bool true)) (.t 31))⟩] [] [1, 2, 4, 32] [2, 4, 129, 137, 1049]) (.cond (.t 32) (.seq (.reg [⟨some 33, none, .q (.mk [.e0, .e0, .e0] [])⟩, ⟨none, none,
 .st (.t 4) (.t 33) 3⟩, ⟨some 5, none, .q (.mv (.c (.int .i64 1)))⟩] [] [4, 5] [4, 129, 137, 1049]) .ret) .skip)) (.seq (.reg [⟨some 34, none, .q (.ld (.t 2) 4 true)⟩, ⟨some 35, none,
 .call (.f 43) [.t 34]⟩, ⟨some 6, none, .q (.mv (.t 35))⟩] [] [1, 2, 4, 6] [2, 4, 129, 137, 1035, 1049]) (.seq (.reg [⟨some 36, none, .q (.ld (.t 2) 4 true)⟩, ⟨some 37, none,
 .q (.fa (.t 2) 3)⟩, ⟨some 38, none, .q (.ld (.t 37) 1 false)⟩, ⟨some 39, none, .call (.f 45) [.t 36, .t 38]⟩, ⟨some 40, none, .call (.f 44) [.t 39]⟩, ⟨some 41, none,
 .own [.t 40] 3⟩, ⟨some 7, none, .q (.mv (.t 41))⟩] [] [1, 2, 4, 6, 7] [2, 4, 41, 119, 129, 137, 1035, 1049]) (.seq (.reg [⟨some 42, none, .mkm⟩, ⟨some 43, none, .q (.mv (.t 7))⟩,
 ⟨some 44, none, .q (.ia (.t 43) (.c (.int .i64 0)) 3)⟩, ⟨some 45, none, .q (.ld (.t 44) 3 true)⟩, ⟨none, none, .mset (.t 42) (.t 45) (.c (.int .i64 0)) (Kk.st [0, 0, 0])⟩, ⟨some 46,
 none, .q (.mv (.t 42))⟩, ⟨some 8, none, .q (.mv (.t 46))⟩] [] [1, 2, 4, 6, 7, 8] [2, 4, 41, 42, 119, 129, 137, 1035, 1049]) (.seq (.reg [⟨some 47, none, .q (.fa (.t 2) 0)⟩, ⟨some 48,
 none, .q (.ld (.t 47) 1 false)⟩, ⟨some 49, none, .call (.f 46) [.t 48]⟩, ⟨some 50, none, .q (.mk [.e0, .e0, .e0] [(0, 1, (.t 49))])⟩, ⟨some 9, none, .alloc [.e0, .e0, .e0]⟩, ⟨none,
 none, .st (.t 9) (.t 50) 3⟩] [] [1, 2, 4, 6, 7, 8, 9] [2, 4, 9, 41, 42, 119, 129, 137, 1035, 1049]) (.seq (.seq (.reg [⟨some 10, none, .q (.mv (.c (.int .i64 0)))⟩] [] [1, 2, 4, 6, 7, 8, 9,
 10] [2, 4, 9, 41, 42, 119, 129, 137, 1035, 1049]) (.block 0 (.loop B14_0))) R14_0)))))))
theorem mc14 : ofCode Tryz.prog [41] Tryz.f14.ntmps [(0, ⟨[1, 2, 4], [2, 4, 129, 137, 1049], [], 0, [], none⟩),
  (1, ⟨[1, 2, 4, 32], [2, 4, 129, 137, 1049], [], 0, [], none⟩),
  (2, ⟨[4, 5], [4, 129, 137, 1049], [], 0, [], none⟩),
  (3, ⟨[1, 2, 4, 6], [2, 4, 129, 137, 1035, 1049], [], 0, [], none⟩),
  (4, ⟨[1, 2, 4, 6, 7], [2, 4, 41, 119, 129, 137, 1035, 1049], [], 0, [], none⟩),
  (5, ⟨[1, 2, 4, 6, 7, 8], [2, 4, 41, 42, 119, 129, 137, 1035, 1049], [], 0, [], none⟩),
  (6, ⟨[1, 2, 4, 6, 7, 8, 9], [2, 4, 9, 41, 42, 119, 129, 137, 1035, 1049], [], 0, [], none⟩),
  (7, ⟨[1, 2, 4, 6, 7, 8, 9, 10], [2, 4, 9, 41, 42, 119, 129, 137, 1035, 1049], [], 0, [], none⟩),
  (8, ⟨[1, 2, 4, 6, 7, 8, 9, 10, 54], [2, 4, 9, 41, 42, 119, 129, 137, 1035, 1049], [], 0, [], none⟩),
  (9, ⟨[1, 2, 4, 6, 7, 8, 9, 10], [2, 4, 9, 41, 42, 119, 129, 137, 1035, 1049], [], 0, [], none⟩),
  (10, ⟨[1, 2, 4, 6, 7, 8, 9, 10, 11], [2, 4, 9, 41, 42, 119, 129, 137, 1035, 1049, 1061], [], 0, [], none⟩),
  (11, ⟨[1, 2, 4, 6, 7, 8, 9, 10, 11, 12], [2, 4, 9, 41, 42, 66, 119, 129, 137, 1035, 1049, 1061, 1086], [], 0, [], none⟩),
  (12, ⟨[1, 2, 4, 6, 7, 8, 9, 10, 11, 12, 68, 69], [2, 4, 9, 41, 42, 66, 119, 129, 137, 1035, 1049, 1061, 1086], [], 0, [], none⟩),
  (13, ⟨[1, 2, 4, 6, 7, 8, 9, 10, 11, 12, 68, 69, 70], [2, 4, 9, 41, 42, 66, 119, 129, 137, 1035, 1049, 1061, 1086], [], 0, [], none⟩),
  (14, ⟨[1, 2, 4, 6, 7, 8, 9, 10, 11, 12, 13, 68, 69], [2, 4, 9, 41, 42, 66, 119, 129, 137, 1035, 1049, 1061, 1086], [], 0, [], none⟩),
  (15, ⟨[1, 2, 4, 6, 7, 8, 9, 10, 11, 12, 13, 14, 68, 69], [2, 4, 9, 14, 41, 42, 66, 119, 129, 137, 1035, 1049, 1061, 1086], [], 0, [], none⟩),
  (16, ⟨[1, 2, 4, 6, 7, 8, 9, 10, 11, 12, 13, 14, 68, 69, 72, 73, 74], [2, 4, 9, 14, 41, 42, 66, 119, 129, 137, 1035, 1049, 1061, 1086], [], 0, [], none⟩),
  (17, ⟨[1, 2, 4, 6, 7, 8, 9, 10, 11, 12, 13, 14, 68, 69, 72, 73, 74, 75], [2, 4, 9, 14, 41, 42, 66, 119, 129, 137, 1035, 1049, 1061, 1086], [], 0, [], none⟩),
  (18, ⟨[1, 2, 4, 6, 7, 8, 9, 10, 11, 12, 13, 14, 16, 68, 69, 72, 73, 74], [2, 4, 9, 14, 41, 42, 66, 119, 129, 137, 1035, 1049, 1061, 1086], [], 0, [], none⟩),
  (19, ⟨[1, 2, 4, 6, 7, 8, 9, 10, 11, 12, 13, 14, 68, 69, 72, 73, 74], [2, 4, 9, 14, 41, 42, 66, 119, 129, 137, 1035, 1049, 1061, 1086], [(0, 769), (1, 986), (2, 988), (3, 984), (4, 976), (5, 992), (6, 960), (7, 896), (8, 0), (9, 0)], 511, [], none⟩),
  (20, ⟨[1, 2, 4, 6, 7, 8, 9, 10, 11, 12, 13, 14, 68, 69, 72, 73, 74], [2, 4, 9, 14, 41, 42, 66, 119, 129, 137, 1035, 1049, 1061, 1086], [], 0, [], none⟩),
  (21, ⟨[1, 2, 4, 6, 7, 8, 9, 10, 11, 12, 13, 14, 17, 18, 68, 69], [2, 4, 9, 14, 41, 42, 66, 119, 129, 137, 1035, 1049, 1061, 1086], [], 0, [], none⟩),
  (22, ⟨[1, 2, 4, 6, 7, 8, 9, 10, 11, 12, 13, 14, 17, 18, 68, 69, 94], [2, 4, 9, 14, 41, 42, 66, 119, 129, 137, 1035, 1049, 1061, 1086], [], 0, [], none⟩),
  (23, ⟨[1, 2, 4, 6, 7, 8, 9, 10, 11, 12, 13, 17, 68, 69], [2, 4, 9, 41, 42, 66, 119, 129, 137, 1035, 1049, 1061, 1086], [], 0, [], none⟩),
  (24, ⟨[1, 2, 4, 6, 7, 8, 9, 10, 11, 12, 13, 14, 17, 18, 68, 69, 98], [2, 4, 9, 14, 41, 42, 66, 119, 129, 137, 1035, 1049, 1061, 1086], [], 0, [], none⟩),
  (25, ⟨[4, 5], [4, 129, 137, 1049], [], 0, [], none⟩),
  (26, ⟨[1, 2, 4, 6, 7, 8, 9, 10, 11, 12, 13, 14, 17, 68, 69, 108], [2, 4, 9, 14, 41, 42, 66, 119, 129, 137, 1035, 1049, 1061, 1086], [], 0, [], none⟩),
  (27, ⟨[1, 2, 4, 6, 7, 8, 9, 10, 11, 12, 13, 14, 17, 68, 69], [2, 4, 9, 14, 41, 42, 66, 119, 129, 137, 1035, 1049, 1061, 1086], [], 0, [], none⟩),
  (28, ⟨[1, 2, 4, 6, 7, 8, 9, 10, 11, 12, 13, 14, 17, 68, 69], [2, 4, 9, 14, 41, 42, 66, 119, 129, 137, 1035, 1049, 1061, 1086], [], 0, [], none⟩),
  (29, ⟨[1, 2, 4, 6, 7, 8, 9, 10, 11, 12, 13, 17, 68, 69], [2, 4, 9, 41, 42, 66, 119, 129, 137, 1035, 1049, 1061, 1086], [], 0, [], none⟩),
  (30, ⟨[1, 2, 4, 6, 7, 8, 9, 10, 11, 12, 68, 69], [2, 4, 9, 41, 42, 66, 119, 129, 137, 1035, 1049, 1061, 1086], [], 0, [], none⟩),
  (31, ⟨[1, 2, 4, 6, 7, 8, 9, 10, 11, 12, 68, 69], [2, 4, 9, 41, 42, 66, 119, 129, 137, 1035, 1049, 1061, 1086], [], 0, [], none⟩),
  (32, ⟨[1, 2, 4, 6, 7, 8, 9, 10, 11], [2, 4, 9, 41, 42, 119, 129, 137, 1035, 1049, 1061], [], 0, [], none⟩),
  (33, ⟨[1, 2, 4, 6, 7, 8, 9, 10], [2, 4, 9, 41, 42, 119, 129, 137, 1035, 1049], [(0, 451), (1, 450), (2, 500), (3, 504), (4, 0), (5, 0), (6, 0), (7, 384), (8, 0)], 191, [], none⟩),
  (34, ⟨[4, 5], [4, 129, 137, 1049], [], 0, [], none⟩)] (Tryz.f14.body.getD .skip) = some M14 := by kernel_rfl
theorem Run14 {args : List PV} {v : AV} {rs : List (Nat × List PV)} (ids : List Bool) (h : args.length ≤ 140) (hv : run Tryz.prog (retK [RV.cell 4 3 true, RV.tmp 5] ids v rs) M14 [] ⟨entry 0 args, []⟩) : Fn Tryz.prog 14 args v rs :=
 Fn_run ids (by kernel_rfl) Tryz.func14 (by decide) rfl mc14 (by kernel_rfl) (by rw [Tryz.ntmps14]; exact h) (by rw [Tryz.ntmps14]; decide) hv
def M46 : MC := (.seq (.reg [⟨some 2, none, .q (.mv .nil)⟩] [] [0] []) (.seq (.seq (.reg [⟨some 3, none, .q (.mv (.t 0))⟩, ⟨some 4, none, .isnil (.t 3) false⟩] [] [0, 4] []) (.cond (.t 4)
 (.seq (.reg [⟨some 2, none, .q (.mv .nil)⟩] [(2, 2002, 1)] [2] [7, 2002]) .ret) .skip)) (.seq (.reg [⟨some 5, none, .lits [] 1⟩, ⟨some 6, none, .q (.mv (.t 0))⟩, ⟨some 7, none,
 .app (.t 5) (.t 6) 1 16⟩, ⟨some 2, none, .q (.mv (.t 7))⟩] [] [2] [7, 2002]) .ret)))
theorem mc46 : ofCode Tryz.prog [] Tryz.f46.ntmps [(0, ⟨[0], [], [], 0, [], none⟩),
  (1, ⟨[0, 4], [], [], 0, [], none⟩),
  (2, ⟨[2], [7, 2002], [], 0, [(2, 2002, 1)], none⟩),
  (3, ⟨[2], [7, 2002], [], 0, [], none⟩)] (Tryz.f46.body.getD .skip) = some M46 := by kernel_rfl
theorem Run46 {args : List PV} {v : AV} {rs : List (Nat × List PV)} (ids : List Bool) (h : args.length ≤ 8) (hv : run Tryz.prog (retK [RV.tmp 2] ids v rs) M46 [] ⟨entry 0 args, []⟩) : Fn Tryz.prog 46 args v rs :=
 Fn_run ids (by kernel_rfl) Tryz.func46 (by decide) rfl mc46 (by kernel_rfl) (by rw [Tryz.ntmps46]; exact h) (by rw [Tryz.ntmps46]; decide) hv
def M53 : MC := (.seq (.reg [⟨some 2, none, .q (.mv .nil)⟩] [] [0] []) (.seq (.seq (.reg [⟨some 3, none, .q (.mv (.t 0))⟩, ⟨some 4, none, .isnil (.t 3) false⟩] [] [0, 4] []) (.cond (.t 4)
 (.seq (.reg [⟨some 2, none, .q (.mv .nil)⟩] [(2, 2002, 1)] [2] [7, 2002]) .ret) .skip)) (.seq (.reg [⟨some 5, none, .lits [] 1⟩, ⟨some 6, none, .q (.mv (.t 0))⟩, ⟨some 7, none,
 .app (.t 5) (.t 6) 1 8⟩, ⟨some 2, none, .q (.mv (.t 7))⟩] [] [2] [7, 2002]) .ret)))
theorem mc53 : ofCode Tryz.prog [] Tryz.f53.ntmps [(0, ⟨[0], [], [], 0, [], none⟩),
  (1, ⟨[0, 4], [], [], 0, [], none⟩),
  (2, ⟨[2], [7, 2002], [], 0, [(2, 2002, 1)], none⟩),
  (3, ⟨[2], [7, 2002], [], 0, [], none⟩)] (Tryz.f53.body.getD .skip) = some M53 := by kernel_rfl
theorem Run53 {args : List PV} {v : AV} {rs : List (Nat × List PV)} (ids : List Bool) (h : args.length ≤ 8) (hv : run Tryz.prog (retK [RV.tmp 2] ids v rs) M53 [] ⟨entry 0 args, []⟩) : Fn Tryz.prog 53 args v rs :=
 Fn_run ids (by kernel_rfl) Tryz.func53 (by decide) rfl mc53 (by kernel_rfl) (by rw [Tryz.ntmps53]; exact h) (by rw [Tryz.ntmps53]; decide) hv
end Go.Vc

namespace Go.Vc
open Go.Proofs
set_option linter.unusedSimpArgs false
set_option linter.unusedVariables false
theorem inN_iff {S : List Nat} {j : Nat} : inN S j = true ↔ j ∈ S := by simp [inN]
theorem cl_any {E : Nat → Bool} : ∀ {l : List Int} {s : Nat}, cl E (inI l) s = true ↔ ∃ x ∈ l, cl E (inI [x]) s = true
 | [], s => by
  constructor
  ·exact fun h => (cl_least (Q := fun _ => False) (fun s h => by simp [inI] at h) (fun s h => h.elim) s h).elim
  ·rintro ⟨x, hx, _⟩; cases hx
 | y :: l, s => by
  have e : inI (y :: l) = fun i => inI [y] i || inI l i := funext fun i => by simp [inI]
  rw [e, cl_or, Bool.or_eq_true, cl_any (l := l)]
  constructor
  ·rintro (h | ⟨x, hx, h⟩)
   ·exact ⟨y, by simp, h⟩
   ·exact ⟨x, List.mem_cons_of_mem _ hx, h⟩
  ·rintro ⟨x, hx, h⟩
   rcases List.mem_cons.1 hx with rfl | hx
   ·exact .inl h
   ·exact .inr ⟨x, hx, h⟩
theorem shut_mem {n : NF} {b : Int} {j : Nat} : shutP n b j = true ↔ j < n.size ∧ cl n.eps (inI [b]) j = true := by
 unfold shutP
 rw [inN_iff, closeN_mem]
theorem go_step {n : NF} (heg : n.Eg) {S : List Nat} (hS : ∀ s ∈ S, s < n.size) (a j : Nat) : (S.any fun s => wayP n (n.ways.getD s []) a j) = inN (stepN n (toI S) (a : Int)) j := by
 rw [Bool.eq_iff_iff, inN_iff]
 have hst : stepN n (toI S) (a : Int) = closeN n (goN n (toI S) (a : Int)) := by unfold stepN; rw [if_neg (by omega)]
 rw [hst, closeN_mem, cl_any, List.any_eq_true]
 unfold wayP
 constructor
 ·rintro ⟨s, hs, h⟩
  rw [List.any_eq_true] at h
  obtain ⟨e, he, h⟩ := h
  simp only [Bool.and_eq_true, decide_eq_true_eq] at h
  obtain ⟨h1, h2, h3⟩ := h
  obtain ⟨h4, h5⟩ := shut_mem.1 h3
  refine ⟨h4, e.2, ?_, h5⟩
  unfold goN
  rw [List.mem_flatMap]
  refine ⟨(s : Int), toI_mem.2 hs, ?_⟩
  have : waysAt n (s : Int) = n.ways.getD s [] := by unfold waysAt; rw [if_pos (by have := hS s hs; omega)]; simp
  rw [this, List.mem_map]
  exact ⟨e, List.mem_filter.2 ⟨he, by simpa using h1⟩, rfl⟩
 ·rintro ⟨hj, x, hx, h5⟩
  unfold goN at hx
  rw [List.mem_flatMap] at hx
  obtain ⟨y, hy, hx⟩ := hx
  obtain ⟨s, hs, rfl⟩ := List.mem_map.1 hy
  have : waysAt n (s : Int) = n.ways.getD s [] := by unfold waysAt; rw [if_pos (by have := hS s hs; omega)]; simp
  rw [this, List.mem_map] at hx
  obtain ⟨e, he, rfl⟩ := hx
  obtain ⟨he, h1⟩ := List.mem_filter.1 he
  refine ⟨s, hs, List.any_eq_true.2 ⟨e, he, ?_⟩⟩
  obtain ⟨_, h2, h3⟩ := heg.e s e he
  have hst2 : isSt n e.2 = true := isSt_iff.2 ⟨e.2.toNat, by omega, by omega⟩
  simp only [Bool.and_eq_true]
  exact ⟨h1, hst2, shut_mem.2 ⟨hj, h5⟩⟩
structure SetOk (S : List Nat) : Prop where
 ris : S.Pairwise (· < ·)
 lt : ∀ x ∈ S, x < 192
theorem SetOk.elems {S : List Nat} (h : SetOk S) : elemsB (inN S) 3 = S := by
 refine risI_ext (range_filter_ris _ _) h.ris fun y => ?_
 unfold elemsB
 rw [List.mem_filter, List.mem_range, inN_iff]
 exact ⟨fun h1 => h1.2, fun h1 => ⟨h.lt y h1, h1⟩⟩
theorem same_sets {S T : List Nat} (hS : SetOk S) (hT : SetOk T) : sameV [pU (wd (inN S) 0 : Nat), pU (wd (inN S) 1 : Nat), pU (wd (inN S) 2 : Nat)] [pU (wd (inN T) 0 : Nat), pU (wd (inN T) 1 : Nat), pU (wd (inN T) 2 : Nat)] = decide (S = T) := by
 by_cases h : S = T
 ·subst h; simp [sameV]
 ·rw [decide_eq_false h, ← Bool.not_eq_true]
  intro he
  simp only [sameV, Bool.and_true, Bool.and_eq_true, decide_eq_true_eq] at he
  apply h
  refine risI_ext hS.ris hT.ris fun y => ?_
  have hw : ∀ k, k < 3 → wd (inN S) k = wd (inN T) k := fun k hk => by
   rcases (show k = 0 ∨ k = 1 ∨ k = 2 by omega) with rfl | rfl | rfl
   ·exact Int.ofNat.inj he.1
   ·exact Int.ofNat.inj he.2.1
   ·exact Int.ofNat.inj he.2.2
  have hb := wd_inj hw
  constructor
  ·intro hy; have := hb y (hS.lt y hy); rw [inN_iff.2 hy] at this; exact inN_iff.1 this.symm
  ·intro hy; have := hb y (hT.lt y hy); rw [inN_iff.2 hy] at this; exact inN_iff.1 this
def mapK : Nat → List (List Nat) → List (PV × PV)
 | _, [] => []
 | k, T :: L => (pSet (inN T), pI (k : Int)) :: mapK (k + 1) L
theorem mapK_app : ∀ (L : List (List Nat)) (k : Nat) (T : List Nat), mapK k (L ++ [T]) = mapK k L ++ [(pSet (inN T), pI ((k + L.length : Nat) : Int))]
 | [], k, T => rfl
 | U :: L, k, T => by simp [mapK, mapK_app L (k + 1) T]; omega
theorem lkp_K {T : List Nat} (hT : SetOk T) : ∀ {L : List (List Nat)} (k : Nat), (∀ U ∈ L, SetOk U) → lkp (pSet (inN T)) (mapK k L) = if T ∈ L then some (pI ((k + L.idxOf T : Nat) : Int)) else none
 | [], k, _ => by simp [mapK, lkp]
 | U :: L, k, h => by
  have ih := lkp_K hT (L := L) (k + 1) fun V hV => h V (List.mem_cons_of_mem _ hV)
  simp only [mapK, lkp, keyEq, same_sets hT (h U (by simp))]
  by_cases he : T = U
  ·subst he; simp
  ·rw [decide_eq_false he]
   simp only [Bool.false_eq_true, if_false, ih, List.mem_cons, he, false_or]
   split
   ·rw [List.idxOf_cons, show (U == T) = false by simp [Ne.symm he]]
    simp; omega
   ·rfl
theorem mput_K {T : List Nat} (hT : SetOk T) {v : PV} : ∀ {L : List (List Nat)} (k : Nat), (∀ U ∈ L, SetOk U) → T ∉ L → mput (pSet (inN T)) v (mapK k L) = mapK k L ++ [(pSet (inN T), v)]
 | [], k, _, _ => rfl
 | U :: L, k, h, hn => by
  have he : T ≠ U := fun e => hn (by simp [e])
  simp only [mapK, mput, keyEq, same_sets hT (h U (by simp)), decide_eq_false he, Bool.false_eq_true, if_false, List.cons_append, List.cons.injEq, true_and]
  exact mput_K hT (k + 1) (fun V hV => h V (List.mem_cons_of_mem _ hV)) fun hm => hn (List.mem_cons_of_mem _ hm)
theorem like_K (p : Nat → Bool) : ∀ (L : List (List Nat)) (k : Nat), keysLike (.st [0, 0, 0]) (pSet p) (mapK k L)
 | [], _ => trivial
 | U :: L, k => by
  simp only [mapK, keysLike, keyLike]
  exact ⟨by simp [sameP], like_K p L (k + 1)⟩
structure NF.Ok (n : NF) : Prop where
 good : n.Good
 size : n.size ≤ 180
 ways : ∀ s, (n.ways.getD s []).length ≤ 200
 signs : n.signs.length ≤ 160
 eg : n.Eg
 dn : n.Dn
 done : n.done.length ≤ 1000
 ris : RisB n.signs
 beg : n.beg.length ≤ 1000
theorem set_close {n : NF} (h : n.size ≤ 180) (l : List Int) : SetOk (closeN n l) := ⟨closeN_ris n l, fun x hx => by have := (closeN_mem.1 hx).1; omega⟩
theorem set_step {n : NF} (h : n.size ≤ 180) (l : List Int) (a : Int) : SetOk (stepN n l a) := by
 unfold stepN
 split
 ·exact ⟨by simp, by simp⟩
 ·exact set_close h _
theorem row_ok {n : NF} (h : n.size ≤ 180) {S : List Nat} {L : List (List Nat)} (hL : ∀ T ∈ L, SetOk T) (k : Nat) : ∀ T ∈ rowL n S L k, SetOk T := fun T hT => by
 rcases rowL_mem.1 hT with h1 | ⟨a, _, h1, _⟩
 ·exact hL T h1
 ·rw [h1]; exact set_step h _ _
theorem bfs_ok {n : NF} (h : n.size ≤ 180) : ∀ i, ∀ T ∈ bfsL n i, SetOk T
 | 0 => fun T hT => by
  simp only [bfsL, List.mem_singleton] at hT
  rw [hT]; exact set_close h _
 | i + 1 => row_ok h (bfs_ok h i) _
theorem bfs_lt {n : NF} (h : n.size ≤ 180) {i : Nat} {T : List Nat} (hT : T ∈ bfsL n i) : ∀ s ∈ T, s < n.size := by
 have key : ∀ i, ∀ T ∈ bfsL n i, ∀ s ∈ T, s < n.size := by
  intro i
  induction i with
  | zero =>
   intro T hT s hs
   simp only [bfsL, List.mem_singleton] at hT
   subst hT
   exact (closeN_mem.1 hs).1
  | succ i ih =>
   intro T hT s hs
   simp only [bfsL] at hT
   rcases rowL_mem.1 hT with h1 | ⟨a, _, h1, _⟩
   ·exact ih T h1 s hs
   ·rw [h1] at hs
    unfold stepN at hs
    split at hs
    ·cases hs
    ·exact (closeN_mem.1 hs).1
 exact key i T hT
abbrev setsL (L : List (List Nat)) : List PV := L.map fun T => pSet (inN T)
abbrev pDf (d : DF) : PV := .agg [ss d.signs, .lst (d.next.map ints), .lst (d.done.map pNs)]
def zDf : DF := ⟨[], [], []⟩
def dfaM (n : NF) : Option Nat → DF
 | some k => dfaOf n k
 | none => zDf
def dfaX : Option Nat → Int
 | some _ => 0
 | none => 6
def dfaR (n : NF) (most : Int) : DF := if most < 1 then zDf else dfaM n (dfaK n most.toNat)
def dfaE (n : NF) (most : Int) : Int := if most < 1 then 1 else dfaX (dfaK n most.toNat)
theorem fn46 (l : List ByteArray) (h : l.length ≤ 100000) : Fn Tryz.prog 46 [ss l] (.pv (ss l)) [] := by
 refine Fn.row (n := l.length) (s := 1) ?_ (by simp)
 refine Run46 [true] (by simp) ?_
 simp only [go_sem, reduceCtorEq, and_self, M46]
 refine runR_isnil rfl rfl ?_
 intro b hb
 simp only [go_sem, Nat.reduceEqDiff, Nat.reduceLT, reduceCtorEq, and_self, wf_ss]
 refine ⟨fun h => ?_, fun h => ⟨⟨by omega, by omega⟩, ?_⟩⟩
 ·have : l = [] := by simpa using hb h
  subst this
  simp
 ·simp
end Go.Vc

namespace Go.Vc
open Go.Proofs
set_option linter.unusedSimpArgs false
set_option linter.unusedVariables false
theorem wf_setsL (L : List (List Nat)) : WfL 3 (setsL L) := wf_sets _ _
theorem setsL_get {L : List (List Nat)} {i : Nat} (h : i < L.length) : (setsL L).getD i default = pSet (inN (L.getD i [])) := by simp [List.getD_eq_getElem?_getD, h]
abbrev partN (n : NF) (S : List Nat) (L : List (List Nat)) (a : Nat) : List PV := ((rowN n S L a).map fun x => pI x) ++ List.replicate (n.wid - a) (pI 0)
theorem partN_len {n : NF} {S : List Nat} {L : List (List Nat)} {a : Nat} (h : a ≤ n.wid) : (partN n S L a).length = n.wid := by simp [rowN_len]; omega
theorem partN_set {n : NF} {S : List Nat} {L : List (List Nat)} {a : Nat} (h : a < n.wid) : (partN n S L a).set a (pI (numS (rowL n S L a) (stepN n (toI S) (a : Int)))) = partN n S L (a + 1) := by
 obtain ⟨d, hd⟩ : ∃ d, n.wid - a = d + 1 := ⟨n.wid - a - 1, by omega⟩
 have hl : ((rowN n S L a).map fun x => pI x).length = a := by simp [rowN_len]
 unfold partN
 rw [hd, List.replicate_succ, List.set_append_right _ _ (by omega), hl, Nat.sub_self, List.set_cons_zero, show n.wid - (a + 1) = d by omega]
 simp [rowN]
theorem partN_get {n : NF} {S : List Nat} {L : List (List Nat)} {a : Nat} (h : a < n.wid) : (partN n S L a).getD a default = pI 0 := by
 have hl : ((rowN n S L a).map fun x => pI x).length = a := by simp [rowN_len]
 unfold partN
 rw [List.getD_eq_getElem?_getD, List.getElem?_append_right (by omega), hl, Nat.sub_self, List.getElem?_replicate, if_pos (by omega)]
 rfl
theorem partN_end {n : NF} {S : List Nat} {L : List (List Nat)} : partN n S L n.wid = (rowN n S L n.wid).map fun x => pI x := by simp
abbrev unP (n : NF) (S : List Nat) (a m : Nat) (j : Nat) : Bool := (S.take m).any fun s => wayP n (n.ways.getD s []) a j
theorem unP_succ {n : NF} {S : List Nat} {a m : Nat} (h : m < S.length) : unP n S a (m + 1) = fun j => unP n S a m j || wayP n (n.ways.getD S[m] []) a j := funext fun j => by
 show ((S.take (m + 1)).any _) = ((S.take m).any _ || _)
 rw [List.take_succ_eq_append_getElem h, List.any_append, List.any_cons, List.any_nil, Bool.or_false]
theorem same_zero {T : List Nat} (hT : SetOk T) : sameV [pU (wd (inN T) 0 : Nat), pU (wd (inN T) 1 : Nat), pU (wd (inN T) 2 : Nat)] [pU 0, pU 0, pU 0] = decide (T = []) := by
 have h := same_sets hT (T := []) ⟨by simp, by simp⟩
 have e : inN [] = fun _ => false := funext fun j => by simp [inN]
 have h0 := wd_zero 0
 have h1 := wd_zero 1
 have h2 := wd_zero 2
 rw [e, h0, h1, h2] at h
 exact h
theorem wf_rows (l : List (List Int)) : WfL 1 (l.map ints) := wf_map (f := ints) (s := 1) (fun s => ⟨rfl, fun c hc => by simp only [PV.cells, List.mem_singleton] at hc; subst hc; rfl⟩) l
set_option maxHeartbeats 4000000 in
theorem fn14 (n : NF) (most : Int) (hn : n.Ok) (hm : most ≤ 1000) : Fn Tryz.prog 14 [pNf n, pI most] (.pv (.tup [pDf (dfaR n most), pI (dfaE n most)])) [] := by
 have hil : n.ways.length = n.size := rfl
 have hsz := hn.size
 have hsg := hn.signs
 have hbl := hn.beg
 refine Run14 [] (by simp) ?_
 by_cases hm1 : most < 1
 ·have h1 : dfaR n most = zDf := by unfold dfaR; rw [if_pos hm1]
  have h2 : dfaE n most = 1 := by unfold dfaE; rw [if_pos hm1]
  rw [h1, h2]
  simp only [go_sem, Nat.reduceEqDiff, Nat.reduceBEq, Nat.reduceAdd, Nat.reduceLeDiff, reduceCtorEq, and_self, M14, hm1]
  rfl
 have hR : dfaR n most = dfaM n (dfaK n most.toNat) := by unfold dfaR; rw [if_neg hm1]
 have hE : dfaE n most = dfaX (dfaK n most.toNat) := by unfold dfaE; rw [if_neg hm1]
 obtain ⟨M, hM⟩ : ∃ M : Nat, most = (M : Int) := ⟨most.toNat, by omega⟩
 subst hM
 rw [Int.toNat_natCast] at hR hE
 simp only [go_sem, Nat.reduceEqDiff, Nat.reduceBEq, Nat.reduceAdd, Nat.reduceLeDiff, reduceCtorEq, and_self, M14, hm1, hil, show ¬ (180 : Int) < (n.size : Int) by omega, show ¬ (160 : Int) < (n.signs.length : Int) by omega]
 refine runR_call (by simp only [go_sem, Nat.reduceEqDiff, and_self]) rfl (fn43 n hn.good hsz (fun s => by have := hn.ways s; omega) (by omega) hn.eg) (.inl rfl) trivial ?_
 simp only [go_sem, Nat.reduceEqDiff, Nat.reduceAdd, and_self]
 refine runR_call (by simp only [go_sem, Nat.reduceEqDiff, and_self]) rfl (fn45 n (begI n) hn.good (by omega) (fun s => by have := hn.ways s; omega) (by simp [begI, toI]; omega)) (.inl rfl) trivial ?_
 simp only [go_sem, Nat.reduceEqDiff]
 have hc0 := set_close hsz (begI n)
 have hcl := closeN_len n (begI n)
 refine runR_callf (by simp only [go_sem, Nat.reduceEqDiff, and_self]) (by simp only [go_sem, Nat.reduceEqDiff] <;> rfl) (fn44 (closeN n (begI n)) hc0.lt (by omega)) ⟨rfl, trivial⟩ trivial ?_
 simp only [go_sem, Nat.reduceEqDiff, Nat.reduceBEq, Nat.reduceAdd, Nat.reduceLeDiff, Nat.reduceLT, Int.reduceToNat, Int.reduceLE, Int.reduceLT, and_self, Int.cast_ofNat_Int]
 refine ⟨⟨fun v hv c hc => by subst hv; simp at hc; rcases hc with rfl | rfl | rfl <;> rfl, _, rfl⟩, ?_⟩
 refine runR_call (by simp only [go_sem, Nat.reduceEqDiff, and_self]) rfl (fn46 n.signs (by omega)) (.inl rfl) trivial ?_
 simp only [go_sem, Nat.reduceEqDiff, Nat.reduceBEq, Nat.reduceAdd, Nat.reduceLeDiff, and_self]
 have hM1 : 1 ≤ M := by omega
 have hMl : M ≤ 1000 := by omega
 clear hc0 hcl
 refine run_loopF (T := Nat) (fun _ => []) (fun _ => [(9, 1, 129, 1), (9, 2, 137, 1)]) [1, 2, 4, 6, 7, 8, 9, 10] [2, 4, 9, 41, 42, 129, 137]
  (fun i => ⟨[(1, .pv (pI M)), (2, .ptr 2 0), (4, .ptr 4 0), (6, .pv (pSteps n)), (7, .row 41 0 (bfsL n i).length), (8, .mp 42), (9, .ptr 9 0), (10, .pv (pI i))],
   [(2, .box (nBox n)), (4, .box [.e0, .e0, .e0]), (9, .box [.pv (ss n.signs), .row 129 0 i, .row 137 0 i]), (41, .sl 3 (setsL (bfsL n i))), (42, .mp (mapK 0 (bfsL n i))), (129, .sl 1 ((bfsN n i).map ints)), (137, .sl 1 ((bfsD n i).map pNs))]⟩)
  (fun i => i ≤ (bfsL n i).length ∧ (bfsL n i).length ≤ M ∧ endD n M (M + 2 - i) i = dfaK n M) (fun i => M + 1 - i) 0 ?_ ⟨Nat.zero_le _, by simpa [bfsL] using hM1, rfl⟩ ?_
 ·simp only [go_sem, Nat.reduceEqDiff, Nat.reduceBEq, Nat.reduceLT, reduceCtorEq, Int.cast_ofNat_Int]
  rfl
 rintro i ⟨hi, hLM, hend⟩
 have hLok := bfs_ok hsz i
 by_cases hlt : i < (bfsL n i).length
 ·obtain ⟨S, hS⟩ : ∃ S, S = (bfsL n i).getD i [] := ⟨_, rfl⟩
  have hSm : S ∈ bfsL n i := by rw [hS]; simp [List.getD_eq_getElem?_getD, hlt]
  have hSok := hLok S hSm
  have hSlt := bfs_lt hsz hSm
  have hSl : S.length ≤ 192 := by
   have := hSok.elems
   have h2 := List.length_filter_le (inN S) (List.range (64 * 3))
   rw [← this]; unfold elemsB; simpa using h2
  have hLM2 : M < (bfsL n (i + 1)).length → dfaK n M = none := fun h => by
   rw [← hend, show M + 2 - i = (M + 1 - i) + 1 by omega, endD, if_neg (by omega), if_pos h]
  have hnext : (bfsL n (i + 1)).length ≤ M → endD n M (M + 2 - (i + 1)) (i + 1) = dfaK n M := fun h => by
   rw [← hend, show M + 2 - i = (M + 2 - (i + 1)) + 1 by omega, endD, if_neg (by omega), if_neg (by omega)]
  have hgS : (setsL (bfsL n i)).getD i default = pSet (inN S) := by rw [setsL_get hlt, ← hS]
  simp only [go_sem, Nat.reduceEqDiff, Nat.reduceAdd, Nat.reduceLT, reduceCtorEq, and_self, B14_0, show (i : Int) < ((bfsL n i).length : Int) by omega, hgS]
  have r56 := fn47 (inN S)
  rw [hSok.elems] at r56
  refine ⟨hlt, ?_⟩
  refine runR_call (by simp only [go_sem, Nat.reduceEqDiff, and_self]) rfl (r56) (.inl rfl) trivial ?_
  have hwid : ((n.signs.length : Int) + 1).toNat = n.wid := by unfold NF.wid; omega
  have hwd : n.wid ≤ 161 := by unfold NF.wid; omega
  simp only [go_sem, Nat.reduceEqDiff, Nat.reduceBEq, Nat.reduceAdd, Nat.reduceLeDiff, Int.reduceNeg, and_self, Int.cast_ofNat_Int, hwid]
  have hsl : n.signs.length + 1 = n.wid := rfl
  have hNl : (bfsN n i).length = i := by simp [bfsN]
  have hDl : (bfsD n i).length = i := by simp [bfsD]
  have hNs : bfsN n (i + 1) = bfsN n i ++ [rowN n S (bfsL n i) n.wid] := by simp [bfsN, List.range_succ, hS]
  have hDs : bfsD n (i + 1) = bfsD n i ++ [doneOf n S] := by simp [bfsD, List.range_succ, hS]
  have hLs : bfsL n (i + 1) = rowL n S (bfsL n i) n.wid := by simp only [bfsL]; rw [← hS]
  refine ⟨⟨by omega, by omega⟩, ⟨by omega, by omega, by omega⟩, ?_⟩
  refine run_loopG (T := Nat) (fun a => if a = n.wid then [(66, 66, 0)] else []) [1, 2, 4, 6, 7, 8, 9, 10, 11, 12, 68, 69] [2, 4, 9, 41, 42, 66, 129, 137]
   (fun a => if a = n.wid then ⟨[(1, .pv (pI M)), (2, .ptr 2 0), (4, .ptr 4 0), (6, .pv (pSteps n)), (7, .row 41 0 (rowL n S (bfsL n i) a).length), (8, .mp 42), (9, .ptr 9 0), (10, .pv (pI i)), (11, .pv (pNs S)), (12, .pv (ints (rowN n S (bfsL n i) a))), (68, .pv (pI n.wid)), (69, .pv (pI a))],
     [(2, .box (nBox n)), (4, .box [.e0, .e0, .e0]), (9, .box [.pv (ss n.signs), .row 129 0 i, .row 137 0 i]), (41, .sl 3 (setsL (rowL n S (bfsL n i) a))), (42, .mp (mapK 0 (rowL n S (bfsL n i) a))), (129, .sl 1 ((bfsN n i).map ints)), (137, .sl 1 ((bfsD n i).map pNs))]⟩
    else ⟨[(1, .pv (pI M)), (2, .ptr 2 0), (4, .ptr 4 0), (6, .pv (pSteps n)), (7, .row 41 0 (rowL n S (bfsL n i) a).length), (8, .mp 42), (9, .ptr 9 0), (10, .pv (pI i)), (11, .pv (pNs S)), (12, .row 66 0 n.wid), (68, .pv (pI n.wid)), (69, .pv (pI a))],
     [(2, .box (nBox n)), (4, .box [.e0, .e0, .e0]), (9, .box [.pv (ss n.signs), .row 129 0 i, .row 137 0 i]), (41, .sl 3 (setsL (rowL n S (bfsL n i) a))), (42, .mp (mapK 0 (rowL n S (bfsL n i) a))), (66, .sl 1 (partN n S (bfsL n i) a)), (129, .sl 1 ((bfsN n i).map ints)), (137, .sl 1 ((bfsD n i).map pNs))]⟩)
   (fun a => a ≤ n.wid ∧ (rowL n S (bfsL n i) a).length ≤ M) (fun a => n.wid - a) 0 ?_ ⟨Nat.zero_le _, hLM⟩ ?_
  ·rw [if_neg (show ¬ 0 = n.wid by omega)]
   simp only [go_sem, Nat.reduceEqDiff, Int.cast_ofNat_Int, show ¬ 0 = n.wid by omega]
   rfl
  rintro a ⟨ha, hRM⟩
  by_cases halt : a < n.wid
  ·rw [if_neg (show ¬ a = n.wid by omega)]
   have hRok := row_ok hsz (S := S) hLok a
   simp only [go_sem, Nat.reduceEqDiff, Nat.reduceBEq, reduceCtorEq, Int.reduceNeg, and_self, B14_1, show (a : Int) < (n.wid : Int) by omega]
   have hst := go_step hn.eg hSlt a
   have hTok := set_step hsz (toI S) (a : Int)
   have hLn : (rowL n S (bfsL n i) (a + 1)).length ≤ (bfsL n (i + 1)).length := by rw [hLs]; exact (rowL_pre n S _ (by omega)).length_le
   have hRs : rowL n S (bfsL n i) (a + 1) = addS (rowL n S (bfsL n i) a) (stepN n (toI S) (a : Int)) := rfl
   have hNs1 := partN_set (n := n) (S := S) (L := bfsL n i) halt
   have hNl1 := partN_len (n := n) (S := S) (L := bfsL n i) ha
   refine run_loopN (T := Nat) [1, 2, 4, 6, 7, 8, 9, 10, 11, 12, 13, 14, 68, 69, 72, 73, 74] [2, 4, 9, 14, 41, 42, 66, 129, 137] (fun m => ⟨[(1, .pv (pI M)), (2, .ptr 2 0), (4, .ptr 4 0), (6, .pv (pSteps n)), (7, .row 41 0 (rowL n S (bfsL n i) a).length), (8, .mp 42), (9, .ptr 9 0), (10, .pv (pI i)), (11, .pv (pNs S)), (12, .row 66 0 n.wid), (13, .pv (pI a)), (14, .ptr 14 0), (68, .pv (pI n.wid)), (69, .pv (pI a)), (72, .pv (pNs S)), (73, .pv (pI S.length)), (74, .pv (pI m))],
     [(2, .box (nBox n)), (4, .box [.e0, .e0, .e0]), (9, .box [.pv (ss n.signs), .row 129 0 i, .row 137 0 i]), (14, .box (wBox (unP n S a m))), (41, .sl 3 (setsL (rowL n S (bfsL n i) a))), (42, .mp (mapK 0 (rowL n S (bfsL n i) a))), (66, .sl 1 (partN n S (bfsL n i) a)), (129, .sl 1 ((bfsN n i).map ints)), (137, .sl 1 ((bfsD n i).map pNs))]⟩)
    (fun m => m ≤ S.length) (fun m => S.length - m) 0 ?_ (Nat.zero_le _) ?_
   ·have hz : wBox (unP n S a 0) = [.pv (pU 0), .pv (pU 0), .pv (pU 0)] := by
     have e : unP n S a 0 = fun _ => false := funext fun j => by simp [unP]
     rw [e]
     have h0 := wd_zero 0
     have h1 := wd_zero 1
     have h2 := wd_zero 2
     unfold wBox
     rw [h0, h1, h2]; rfl
    rw [hz]
    simp only [go_sem, Nat.reduceEqDiff, Int.cast_ofNat_Int, show (toI S).length = S.length by simp [toI]]
   intro m hm2
   by_cases hml : m < S.length
   ·have hx : (toI S)[m]'(by simp [toI]; exact hml) = (S[m] : Int) := by simp [toI]
    have hsm := hSlt _ (List.getElem_mem hml)
    have hun := unP_succ (n := n) (a := a) hml
    generalize S[m] = s at hx hsm hun
    have hg1 : (tabL n.size fun s => rowPV n s).getD s default = rowPV n s := tabL_get hsm
    have hg2 : (tabL n.wid fun a => pSet (wayP n (n.ways.getD s []) a)).getD a default = pSet (wayP n (n.ways.getD s []) a) := tabL_get halt
    have hw1 : WfL 1 (tabL n.size fun s => rowPV n s) := wf_map (f := fun s => rowPV n s) (s := 1) (fun s => ⟨rfl, fun c hc => by simp only [PV.cells, List.mem_singleton] at hc; subst hc; rfl⟩) (List.range n.size)
    have hw2 : WfL 3 (tabL n.wid fun a => pSet (wayP n (n.ways.getD s []) a)) := wf_sets _ _
    simp only [go_sem, Nat.reduceEqDiff, Nat.reduceAdd, reduceCtorEq, Int.reduceNeg, and_self, B14_2, show (m : Int) < (S.length : Int) by omega, show (toI S).length = S.length by simp [toI], wf_ints, getD_map (show m < (toI S).length by simp [toI]; exact hml), hx, tabL_len, hg1, hg2, hw1, hw2, show (s : Int) < (n.size : Int) by omega, show (a : Int) < (n.wid : Int) by omega]
    refine runR_callf (by simp only [go_sem, Nat.reduceEqDiff, and_self]) (by simp only [go_sem, Nat.reduceEqDiff] <;> rfl) (fn48 (unP n S a m) (wayP n (n.ways.getD s []) a)) ⟨rfl, trivial⟩ trivial ?_
    simp only [go_sem, Nat.reduceEqDiff, Nat.reduceAdd, Int.reduceNeg, and_self]
    refine ⟨⟨by omega, by omega⟩, m + 1, ?_, hml, by omega⟩
    rw [hun]
    rfl
   ·have hme : m = S.length := by omega
    subst hme
    obtain ⟨T, hT⟩ : ∃ T, T = stepN n (toI S) (a : Int) := ⟨_, rfl⟩
    have hU : unP n S a S.length = inN T := funext fun j => by
     show ((S.take S.length).any _) = _
     rw [List.take_length, hT]; exact hst j
    rw [← hT] at hTok hRs hNs1
    rw [hU]
    have hlk := lkp_K hTok (L := rowL n S (bfsL n i) a) 0 hRok
    have hs0 := same_zero hTok
    have hlike := like_K (inN T) (rowL n S (bfsL n i) a) 0
    have nxt : ∀ (len : Nat) (X : List PV) (es : List (PV × PV)) (Q : List PV), len = (rowL n S (bfsL n i) (a + 1)).length → X = setsL (rowL n S (bfsL n i) (a + 1)) → es = mapK 0 (rowL n S (bfsL n i) (a + 1)) → Q = partN n S (bfsL n i) (a + 1) →
      (rowL n S (bfsL n i) (a + 1)).length ≤ M → ∃ t', GH (if t' = n.wid then [(66, 66, 0)] else []) [1, 2, 4, 6, 7, 8, 9, 10, 11, 12, 68, 69] [2, 4, 9, 41, 42, 66, 129, 137]
       ⟨[(1, .pv (pI M)), (2, .ptr 2 0), (4, .ptr 4 0), (6, .pv (pSteps n)), (7, .row 41 0 len), (8, .mp 42), (9, .ptr 9 0), (10, .pv (pI i)), (11, .pv (pNs S)), (12, .row 66 0 n.wid), (68, .pv (pI n.wid)), (69, .pv (pI ((a : Int) + 1)))],
        [(2, .box (nBox n)), (4, .box [.e0, .e0, .e0]), (9, .box [.pv (ss n.signs), .row 129 0 i, .row 137 0 i]), (41, .sl 3 X), (42, .mp es), (66, .sl 1 Q), (129, .sl 1 ((bfsN n i).map ints)), (137, .sl 1 ((bfsD n i).map pNs))]⟩
       (if t' = n.wid then ⟨[(1, .pv (pI M)), (2, .ptr 2 0), (4, .ptr 4 0), (6, .pv (pSteps n)), (7, .row 41 0 (rowL n S (bfsL n i) t').length), (8, .mp 42), (9, .ptr 9 0), (10, .pv (pI i)), (11, .pv (pNs S)), (12, .pv (ints (rowN n S (bfsL n i) t'))), (68, .pv (pI n.wid)), (69, .pv (pI t'))],
         [(2, .box (nBox n)), (4, .box [.e0, .e0, .e0]), (9, .box [.pv (ss n.signs), .row 129 0 i, .row 137 0 i]), (41, .sl 3 (setsL (rowL n S (bfsL n i) t'))), (42, .mp (mapK 0 (rowL n S (bfsL n i) t'))), (129, .sl 1 ((bfsN n i).map ints)), (137, .sl 1 ((bfsD n i).map pNs))]⟩
        else ⟨[(1, .pv (pI M)), (2, .ptr 2 0), (4, .ptr 4 0), (6, .pv (pSteps n)), (7, .row 41 0 (rowL n S (bfsL n i) t').length), (8, .mp 42), (9, .ptr 9 0), (10, .pv (pI i)), (11, .pv (pNs S)), (12, .row 66 0 n.wid), (68, .pv (pI n.wid)), (69, .pv (pI t'))],
         [(2, .box (nBox n)), (4, .box [.e0, .e0, .e0]), (9, .box [.pv (ss n.signs), .row 129 0 i, .row 137 0 i]), (41, .sl 3 (setsL (rowL n S (bfsL n i) t'))), (42, .mp (mapK 0 (rowL n S (bfsL n i) t'))), (66, .sl 1 (partN n S (bfsL n i) t')), (129, .sl 1 ((bfsN n i).map ints)), (137, .sl 1 ((bfsD n i).map pNs))]⟩) ∧ (t' ≤ n.wid ∧ (rowL n S (bfsL n i) t').length ≤ M) ∧ n.wid - t' < n.wid - a := by
     rintro _ _ _ _ rfl rfl rfl rfl hle
     refine ⟨a + 1, ?_, ⟨halt, hle⟩, by omega⟩
     have hsi : (a : Int) + 1 = ((a + 1 : Nat) : Int) := by omega
     unfold GH
     by_cases h9 : a + 1 = n.wid
     ·have hpe : List.take n.wid (partN n S (bfsL n i) (a + 1)) = (rowN n S (bfsL n i) (a + 1)).map fun x => pI x := by
       rw [h9, partN_end, List.take_of_length_le (by simp [rowN_len])]
      rw [if_pos h9, if_pos h9, hsi]
      simp only [go_sem, Nat.reduceEqDiff, hpe]
     ·rw [if_neg h9, if_neg h9, hsi]
      simp only [go_sem, Nat.reduceEqDiff]
    have hga := partN_get (n := n) (S := S) (L := bfsL n i) halt
    have hz0 : (((wd (inN T) 0 : Nat) : Int) = 0 ∧ ((wd (inN T) 1 : Nat) : Int) = 0 ∧ ((wd (inN T) 2 : Nat) : Int) = 0) = (T = []) := by
     have h := hs0
     simp only [sameV, Bool.and_true] at h
     rw [← Bool.decide_and, ← Bool.decide_and] at h
     have h3 := congrArg (fun b : Bool => b = true) h
     simpa using h3
    have hz20 : (¬((wd (inN T) 0 : Nat) : Int) = 0 ∨ ¬((wd (inN T) 1 : Nat) : Int) = 0 ∨ ¬((wd (inN T) 2 : Nat) : Int) = 0) = ¬ (T = []) := by
     rw [← hz0, Classical.not_and_iff_not_or_not, Classical.not_and_iff_not_or_not]
    by_cases hT0 : T = []
    ·have hz2 := hz20.trans (eq_false fun h => h hT0)
     have hsame : rowL n S (bfsL n i) (a + 1) = rowL n S (bfsL n i) a := by rw [hRs]; unfold addS; rw [if_pos (.inl hT0)]
     have hnum : numS (rowL n S (bfsL n i) a) T = -1 := by unfold numS; rw [if_pos hT0]
     rw [hnum] at hNs1
     have hz := hz0.trans (eq_true hT0)
     have hle : (rowL n S (bfsL n i) (a + 1)).length ≤ M := by rw [hsame]; exact hRM
     by_cases hTm : T ∈ rowL n S (bfsL n i) a
     ·rw [if_pos hTm] at hlk
      simp only [go_sem, Nat.reduceEqDiff, Nat.reduceBEq, Nat.reduceAdd, Nat.reduceLeDiff, Nat.reduceLT, reduceCtorEq, Int.reduceNeg, and_self, Bool.and_eq_false_iff, B14_2, R14_2, show ¬ (S.length : Int) < (S.length : Int) by omega, hlk, hz, hz2, true_implies, hlike, hga]
      refine ⟨by omega, by rw [hNl1]; exact halt, ⟨by omega, by omega⟩, ?_⟩
      exact nxt _ _ _ _ (by rw [hsame]) (by rw [hsame]) (by rw [hsame]) hNs1 hle
     ·rw [if_neg hTm] at hlk
      simp only [go_sem, Nat.reduceEqDiff, Nat.reduceBEq, Nat.reduceAdd, Nat.reduceLeDiff, Nat.reduceLT, reduceCtorEq, Int.reduceNeg, and_self, Bool.and_eq_false_iff, B14_2, R14_2, show ¬ (S.length : Int) < (S.length : Int) by omega, hlk, hz, hz2, true_implies, hlike, hga]
      refine ⟨by omega, by rw [hNl1]; exact halt, ⟨by omega, by omega⟩, ?_⟩
      exact nxt _ _ _ _ (by rw [hsame]) (by rw [hsame]) (by rw [hsame]) hNs1 hle
    ·have hz := hz0.trans (eq_false hT0)
     have hz2 := hz20.trans (eq_true hT0)
     by_cases hTm : T ∈ rowL n S (bfsL n i) a
     ·rw [if_pos hTm] at hlk
      have hsame : rowL n S (bfsL n i) (a + 1) = rowL n S (bfsL n i) a := by rw [hRs]; unfold addS; rw [if_pos (.inr hTm)]
      have hnum : numS (rowL n S (bfsL n i) a) T = ((0 + (rowL n S (bfsL n i) a).idxOf T : Nat) : Int) := by unfold numS; rw [if_neg hT0]; simp
      rw [hnum] at hNs1
      have hle : (rowL n S (bfsL n i) (a + 1)).length ≤ M := by rw [hsame]; exact hRM
      simp only [go_sem, Nat.reduceEqDiff, Nat.reduceBEq, Nat.reduceAdd, Nat.reduceLeDiff, Nat.reduceLT, reduceCtorEq, Int.reduceNeg, and_self, Bool.and_eq_false_iff, B14_2, R14_2, show ¬ (S.length : Int) < (S.length : Int) by omega, hlk, hz, hz2, true_implies, hlike, hga]
      refine ⟨by omega, by rw [hNl1]; exact halt, ⟨by omega, by omega⟩, ?_⟩
      exact nxt _ _ _ _ (by rw [hsame]) (by rw [hsame]) (by rw [hsame]) (by rw [← hNs1]; simp) hle
     ·rw [if_neg hTm] at hlk
      have hnew : rowL n S (bfsL n i) (a + 1) = rowL n S (bfsL n i) a ++ [T] := by rw [hRs]; unfold addS; rw [if_neg (by rw [not_or]; exact ⟨hT0, hTm⟩)]
      by_cases hfull : (rowL n S (bfsL n i) a).length = M
      ·have hno := hLM2 (by rw [hnew, List.length_append, List.length_singleton] at hLn; omega)
       rw [hno] at hR hE
       simp only [go_sem, Nat.reduceEqDiff, Nat.reduceBEq, Nat.reduceAdd, Nat.reduceLeDiff, Nat.reduceLT, reduceCtorEq, Int.reduceNeg, and_self, Bool.and_eq_false_iff, B14_2, R14_2, show ¬ (S.length : Int) < (S.length : Int) by omega, hlk, hz, hz2, true_implies, hlike, hga, hfull]
       rw [hR, hE]
       rfl
      ·have hnum : numS (rowL n S (bfsL n i) a) T = ((rowL n S (bfsL n i) a).length : Int) := by unfold numS; rw [if_neg hT0, List.idxOf_eq_length hTm]
       rw [hnum] at hNs1
       have hle : (rowL n S (bfsL n i) (a + 1)).length ≤ M := by rw [hnew, List.length_append, List.length_singleton]; omega
       have hput := mput_K hTok (v := pI ((rowL n S (bfsL n i) a).length : Nat)) 0 hRok hTm
       have hma := mapK_app (rowL n S (bfsL n i) a) 0 T
       rw [Nat.zero_add] at hma
       simp only [go_sem, Nat.reduceEqDiff, Nat.reduceBEq, Nat.reduceAdd, Nat.reduceLeDiff, Nat.reduceLT, reduceCtorEq, Int.reduceNeg, and_self, Bool.and_eq_false_iff, B14_2, R14_2, show ¬ (S.length : Int) < (S.length : Int) by omega, hlk, hz, hz2, true_implies, hlike, hga, show ¬ ((rowL n S (bfsL n i) a).length : Int) = (M : Int) by omega, hput]
       refine ⟨⟨wf_setsL [T], by omega, by omega⟩, by omega, by rw [hNl1]; exact halt, ⟨by omega, by omega⟩, ?_⟩
       exact nxt _ _ _ _ (by rw [hnew]; simp) (by rw [hnew, List.take_of_length_le (by simp)]; show _ = List.map _ (_ ++ [T]); rw [List.map_append]; rfl) (by rw [hnew, hma]) hNs1 hle
  ·have hae : a = n.wid := by omega
   subst hae
   rw [if_pos rfl, ← hLs]
   rw [← hLs] at hRM
   have hdn := fn49 n S hn.dn hSok.ris (by omega) hn.done
   have tkN : List.take i ((bfsN n i).map ints) = (bfsN n i).map ints := List.take_of_length_le (by simp [hNl])
   have tkD : List.take i ((bfsD n i).map pNs) = (bfsD n i).map pNs := List.take_of_length_le (by simp [hDl])
   simp only [go_sem, Nat.reduceEqDiff, Nat.reduceBEq, Nat.reduceAdd, Nat.reduceLeDiff, Nat.reduceLT, reduceCtorEq, Int.reduceNeg, and_self, B14_1, R14_1, show ¬ (n.wid : Int) < (n.wid : Int) by omega, tkN]
   refine ⟨⟨wf_rows [rowN n S (bfsL n i) n.wid], by omega, by omega⟩, ?_⟩
   refine runR_call (by simp only [go_sem, Nat.reduceEqDiff, and_self]) rfl (hdn) (.inl rfl) trivial ?_
   simp only [go_sem, Nat.reduceEqDiff, Nat.reduceBEq, Nat.reduceAdd, Nat.reduceLeDiff, Nat.reduceLT, Int.reduceNeg, and_self, tkD]
   refine ⟨⟨wf_pNs [doneOf n S], by omega, by omega⟩, ⟨by omega, by omega⟩, i + 1, ?_, ⟨?_, hRM, hnext hRM⟩, by omega⟩
   ·rw [hNs, hDs, List.map_append, List.map_append]
    rfl
   ·have := (bfsL_pre n (show i ≤ i + 1 by omega)).length_le
    omega
 ·have hie : i = (bfsL n i).length := by omega
  have hK : dfaK n M = some i := by
   rw [← hend, show M + 2 - i = (M + 1 - i) + 1 by omega, endD, if_pos (by omega)]
  rw [hK] at hR hE
  have tkN : List.take i ((bfsN n i).map ints) = (bfsN n i).map ints := List.take_of_length_le (by simp [bfsN])
  have tkD : List.take i ((bfsD n i).map pNs) = (bfsD n i).map pNs := List.take_of_length_le (by simp [bfsD])
  simp only [go_sem, Nat.reduceEqDiff, Nat.reduceAdd, Nat.reduceLT, reduceCtorEq, and_self, B14_0, R14_0, show ¬ (i : Int) < ((bfsL n i).length : Int) by omega, tkN, tkD]
  rw [hR, hE]
  rfl
end Go.Vc
