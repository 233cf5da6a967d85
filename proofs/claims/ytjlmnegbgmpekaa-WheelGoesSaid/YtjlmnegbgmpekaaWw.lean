/- A part of the proofs of the seat Ytjlmnegbgmpekaa: the contracts of functions, each proved out of its code. -/
import Derived.Test.YtjlmnegbgmpekaaVh
import Derived.Test.YtjlmnegbgmpekaaProg
import Derived.Test.YtjlmnegbgmpekaaWv
namespace Go.Vc
open Go.Proofs
set_option maxRecDepth 100000

/-- 'trystlaw11.WheelGoes' -/
def M15 : MC := (.seq (.reg [⟨(some 6), none, (.q (.mv (.c (.bool false))))⟩] [] [0, 1, 2] [1014]) (.seq (.reg [⟨(some 13), none, (.q (.mv (.t 0)))⟩, ⟨(some 14), none, (.call (.f 53) [(.t 13)])⟩,
  ⟨(some 0), none, (.q (.mv (.t 14)))⟩] [] [0, 1, 2] [1014]) (.seq (.seq (.reg [⟨(some 15), none, (.q (.mv (.t 1)))⟩, ⟨(some 16), none, (.q (.mv (.t 2)))⟩, ⟨(some 17), none, (.q (.bin .gtr (.t 15)
  (.t 16)))⟩, ⟨(some 18), none, (.q (.mv (.t 17)))⟩, ⟨(some 19), (some (18, false)), (.q (.mv (.t 0)))⟩, ⟨(some 20), (some (18, false)), (.call (.f 60) [(.t 19)])⟩, ⟨(some 21), (some (18, false)),
  (.q (.bin .neq (.t 20) (.c (.int .i64 0))))⟩, ⟨(some 22), none, (.q (.pick (.t 18) (.c (.bool true)) (.t 21)))⟩] [] [0, 1, 2, 22] [1014, 1020]) (.cond (.t 22) (.seq (.reg [⟨(some 23), none,
  (.call (.f 56) [])⟩, ⟨(some 6), none, (.q (.mv (.t 23)))⟩] [] [6] [1023, 1044, 1052, 1055]) .ret) .skip)) (.seq (.reg [⟨(some 25), none, (.q (.mv (.t 0)))⟩, ⟨(some 26), none, (.q (.mv (.t 1)))⟩,
  ⟨(some 27), none, (.call (.f 54) [(.t 25), (.t 26)])⟩, ⟨(some 24), none, (.q (.mv (.t 27)))⟩, ⟨(some 28), none, (.q (.ext (.t 24) 0))⟩, ⟨(some 29), none, (.q (.ext (.t 24) 1))⟩, ⟨(some 7), none,
  (.q (.mv (.t 28)))⟩, ⟨(some 8), none, (.q (.mv (.t 29)))⟩] [] [0, 2, 7, 8] [1014, 1027]) (.seq (.reg [⟨(some 31), none, (.q (.mv (.t 7)))⟩, ⟨(some 32), none, (.q (.mv (.t 2)))⟩, ⟨(some 33), none,
  (.call (.f 54) [(.t 31), (.t 32)])⟩, ⟨(some 30), none, (.q (.mv (.t 33)))⟩, ⟨(some 34), none, (.q (.ext (.t 30) 0))⟩, ⟨(some 35), none, (.q (.ext (.t 30) 1))⟩, ⟨(some 9), none, (.q (.mv (.t 34)))⟩,
  ⟨(some 10), none, (.q (.mv (.t 35)))⟩] [] [0, 2, 8, 9, 10] [1014, 1027, 1033]) (.seq (.reg [⟨(some 37), none, (.q (.mv (.t 0)))⟩, ⟨(some 38), none, (.q (.mv (.t 2)))⟩, ⟨(some 39), none,
  (.call (.f 54) [(.t 37), (.t 38)])⟩, ⟨(some 36), none, (.q (.mv (.t 39)))⟩, ⟨(some 40), none, (.q (.ext (.t 36) 0))⟩, ⟨(some 41), none, (.q (.ext (.t 36) 1))⟩, ⟨(some 11), none, (.q (.mv (.t 40)))⟩,
  ⟨(some 12), none, (.q (.mv (.t 41)))⟩] [] [8, 9, 10, 11, 12] [1027, 1033, 1039]) (.seq (.reg [⟨(some 42), none, (.q (.mv (.t 9)))⟩, ⟨(some 43), none, (.q (.mv (.t 11)))⟩, ⟨(some 44), none,
  (.call (.f 58) [(.t 42), (.t 43)])⟩, ⟨(some 45), none, (.q (.mv (.t 44)))⟩, ⟨(some 46), (some (45, true)), (.lits [] 1)⟩, ⟨(some 47), (some (45, true)), (.q (.mv (.t 8)))⟩, ⟨(some 48), (some (45,
  true)), (.app (.t 46) (.t 47) 1 8)⟩, ⟨(some 49), (some (45, true)), (.q (.mv (.t 10)))⟩, ⟨(some 50), (some (45, true)), (.app (.t 48) (.t 49) 1 8)⟩, ⟨(some 51), (some (45, true)),
  (.q (.mv (.t 12)))⟩, ⟨(some 52), (some (45, true)), (.call (.f 59) [(.t 50), (.t 51)])⟩, ⟨(some 53), none, (.q (.pick (.t 45) (.t 52) (.c (.bool false))))⟩, ⟨(some 54), none, (.q (.mv (.t 53)))⟩,
  ⟨(some 55), (some (54, true)), (.call (.f 56) [])⟩, ⟨(some 56), none, (.q (.pick (.t 54) (.t 55) (.c (.bool false))))⟩, ⟨(some 6), none, (.q (.mv (.t 56)))⟩] [] [6] [1023, 1044, 1052, 1055])
  .ret)))))))
theorem mc15 : ofCode Try.prog [] Try.f15.ntmps [(0, ⟨[0, 1, 2], [1014], [], 0, [], none⟩),
    (1, ⟨[0, 1, 2], [1014], [], 0, [], none⟩),
    (2, ⟨[0, 1, 2, 22], [1014, 1020], [], 0, [], none⟩),
    (3, ⟨[6], [1023, 1044, 1052, 1055], [], 0, [], none⟩),
    (4, ⟨[0, 2, 7, 8], [1014, 1027], [], 0, [], none⟩),
    (5, ⟨[0, 2, 8, 9, 10], [1014, 1027, 1033], [], 0, [], none⟩),
    (6, ⟨[8, 9, 10, 11, 12], [1027, 1033, 1039], [], 0, [], none⟩),
    (7, ⟨[6], [1023, 1044, 1052, 1055], [], 0, [], none⟩)] (Try.f15.body.getD .skip) = some M15 := by kernel_rfl
theorem Run15 {args : List PV} {v : AV} {rs : List (Nat × List PV)} (ids : List Bool) (h : args.length ≤ 57) (hv : run Try.prog (retK [RV.tmp 6] ids v rs) M15 [] ⟨entry 0 args, []⟩) : Fn Try.prog 15 args v rs :=
  Fn_run ids (by kernel_rfl) Try.func15 (by decide) rfl mc15 (by kernel_rfl) (by rw [Try.ntmps15]; exact h) (by rw [Try.ntmps15]; decide) hv

/-- 'trystlaw11.WheelAll' -/
def B17_0 : MC := (.seq (.seq (.reg [⟨(some 42), none, (.q (.mv (.t 7)))⟩, ⟨(some 43), none, (.q (.mv (.t 0)))⟩, ⟨(some 44), none, (.q (.len (.t 43) false))⟩, ⟨(some 45), none, (.q (.bin .lss (.t 42)
  (.t 44)))⟩] [] [0, 6, 7, 45] [1013, 1029]) (.cond (.t 45) .skip (.exit 0))) (.seq (.block 1 (.seq (.reg [⟨(some 48), none, (.q (.mv (.t 6)))⟩, ⟨(some 49), none, (.q (.mv (.t 7)))⟩, ⟨(some 50), none,
  (.q (.ia (.t 48) (.t 49) 1))⟩, ⟨(some 51), none, (.q (.ld (.t 50) 1 false))⟩, ⟨(some 52), none, (.q (.mv (.t 0)))⟩, ⟨(some 53), none, (.q (.mv (.t 7)))⟩, ⟨(some 54), none, (.q (.ia (.t 52) (.t 53)
  2))⟩, ⟨(some 55), none, (.q (.fa (.t 54) 1))⟩, ⟨(some 56), none, (.q (.ld (.t 55) 1 false))⟩, ⟨(some 57), none, (.q (.bin .neq (.t 51) (.t 56)))⟩] [] [0, 6, 7, 57] [1013, 1029]) (.cond (.t 57)
  (.seq (.reg [⟨(some 2), none, (.q (.mv (.c (.bool false))))⟩] [] [2] [1019, 1025, 1069, 1081, 1088]) .ret) .skip))) (.reg [⟨(some 46), none, (.q (.mv (.t 7)))⟩, ⟨(some 47), none,
  (.q (.bin .add (.t 46) (.c (.int .i64 1))))⟩, ⟨(some 7), none, (.q (.mv (.t 47)))⟩] [] [0, 6, 7] [1013, 1029])))
def R17_0 : MC := (.seq (.reg [⟨(some 59), none, (.q (.mv (.t 0)))⟩, ⟨(some 60), none, (.call (.f 63) [(.t 59)])⟩, ⟨(some 58), none, (.q (.mv (.t 60)))⟩, ⟨(some 61), none, (.q (.ext (.t 58) 0))⟩,
  ⟨(some 62), none, (.q (.ext (.t 58) 1))⟩, ⟨(some 8), none, (.alloc [(.pv (.sc (.int .i64 0))), (.pv (.sc (.int .u64 0)))])⟩, ⟨none, none, (.st (.t 8) (.t 61) 2)⟩, ⟨(some 9), none,
  (.q (.mv (.t 62)))⟩] [] [0, 8, 9] [8, 1013, 1060]) (.seq (.seq (.reg [⟨(some 63), none, (.q (.mv (.t 9)))⟩, ⟨(some 64), none, (.q (.not (.t 63)))⟩] [] [0, 8, 64] [8, 1013, 1060]) (.cond (.t 64)
  (.seq (.reg [⟨(some 65), none, (.q (.mv (.t 0)))⟩, ⟨(some 66), none, (.q (.len (.t 65) false))⟩, ⟨(some 67), none, (.q (.bin .eql (.t 66) (.c (.int .i64 0))))⟩, ⟨(some 68), none,
  (.q (.mv (.t 67)))⟩, ⟨(some 69), (some (68, true)), (.call (.f 56) [])⟩, ⟨(some 70), none, (.q (.pick (.t 68) (.t 69) (.c (.bool false))))⟩, ⟨(some 2), none, (.q (.mv (.t 70)))⟩] [] [2] [1019, 1025,
  1069, 1081, 1088]) .ret) .skip)) (.seq (.reg [⟨(some 72), none, (.q (.mv (.t 0)))⟩, ⟨(some 73), none, (.q (.fa (.t 8) 0))⟩, ⟨(some 74), none, (.q (.ld (.t 73) 1 false))⟩, ⟨(some 75), none,
  (.q (.bin .sub (.t 74) (.c (.int .i64 1))))⟩, ⟨(some 76), none, (.call (.f 54) [(.t 72), (.t 75)])⟩, ⟨(some 71), none, (.q (.mv (.t 76)))⟩, ⟨(some 77), none, (.q (.ext (.t 71) 0))⟩, ⟨(some 78),
  none, (.q (.ext (.t 71) 1))⟩, ⟨(some 10), none, (.q (.mv (.t 77)))⟩, ⟨(some 11), none, (.q (.mv (.t 78)))⟩] [] [0, 10, 11] [1013, 1076]) (.seq (.reg [⟨(some 79), none, (.q (.mv (.t 10)))⟩,
  ⟨(some 80), none, (.q (.mv (.t 0)))⟩, ⟨(some 81), none, (.call (.f 58) [(.t 79), (.t 80)])⟩, ⟨(some 82), none, (.q (.mv (.t 81)))⟩, ⟨(some 83), (some (82, true)), (.q (.mv (.t 11)))⟩, ⟨(some 84),
  (some (82, true)), (.q (.len (.t 83) false))⟩, ⟨(some 85), (some (82, true)), (.q (.bin .eql (.t 84) (.c (.int .i64 0))))⟩, ⟨(some 86), none, (.q (.pick (.t 82) (.t 85) (.c (.bool false))))⟩,
  ⟨(some 87), none, (.q (.mv (.t 86)))⟩, ⟨(some 88), (some (87, true)), (.call (.f 56) [])⟩, ⟨(some 89), none, (.q (.pick (.t 87) (.t 88) (.c (.bool false))))⟩, ⟨(some 2), none,
  (.q (.mv (.t 89)))⟩] [] [2] [1019, 1025, 1069, 1081, 1088]) .ret))))
def M17 : MC := (.seq (.reg [⟨(some 2), none, (.q (.mv (.c (.bool false))))⟩] [] [0] [1013]) (.seq (.reg [⟨(some 12), none, (.q (.mv (.t 0)))⟩, ⟨(some 13), none, (.call (.f 53) [(.t 12)])⟩, ⟨(some 0),
  none, (.q (.mv (.t 13)))⟩] [] [0] [1013]) (.seq (.seq (.reg [⟨(some 14), none, (.q (.mv (.t 0)))⟩, ⟨(some 15), none, (.call (.f 60) [(.t 14)])⟩, ⟨(some 16), none, (.q (.bin .neq (.t 15)
  (.c (.int .i64 0))))⟩] [] [0, 16] [1013, 1015]) (.cond (.t 16) (.seq (.reg [⟨(some 18), none, (.q (.mv (.t 0)))⟩, ⟨(some 19), none, (.call (.f 63) [(.t 18)])⟩, ⟨(some 17), none, (.q (.mv (.t 19)))⟩,
  ⟨(some 20), none, (.q (.ext (.t 17) 0))⟩, ⟨(some 21), none, (.q (.ext (.t 17) 1))⟩, ⟨(some 3), none, (.alloc [(.pv (.sc (.int .i64 0))), (.pv (.sc (.int .u64 0)))])⟩, ⟨none, none, (.st (.t 3)
  (.t 20) 2)⟩, ⟨(some 4), none, (.q (.mv (.t 21)))⟩] [] [4] [1019]) (.seq (.reg [⟨(some 22), none, (.q (.mv (.t 4)))⟩, ⟨(some 23), none, (.q (.not (.t 22)))⟩, ⟨(some 24), none, (.q (.mv (.t 23)))⟩,
  ⟨(some 25), (some (24, true)), (.call (.f 56) [])⟩, ⟨(some 26), none, (.q (.pick (.t 24) (.t 25) (.c (.bool false))))⟩, ⟨(some 2), none, (.q (.mv (.t 26)))⟩] [] [2] [1019, 1025, 1069, 1081, 1088])
  .ret)) .skip)) (.seq (.reg [⟨(some 28), none, (.q (.mv (.t 0)))⟩, ⟨(some 29), none, (.call (.f 54) [(.t 28), (.c (.int .i64 1099511627775))])⟩, ⟨(some 27), none, (.q (.mv (.t 29)))⟩, ⟨(some 30),
  none, (.q (.ext (.t 27) 0))⟩, ⟨(some 31), none, (.q (.ext (.t 27) 1))⟩, ⟨(some 5), none, (.q (.mv (.t 30)))⟩, ⟨(some 6), none, (.q (.mv (.t 31)))⟩] [] [0, 5, 6] [1013, 1029])
  (.seq (.seq (.reg [⟨(some 32), none, (.q (.mv (.t 5)))⟩, ⟨(some 33), none, (.q (.len (.t 32) false))⟩, ⟨(some 34), none, (.q (.bin .neq (.t 33) (.c (.int .i64 0))))⟩, ⟨(some 35), none,
  (.q (.mv (.t 34)))⟩, ⟨(some 36), (some (35, false)), (.q (.mv (.t 6)))⟩, ⟨(some 37), (some (35, false)), (.q (.len (.t 36) false))⟩, ⟨(some 38), (some (35, false)), (.q (.mv (.t 0)))⟩, ⟨(some 39),
  (some (35, false)), (.q (.len (.t 38) false))⟩, ⟨(some 40), (some (35, false)), (.q (.bin .neq (.t 37) (.t 39)))⟩, ⟨(some 41), none, (.q (.pick (.t 35) (.c (.bool true)) (.t 40)))⟩] [] [0, 6,
  41] [1013, 1029]) (.cond (.t 41) (.seq (.reg [⟨(some 2), none, (.q (.mv (.c (.bool false))))⟩] [] [2] [1019, 1025, 1069, 1081, 1088]) .ret) .skip)) (.seq (.seq (.reg [⟨(some 7), none,
  (.q (.mv (.c (.int .i64 0))))⟩] [] [0, 6, 7] [1013, 1029]) (.block 0 (.loop B17_0))) R17_0))))))
theorem mc17 : ofCode Try.prog [] Try.f17.ntmps [(0, ⟨[0], [1013], [], 0, [], none⟩),
    (1, ⟨[0], [1013], [], 0, [], none⟩),
    (2, ⟨[0, 16], [1013, 1015], [], 0, [], none⟩),
    (3, ⟨[4], [1019], [], 0, [], none⟩),
    (4, ⟨[2], [1019, 1025, 1069, 1081, 1088], [], 0, [], none⟩),
    (5, ⟨[0, 5, 6], [1013, 1029], [], 0, [], none⟩),
    (6, ⟨[0, 6, 41], [1013, 1029], [], 0, [], none⟩),
    (7, ⟨[2], [1019, 1025, 1069, 1081, 1088], [], 0, [], none⟩),
    (8, ⟨[0, 6, 7], [1013, 1029], [], 0, [], none⟩),
    (9, ⟨[0, 6, 7, 45], [1013, 1029], [], 0, [], none⟩),
    (10, ⟨[0, 6, 7], [1013, 1029], [], 0, [], none⟩),
    (11, ⟨[0, 6, 7, 57], [1013, 1029], [(0, 525), (1, 526), (2, 524), (3, 520), (4, 976), (5, 992), (6, 960), (7, 896), (8, 768), (9, 512)], 1023, [], none⟩),
    (12, ⟨[2], [1019, 1025, 1069, 1081, 1088], [], 0, [], none⟩),
    (13, ⟨[0, 8, 9], [8, 1013, 1060], [], 0, [], none⟩),
    (14, ⟨[0, 8, 64], [8, 1013, 1060], [], 0, [], none⟩),
    (15, ⟨[2], [1019, 1025, 1069, 1081, 1088], [], 0, [], none⟩),
    (16, ⟨[0, 10, 11], [1013, 1076], [], 0, [], none⟩),
    (17, ⟨[2], [1019, 1025, 1069, 1081, 1088], [], 0, [], none⟩)] (Try.f17.body.getD .skip) = some M17 := by kernel_rfl
theorem Run17 {args : List PV} {v : AV} {rs : List (Nat × List PV)} (ids : List Bool) (h : args.length ≤ 90) (hv : run Try.prog (retK [RV.tmp 2] ids v rs) M17 [] ⟨entry 0 args, []⟩) : Fn Try.prog 17 args v rs :=
  Fn_run ids (by kernel_rfl) Try.func17 (by decide) rfl mc17 (by kernel_rfl) (by rw [Try.ntmps17]; exact h) (by rw [Try.ntmps17]; decide) hv

/-- 'trystlaw11.WheelTurns' -/
def M18 : MC := (.seq (.reg [⟨(some 4), none, (.box (.t 1))⟩, ⟨(some 5), none, (.box (.t 2))⟩, ⟨(some 6), none, (.q (.mv (.c (.bool false))))⟩] [] [0, 4, 5] [4, 5, 1020]) (.seq (.reg [⟨(some 19),
  none, (.q (.mv (.t 0)))⟩, ⟨(some 20), none, (.call (.f 53) [(.t 19)])⟩, ⟨(some 0), none, (.q (.mv (.t 20)))⟩] [] [0, 4, 5] [4, 5, 1020]) (.seq (.seq (.reg [⟨(some 21), none, (.q (.mv (.t 0)))⟩,
  ⟨(some 22), none, (.q (.len (.t 21) false))⟩, ⟨(some 23), none, (.q (.bin .gtr (.t 22) (.c (.int .i64 110))))⟩, ⟨(some 24), none, (.q (.mv (.t 23)))⟩, ⟨(some 25), (some (24, false)),
  (.q (.mv (.t 0)))⟩, ⟨(some 26), (some (24, false)), (.call (.f 60) [(.t 25)])⟩, ⟨(some 27), (some (24, false)), (.q (.bin .neq (.t 26) (.c (.int .i64 0))))⟩, ⟨(some 28), none, (.q (.pick (.t 24)
  (.c (.bool true)) (.t 27)))⟩, ⟨(some 29), none, (.q (.mv (.t 28)))⟩, ⟨(some 30), (some (29, false)), (.q (.fa (.t 4) 1))⟩, ⟨(some 31), (some (29, false)), (.q (.ld (.t 30) 1 false))⟩, ⟨(some 32),
  (some (29, false)), (.q (.fa (.t 5) 1))⟩, ⟨(some 33), (some (29, false)), (.q (.ld (.t 32) 1 false))⟩, ⟨(some 34), (some (29, false)), (.q (.bin .eql (.t 31) (.t 33)))⟩, ⟨(some 35), none,
  (.q (.pick (.t 29) (.c (.bool true)) (.t 34)))⟩] [] [0, 4, 5, 35] [4, 5, 1020, 1026]) (.cond (.t 35) (.seq (.reg [⟨(some 36), none, (.call (.f 56) [])⟩, ⟨(some 6), none,
  (.q (.mv (.t 36)))⟩] [] [6] [1036, 1106, 1112, 1128, 1133, 1142, 1146]) .ret) .skip)) (.seq (.reg [⟨(some 38), none, (.q (.mv (.t 0)))⟩, ⟨(some 39), none, (.q (.fa (.t 4) 1))⟩, ⟨(some 40), none,
  (.q (.ld (.t 39) 1 false))⟩, ⟨(some 41), none, (.q (.fa (.t 4) 0))⟩, ⟨(some 42), none, (.q (.ld (.t 41) 1 false))⟩, ⟨(some 43), none, (.call (.f 62) [(.t 38), (.t 40), (.t 42)])⟩, ⟨(some 37), none,
  (.q (.mv (.t 43)))⟩, ⟨(some 44), none, (.q (.ext (.t 37) 0))⟩, ⟨(some 45), none, (.q (.ext (.t 37) 1))⟩, ⟨(some 7), none, (.q (.mv (.t 44)))⟩, ⟨(some 8), none, (.q (.mv (.t 45)))⟩] [] [0, 4, 5, 7,
  8] [4, 5, 1020, 1043, 1052]) (.seq (.reg [⟨(some 47), none, (.q (.mv (.t 7)))⟩, ⟨(some 48), none, (.q (.fa (.t 5) 1))⟩, ⟨(some 49), none, (.q (.ld (.t 48) 1 false))⟩, ⟨(some 50), none,
  (.q (.fa (.t 5) 0))⟩, ⟨(some 51), none, (.q (.ld (.t 50) 1 false))⟩, ⟨(some 52), none, (.call (.f 62) [(.t 47), (.t 49), (.t 51)])⟩, ⟨(some 46), none, (.q (.mv (.t 52)))⟩, ⟨(some 53), none,
  (.q (.ext (.t 46) 0))⟩, ⟨(some 54), none, (.q (.ext (.t 46) 1))⟩, ⟨(some 7), none, (.q (.mv (.t 53)))⟩, ⟨(some 9), none, (.q (.mv (.t 54)))⟩] [] [0, 4, 5, 7, 8, 9] [4, 5, 1020, 1043, 1052])
  (.seq (.reg [⟨(some 56), none, (.q (.mv (.t 0)))⟩, ⟨(some 57), none, (.q (.fa (.t 5) 1))⟩, ⟨(some 58), none, (.q (.ld (.t 57) 1 false))⟩, ⟨(some 59), none, (.q (.fa (.t 5) 0))⟩, ⟨(some 60), none,
  (.q (.ld (.t 59) 1 false))⟩, ⟨(some 61), none, (.call (.f 62) [(.t 56), (.t 58), (.t 60)])⟩, ⟨(some 55), none, (.q (.mv (.t 61)))⟩, ⟨(some 62), none, (.q (.ext (.t 55) 0))⟩, ⟨(some 63), none,
  (.q (.ext (.t 55) 1))⟩, ⟨(some 10), none, (.q (.mv (.t 62)))⟩, ⟨(some 11), none, (.q (.mv (.t 63)))⟩] [] [0, 4, 5, 7, 8, 9, 10, 11] [4, 5, 1020, 1043, 1052, 1061, 1070]) (.seq (.reg [⟨(some 65),
  none, (.q (.mv (.t 10)))⟩, ⟨(some 66), none, (.q (.fa (.t 4) 1))⟩, ⟨(some 67), none, (.q (.ld (.t 66) 1 false))⟩, ⟨(some 68), none, (.q (.fa (.t 4) 0))⟩, ⟨(some 69), none, (.q (.ld (.t 68)
  1 false))⟩, ⟨(some 70), none, (.call (.f 62) [(.t 65), (.t 67), (.t 69)])⟩, ⟨(some 64), none, (.q (.mv (.t 70)))⟩, ⟨(some 71), none, (.q (.ext (.t 64) 0))⟩, ⟨(some 72), none, (.q (.ext (.t 64) 1))⟩,
  ⟨(some 10), none, (.q (.mv (.t 71)))⟩, ⟨(some 12), none, (.q (.mv (.t 72)))⟩] [] [0, 4, 5, 7, 8, 9, 10, 11, 12] [4, 5, 1020, 1043, 1052, 1061, 1070]) (.seq (.seq (.reg [⟨(some 73), none,
  (.q (.mv (.t 8)))⟩, ⟨(some 74), none, (.q (.bin .neq (.t 73) (.c (.int .i64 0))))⟩, ⟨(some 75), none, (.q (.mv (.t 74)))⟩, ⟨(some 76), (some (75, false)), (.q (.mv (.t 9)))⟩, ⟨(some 77), (some (75,
  false)), (.q (.bin .neq (.t 76) (.c (.int .i64 0))))⟩, ⟨(some 78), none, (.q (.pick (.t 75) (.c (.bool true)) (.t 77)))⟩, ⟨(some 79), none, (.q (.mv (.t 78)))⟩, ⟨(some 80), (some (79, false)),
  (.q (.mv (.t 11)))⟩, ⟨(some 81), (some (79, false)), (.q (.bin .neq (.t 80) (.c (.int .i64 0))))⟩, ⟨(some 82), none, (.q (.pick (.t 79) (.c (.bool true)) (.t 81)))⟩, ⟨(some 83), none,
  (.q (.mv (.t 82)))⟩, ⟨(some 84), (some (83, false)), (.q (.mv (.t 12)))⟩, ⟨(some 85), (some (83, false)), (.q (.bin .neq (.t 84) (.c (.int .i64 0))))⟩, ⟨(some 86), none, (.q (.pick (.t 83)
  (.c (.bool true)) (.t 85)))⟩] [] [0, 4, 5, 7, 10, 86] [4, 5, 1020, 1043, 1052, 1061, 1070]) (.cond (.t 86) (.seq (.reg [⟨(some 87), none, (.q (.fa (.t 4) 0))⟩, ⟨(some 88), none, (.q (.ld (.t 87)
  1 false))⟩, ⟨(some 89), none, (.q (.bin .lss (.t 88) (.c (.int .i64 0))))⟩, ⟨(some 90), none, (.q (.mv (.t 89)))⟩, ⟨(some 91), (some (90, false)), (.q (.fa (.t 4) 0))⟩, ⟨(some 92), (some (90,
  false)), (.q (.ld (.t 91) 1 false))⟩, ⟨(some 93), (some (90, false)), (.q (.bin .gtr (.t 92) (.c (.int .i64 1099511627775))))⟩, ⟨(some 94), none, (.q (.pick (.t 90) (.c (.bool true)) (.t 93)))⟩,
  ⟨(some 95), none, (.q (.mv (.t 94)))⟩, ⟨(some 96), (some (95, false)), (.q (.fa (.t 5) 0))⟩, ⟨(some 97), (some (95, false)), (.q (.ld (.t 96) 1 false))⟩, ⟨(some 98), (some (95, false)),
  (.q (.bin .lss (.t 97) (.c (.int .i64 0))))⟩, ⟨(some 99), none, (.q (.pick (.t 95) (.c (.bool true)) (.t 98)))⟩, ⟨(some 100), none, (.q (.mv (.t 99)))⟩, ⟨(some 101), (some (100, false)),
  (.q (.fa (.t 5) 0))⟩, ⟨(some 102), (some (100, false)), (.q (.ld (.t 101) 1 false))⟩, ⟨(some 103), (some (100, false)), (.q (.bin .gtr (.t 102) (.c (.int .i64 1099511627775))))⟩, ⟨(some 104), none,
  (.q (.pick (.t 100) (.c (.bool true)) (.t 103)))⟩, ⟨(some 105), none, (.q (.mv (.t 104)))⟩, ⟨(some 106), (some (105, true)), (.call (.f 56) [])⟩, ⟨(some 107), none, (.q (.pick (.t 105) (.t 106)
  (.c (.bool false))))⟩, ⟨(some 6), none, (.q (.mv (.t 107)))⟩] [] [6] [1036, 1106, 1112, 1128, 1133, 1142, 1146]) .ret) .skip)) (.seq (.reg [⟨(some 109), none, (.q (.mv (.t 0)))⟩, ⟨(some 110), none,
  (.q (.fa (.t 4) 1))⟩, ⟨(some 111), none, (.q (.ld (.t 110) 1 false))⟩, ⟨(some 112), none, (.call (.f 64) [(.t 109), (.t 111)])⟩, ⟨(some 108), none, (.q (.mv (.t 112)))⟩, ⟨(some 113), none,
  (.q (.ext (.t 108) 0))⟩, ⟨(some 114), none, (.q (.ext (.t 108) 1))⟩, ⟨(some 13), none, (.q (.mv (.t 113)))⟩, ⟨(some 14), none, (.q (.mv (.t 114)))⟩] [] [0, 4, 7, 10, 14] [4, 1020, 1043, 1052, 1061,
  1070, 1112]) (.seq (.reg [⟨(some 116), none, (.q (.mv (.t 0)))⟩, ⟨(some 117), none, (.q (.fa (.t 4) 1))⟩, ⟨(some 118), none, (.q (.ld (.t 117) 1 false))⟩, ⟨(some 119), none, (.q (.fa (.t 4) 0))⟩,
  ⟨(some 120), none, (.q (.ld (.t 119) 1 false))⟩, ⟨(some 121), none, (.call (.f 62) [(.t 116), (.t 118), (.t 120)])⟩, ⟨(some 115), none, (.q (.mv (.t 121)))⟩, ⟨(some 122), none, (.q (.ext (.t 115)
  0))⟩, ⟨(some 123), none, (.q (.ext (.t 115) 1))⟩, ⟨(some 15), none, (.q (.mv (.t 122)))⟩, ⟨(some 16), none, (.q (.mv (.t 123)))⟩] [] [0, 4, 7, 10, 14, 15] [4, 1020, 1043, 1052, 1061, 1070, 1112,
  1121]) (.seq (.reg [⟨(some 125), none, (.q (.mv (.t 15)))⟩, ⟨(some 126), none, (.q (.fa (.t 4) 1))⟩, ⟨(some 127), none, (.q (.ld (.t 126) 1 false))⟩, ⟨(some 128), none, (.call (.f 61) [(.t 125),
  (.t 127)])⟩, ⟨(some 124), none, (.q (.mv (.t 128)))⟩, ⟨(some 129), none, (.q (.ext (.t 124) 0))⟩, ⟨(some 130), none, (.q (.ext (.t 124) 1))⟩, ⟨(some 17), none, (.q (.mv (.t 129)))⟩, ⟨(some 18),
  none, (.q (.mv (.t 130)))⟩] [] [0, 7, 10, 14, 17, 18] [1020, 1043, 1052, 1061, 1070, 1112, 1128]) (.seq (.reg [⟨(some 131), none, (.q (.mv (.t 7)))⟩, ⟨(some 132), none, (.q (.mv (.t 10)))⟩,
  ⟨(some 133), none, (.call (.f 58) [(.t 131), (.t 132)])⟩, ⟨(some 134), none, (.q (.mv (.t 133)))⟩, ⟨(some 135), (some (134, true)), (.q (.mv (.t 18)))⟩, ⟨(some 136), none, (.q (.pick (.t 134)
  (.t 135) (.c (.bool false))))⟩, ⟨(some 137), none, (.q (.mv (.t 136)))⟩, ⟨(some 138), (some (137, true)), (.q (.mv (.t 14)))⟩, ⟨(some 139), (some (137, true)), (.q (.mv (.t 138)))⟩, ⟨(some 140),
  (some (139, false)), (.q (.mv (.t 17)))⟩, ⟨(some 141), (some (139, false)), (.q (.mv (.t 0)))⟩, ⟨(some 142), (some (139, false)), (.call (.f 58) [(.t 140), (.t 141)])⟩, ⟨(some 143), (some (137,
  true)), (.q (.pick (.t 139) (.c (.bool true)) (.t 142)))⟩, ⟨(some 144), none, (.q (.pick (.t 137) (.t 143) (.c (.bool false))))⟩, ⟨(some 145), none, (.q (.mv (.t 144)))⟩, ⟨(some 146), (some (145,
  true)), (.call (.f 56) [])⟩, ⟨(some 147), none, (.q (.pick (.t 145) (.t 146) (.c (.bool false))))⟩, ⟨(some 6), none, (.q (.mv (.t 147)))⟩] [] [6] [1036, 1106, 1112, 1128, 1133, 1142, 1146])
  .ret))))))))))))
theorem mc18 : ofCode Try.prog [] Try.f18.ntmps [(0, ⟨[0, 4, 5], [4, 5, 1020], [], 0, [], none⟩),
    (1, ⟨[0, 4, 5], [4, 5, 1020], [], 0, [], none⟩),
    (2, ⟨[0, 4, 5, 35], [4, 5, 1020, 1026], [], 0, [], none⟩),
    (3, ⟨[6], [1036, 1106, 1112, 1128, 1133, 1142, 1146], [], 0, [], none⟩),
    (4, ⟨[0, 4, 5, 7, 8], [4, 5, 1020, 1043, 1052], [], 0, [], none⟩),
    (5, ⟨[0, 4, 5, 7, 8, 9], [4, 5, 1020, 1043, 1052], [], 0, [], none⟩),
    (6, ⟨[0, 4, 5, 7, 8, 9, 10, 11], [4, 5, 1020, 1043, 1052, 1061, 1070], [], 0, [], none⟩),
    (7, ⟨[0, 4, 5, 7, 8, 9, 10, 11, 12], [4, 5, 1020, 1043, 1052, 1061, 1070], [], 0, [], none⟩),
    (8, ⟨[0, 4, 5, 7, 10, 86], [4, 5, 1020, 1043, 1052, 1061, 1070], [], 0, [], none⟩),
    (9, ⟨[6], [1036, 1106, 1112, 1128, 1133, 1142, 1146], [], 0, [], none⟩),
    (10, ⟨[0, 4, 7, 10, 14], [4, 1020, 1043, 1052, 1061, 1070, 1112], [], 0, [], none⟩),
    (11, ⟨[0, 4, 7, 10, 14, 15], [4, 1020, 1043, 1052, 1061, 1070, 1112, 1121], [], 0, [], none⟩),
    (12, ⟨[0, 7, 10, 14, 17, 18], [1020, 1043, 1052, 1061, 1070, 1112, 1128], [], 0, [], none⟩),
    (13, ⟨[6], [1036, 1106, 1112, 1128, 1133, 1142, 1146], [], 0, [], none⟩)] (Try.f18.body.getD .skip) = some M18 := by kernel_rfl
theorem Run18 {args : List PV} {v : AV} {rs : List (Nat × List PV)} (ids : List Bool) (h : args.length ≤ 148) (hv : run Try.prog (retK [RV.tmp 6] ids v rs) M18 [] ⟨entry 0 args, []⟩) : Fn Try.prog 18 args v rs :=
  Fn_run ids (by kernel_rfl) Try.func18 (by decide) rfl mc18 (by kernel_rfl) (by rw [Try.ntmps18]; exact h) (by rw [Try.ntmps18]; decide) hv

end Go.Vc

namespace Go.Vc
open Go.Proofs
set_option linter.unusedSimpArgs false
set_option linter.unusedVariables false
set_option maxRecDepth 10000

theorem law17 (l : List Tm) (hl : l.length ≤ 9223372036854775807) : Fn Try.prog 17 [tm l] (.pv (pB true)) [] := by
  refine Run17 [] (by simp) ?_
  simp only [go_sem, Nat.reduceEqDiff, Nat.reduceBEq, Nat.reduceAdd, Nat.reduceMul, Nat.reduceSub, Nat.reduceLeDiff, Nat.reduceLT, reduceIte, reduceCtorEq, Int.reduceToNat, Int.reduceLE, Int.reduceLT, Int.reduceNeg, Bool.not_not, and_self, Bool.and_eq_false_iff, Int.cast_ofNat_Int, Int.reduceAdd, Int.reduceSub, Int.reduceMul, Int.reduceEq, Int.reduceNe, M17]
  refine runR_call (by simp only [go_sem, Nat.reduceEqDiff, Nat.reduceBEq, Nat.reduceAdd, Nat.reduceMul, Nat.reduceSub, Nat.reduceLeDiff, Nat.reduceLT, reduceIte, reduceCtorEq, Int.reduceToNat, Int.reduceLE, Int.reduceLT, Int.reduceNeg, Bool.not_not, and_self, Bool.and_eq_false_iff, Int.cast_ofNat_Int, Int.reduceAdd, Int.reduceSub, Int.reduceMul, Int.reduceEq, Int.reduceNe]) rfl (fn53 l hl) (.inl rfl) trivial ?_
  simp only [go_sem, Nat.reduceEqDiff, Nat.reduceBEq, Nat.reduceAdd, Nat.reduceMul, Nat.reduceSub, Nat.reduceLeDiff, Nat.reduceLT, reduceIte, reduceCtorEq, Int.reduceToNat, Int.reduceLE, Int.reduceLT, Int.reduceNeg, Bool.not_not, and_self, Bool.and_eq_false_iff, Int.cast_ofNat_Int, Int.reduceAdd, Int.reduceSub, Int.reduceMul, Int.reduceEq, Int.reduceNe]
  have hm : (l.take 121).length ≤ 121 := by simp; omega
  generalize l.take 121 = m at hm ⊢
  refine runR_callf (by simp only [go_sem, Nat.reduceEqDiff, Nat.reduceBEq, Nat.reduceAdd, Nat.reduceMul, Nat.reduceSub, Nat.reduceLeDiff, Nat.reduceLT, reduceIte, reduceCtorEq, Int.reduceToNat, Int.reduceLE, Int.reduceLT, Int.reduceNeg, Bool.not_not, and_self, Bool.and_eq_false_iff, Int.cast_ofNat_Int, Int.reduceAdd, Int.reduceSub, Int.reduceMul, Int.reduceEq, Int.reduceNe]) (by simp only [go_sem, Nat.reduceEqDiff, Nat.reduceBEq, Nat.reduceAdd, Nat.reduceMul, Nat.reduceSub, Nat.reduceLeDiff, Nat.reduceLT, reduceIte, reduceCtorEq, Int.reduceToNat, Int.reduceLE, Int.reduceLT, Int.reduceNeg, Bool.not_not, and_self, Bool.and_eq_false_iff, Int.cast_ofNat_Int, Int.reduceAdd, Int.reduceSub, Int.reduceMul, Int.reduceEq, Int.reduceNe] <;> rfl) (fn60 m (by omega)) ⟨rfl, trivial⟩ trivial ?_
  simp only [go_sem, Nat.reduceEqDiff, Nat.reduceBEq, Nat.reduceAdd, Nat.reduceMul, Nat.reduceSub, Nat.reduceLeDiff, Nat.reduceLT, reduceIte, reduceCtorEq, Int.reduceToNat, Int.reduceLE, Int.reduceLT, Int.reduceNeg, Bool.not_not, and_self, Bool.and_eq_false_iff, Int.cast_ofNat_Int, Int.reduceAdd, Int.reduceSub, Int.reduceMul, Int.reduceEq, Int.reduceNe, errN_dec, errN_iff]
  have e0 := fn63 m (by omega)
  refine ⟨fun h => ?_, fun h => ?_⟩
  · have e : nextT m = (default, false) := by unfold nextT; rw [if_pos (.inr h)]
    rw [e] at e0
    simp only [] at e0
    refine runR_call (by simp only [go_sem, Nat.reduceEqDiff, Nat.reduceBEq, Nat.reduceAdd, Nat.reduceMul, Nat.reduceSub, Nat.reduceLeDiff, Nat.reduceLT, reduceIte, reduceCtorEq, Int.reduceToNat, Int.reduceLE, Int.reduceLT, Int.reduceNeg, Bool.not_not, and_self, Bool.and_eq_false_iff, Int.cast_ofNat_Int, Int.reduceAdd, Int.reduceSub, Int.reduceMul, Int.reduceEq, Int.reduceNe]) rfl (e0) (.inl rfl) trivial ?_
    simp only [go_sem, Nat.reduceEqDiff, Nat.reduceBEq, Nat.reduceAdd, Nat.reduceMul, Nat.reduceSub, Nat.reduceLeDiff, Nat.reduceLT, reduceIte, reduceCtorEq, Int.reduceToNat, Int.reduceLE, Int.reduceLT, Int.reduceNeg, Bool.not_not, and_self, Bool.and_eq_false_iff, Int.cast_ofNat_Int, Int.reduceAdd, Int.reduceSub, Int.reduceMul, Int.reduceEq, Int.reduceNe]
    refine runR_callgf (by simp only [go_sem, Nat.reduceEqDiff, Nat.reduceBEq, Nat.reduceAdd, Nat.reduceMul, Nat.reduceSub, Nat.reduceLeDiff, Nat.reduceLT, reduceIte, reduceCtorEq, Int.reduceToNat, Int.reduceLE, Int.reduceLT, Int.reduceNeg, Bool.not_not, and_self, Bool.and_eq_false_iff, Int.cast_ofNat_Int, Int.reduceAdd, Int.reduceSub, Int.reduceMul, Int.reduceEq, Int.reduceNe]) (by simp only [go_sem, Nat.reduceEqDiff, Nat.reduceBEq, Nat.reduceAdd, Nat.reduceMul, Nat.reduceSub, Nat.reduceLeDiff, Nat.reduceLT, reduceIte, reduceCtorEq, Int.reduceToNat, Int.reduceLE, Int.reduceLT, Int.reduceNeg, Bool.not_not, and_self, Bool.and_eq_false_iff, Int.cast_ofNat_Int, Int.reduceAdd, Int.reduceSub, Int.reduceMul, Int.reduceEq, Int.reduceNe]) (by simp only [go_sem, Nat.reduceEqDiff, Nat.reduceBEq, Nat.reduceAdd, Nat.reduceMul, Nat.reduceSub, Nat.reduceLeDiff, Nat.reduceLT, reduceIte, reduceCtorEq, Int.reduceToNat, Int.reduceLE, Int.reduceLT, Int.reduceNeg, Bool.not_not, and_self, Bool.and_eq_false_iff, Int.cast_ofNat_Int, Int.reduceAdd, Int.reduceSub, Int.reduceMul, Int.reduceEq, Int.reduceNe] <;> rfl) (fun _ => fn56) rfl ?_
    simp only [go_sem, Nat.reduceEqDiff, Nat.reduceBEq, Nat.reduceAdd, Nat.reduceMul, Nat.reduceSub, Nat.reduceLeDiff, Nat.reduceLT, reduceIte, reduceCtorEq, Int.reduceToNat, Int.reduceLE, Int.reduceLT, Int.reduceNeg, Bool.not_not, and_self, Bool.and_eq_false_iff, Int.cast_ofNat_Int, Int.reduceAdd, Int.reduceSub, Int.reduceMul, Int.reduceEq, Int.reduceNe]
  have hc := checkT_split.1 h
  have e1 := fn54 m 1099511627775 (by omega)
  have f1 : laterT m 1099511627775 = [] := by
    unfold laterT
    rw [List.filter_eq_nil_iff]
    intro y hy
    have := hc.2.1 y hy
    simp [atB] at this ⊢; omega
  have f2 : rungT m 1099511627775 = m.map (·.id) := by
    unfold rungT
    rw [List.filter_eq_self.2]
    intro y hy
    have := hc.2.1 y hy
    simp [atB] at this ⊢; omega
  rw [h, f1, f2] at e1
  simp only [if_true] at e1
  refine runR_call (by simp only [go_sem, Nat.reduceEqDiff, Nat.reduceBEq, Nat.reduceAdd, Nat.reduceMul, Nat.reduceSub, Nat.reduceLeDiff, Nat.reduceLT, reduceIte, reduceCtorEq, Int.reduceToNat, Int.reduceLE, Int.reduceLT, Int.reduceNeg, Bool.not_not, and_self, Bool.and_eq_false_iff, Int.cast_ofNat_Int, Int.reduceAdd, Int.reduceSub, Int.reduceMul, Int.reduceEq, Int.reduceNe]) rfl (e1) (.inl rfl) trivial ?_
  simp only [go_sem, Nat.reduceEqDiff, Nat.reduceBEq, Nat.reduceAdd, Nat.reduceMul, Nat.reduceSub, Nat.reduceLeDiff, Nat.reduceLT, reduceIte, reduceCtorEq, Int.reduceToNat, Int.reduceLE, Int.reduceLT, Int.reduceNeg, Bool.not_not, and_self, Bool.and_eq_false_iff, Int.cast_ofNat_Int, Int.reduceAdd, Int.reduceSub, Int.reduceMul, Int.reduceEq, Int.reduceNe, List.length_map]
  refine run_loop (T := Nat) (fun i => ⟨[(0, .pv (tm m)), (6, .pv (us (m.map (·.id)))), (7, .pv (pI i))], []⟩) (fun i => i ≤ m.length) (fun i => m.length - i) 0 rfl (Nat.zero_le _) ?_
  intro i hi
  by_cases hlt : i < m.length
  · have hlt2 : i < (m.map (·.id)).length := by simpa using hlt
    simp only [go_sem, Nat.reduceEqDiff, Nat.reduceBEq, Nat.reduceAdd, Nat.reduceMul, Nat.reduceSub, Nat.reduceLeDiff, Nat.reduceLT, reduceIte, reduceCtorEq, Int.reduceToNat, Int.reduceLE, Int.reduceLT, Int.reduceNeg, Bool.not_not, and_self, Bool.and_eq_false_iff, Int.cast_ofNat_Int, Int.reduceAdd, Int.reduceSub, Int.reduceMul, Int.reduceEq, Int.reduceNe, B17_0, wf_tm, wf_us, getD_map hlt, getD_map hlt2, show (i : Int) < (m.length : Int) by omega, List.length_map, List.getElem_map]
    exact ⟨⟨by omega, by omega⟩, i + 1, rfl, by omega, by omega⟩
  · simp only [go_sem, Nat.reduceEqDiff, Nat.reduceBEq, Nat.reduceAdd, Nat.reduceMul, Nat.reduceSub, Nat.reduceLeDiff, Nat.reduceLT, reduceIte, reduceCtorEq, Int.reduceToNat, Int.reduceLE, Int.reduceLT, Int.reduceNeg, Bool.not_not, and_self, Bool.and_eq_false_iff, Int.cast_ofNat_Int, Int.reduceAdd, Int.reduceSub, Int.reduceMul, Int.reduceEq, Int.reduceNe, B17_0, R17_0, show ¬ ((i : Int) < (m.length : Int)) by omega]
    refine runR_call (by simp only [go_sem, Nat.reduceEqDiff, Nat.reduceBEq, Nat.reduceAdd, Nat.reduceMul, Nat.reduceSub, Nat.reduceLeDiff, Nat.reduceLT, reduceIte, reduceCtorEq, Int.reduceToNat, Int.reduceLE, Int.reduceLT, Int.reduceNeg, Bool.not_not, and_self, Bool.and_eq_false_iff, Int.cast_ofNat_Int, Int.reduceAdd, Int.reduceSub, Int.reduceMul, Int.reduceEq, Int.reduceNe]) rfl (e0) (.inl rfl) trivial ?_
    by_cases h0 : m.length = 0
    · have e : nextT m = (default, false) := by unfold nextT; rw [if_pos (.inl h0)]
      rw [e]
      simp only [go_sem, Nat.reduceEqDiff, Nat.reduceBEq, Nat.reduceAdd, Nat.reduceMul, Nat.reduceSub, Nat.reduceLeDiff, Nat.reduceLT, reduceIte, reduceCtorEq, Int.reduceToNat, Int.reduceLE, Int.reduceLT, Int.reduceNeg, Bool.not_not, and_self, Bool.and_eq_false_iff, Int.cast_ofNat_Int, Int.reduceAdd, Int.reduceSub, Int.reduceMul, Int.reduceEq, Int.reduceNe, h0]
      refine runR_callgf (by simp only [go_sem, Nat.reduceEqDiff, Nat.reduceBEq, Nat.reduceAdd, Nat.reduceMul, Nat.reduceSub, Nat.reduceLeDiff, Nat.reduceLT, reduceIte, reduceCtorEq, Int.reduceToNat, Int.reduceLE, Int.reduceLT, Int.reduceNeg, Bool.not_not, and_self, Bool.and_eq_false_iff, Int.cast_ofNat_Int, Int.reduceAdd, Int.reduceSub, Int.reduceMul, Int.reduceEq, Int.reduceNe]) (by simp only [go_sem, Nat.reduceEqDiff, Nat.reduceBEq, Nat.reduceAdd, Nat.reduceMul, Nat.reduceSub, Nat.reduceLeDiff, Nat.reduceLT, reduceIte, reduceCtorEq, Int.reduceToNat, Int.reduceLE, Int.reduceLT, Int.reduceNeg, Bool.not_not, and_self, Bool.and_eq_false_iff, Int.cast_ofNat_Int, Int.reduceAdd, Int.reduceSub, Int.reduceMul, Int.reduceEq, Int.reduceNe]) (by simp only [go_sem, Nat.reduceEqDiff, Nat.reduceBEq, Nat.reduceAdd, Nat.reduceMul, Nat.reduceSub, Nat.reduceLeDiff, Nat.reduceLT, reduceIte, reduceCtorEq, Int.reduceToNat, Int.reduceLE, Int.reduceLT, Int.reduceNeg, Bool.not_not, and_self, Bool.and_eq_false_iff, Int.cast_ofNat_Int, Int.reduceAdd, Int.reduceSub, Int.reduceMul, Int.reduceEq, Int.reduceNe] <;> rfl) (fun _ => fn56) rfl ?_
      simp only [go_sem, Nat.reduceEqDiff, Nat.reduceBEq, Nat.reduceAdd, Nat.reduceMul, Nat.reduceSub, Nat.reduceLeDiff, Nat.reduceLT, reduceIte, reduceCtorEq, Int.reduceToNat, Int.reduceLE, Int.reduceLT, Int.reduceNeg, Bool.not_not, and_self, Bool.and_eq_false_iff, Int.cast_ofNat_Int, Int.reduceAdd, Int.reduceSub, Int.reduceMul, Int.reduceEq, Int.reduceNe]
    have hpos : 0 < m.length := by omega
    have e : nextT m = (m[0], true) := by unfold nextT; rw [if_neg (by simp [h]; exact fun e => by simp [e] at hpos), getD_get hpos]
    rw [e]
    simp only [go_sem, Nat.reduceEqDiff, Nat.reduceBEq, Nat.reduceAdd, Nat.reduceMul, Nat.reduceSub, Nat.reduceLeDiff, Nat.reduceLT, reduceIte, reduceCtorEq, Int.reduceToNat, Int.reduceLE, Int.reduceLT, Int.reduceNeg, Bool.not_not, and_self, Bool.and_eq_false_iff, Int.cast_ofNat_Int, Int.reduceAdd, Int.reduceSub, Int.reduceMul, Int.reduceEq, Int.reduceNe]
    have hat := hc.2.1 _ (List.getElem_mem hpos)
    have hat' : 0 ≤ (m[0]).at_ ∧ (m[0]).at_ ≤ 1099511627775 := by simpa [atB] using hat
    refine ⟨⟨by omega, by omega⟩, ?_⟩
    have hfirst : ∀ y ∈ m, (m[0]).at_ ≤ y.at_ := by
      intro y hy
      obtain ⟨k, hk, rfl⟩ := List.mem_iff_getElem.1 hy
      by_cases hk0 : k = 0
      · subst hk0; exact Int.le_refl _
      · have := ltT_iff.1 (List.pairwise_iff_getElem.1 hc.2.2.1 0 k hpos hk (by omega))
        omega
    have e2 := fn54 m ((m[0]).at_ - 1) (by omega)
    have g1 : laterT m ((m[0]).at_ - 1) = m := List.filter_eq_self.2 fun y hy => by have := hfirst y hy; simp; omega
    have g2 : rungT m ((m[0]).at_ - 1) = [] := by
      unfold rungT
      rw [List.filter_eq_nil_iff.2 (fun y hy => by have := hfirst y hy; simp; omega)]; rfl
    rw [h, g1, g2] at e2
    simp only [if_true] at e2
    refine runR_call (by simp only [go_sem, Nat.reduceEqDiff, Nat.reduceBEq, Nat.reduceAdd, Nat.reduceMul, Nat.reduceSub, Nat.reduceLeDiff, Nat.reduceLT, reduceIte, reduceCtorEq, Int.reduceToNat, Int.reduceLE, Int.reduceLT, Int.reduceNeg, Bool.not_not, and_self, Bool.and_eq_false_iff, Int.cast_ofNat_Int, Int.reduceAdd, Int.reduceSub, Int.reduceMul, Int.reduceEq, Int.reduceNe]) rfl (e2) (.inl rfl) trivial ?_
    simp only [go_sem, Nat.reduceEqDiff, Nat.reduceBEq, Nat.reduceAdd, Nat.reduceMul, Nat.reduceSub, Nat.reduceLeDiff, Nat.reduceLT, reduceIte, reduceCtorEq, Int.reduceToNat, Int.reduceLE, Int.reduceLT, Int.reduceNeg, Bool.not_not, and_self, Bool.and_eq_false_iff, Int.cast_ofNat_Int, Int.reduceAdd, Int.reduceSub, Int.reduceMul, Int.reduceEq, Int.reduceNe]
    refine runR_callf (by simp only [go_sem, Nat.reduceEqDiff, Nat.reduceBEq, Nat.reduceAdd, Nat.reduceMul, Nat.reduceSub, Nat.reduceLeDiff, Nat.reduceLT, reduceIte, reduceCtorEq, Int.reduceToNat, Int.reduceLE, Int.reduceLT, Int.reduceNeg, Bool.not_not, and_self, Bool.and_eq_false_iff, Int.cast_ofNat_Int, Int.reduceAdd, Int.reduceSub, Int.reduceMul, Int.reduceEq, Int.reduceNe]) (by simp only [go_sem, Nat.reduceEqDiff, Nat.reduceBEq, Nat.reduceAdd, Nat.reduceMul, Nat.reduceSub, Nat.reduceLeDiff, Nat.reduceLT, reduceIte, reduceCtorEq, Int.reduceToNat, Int.reduceLE, Int.reduceLT, Int.reduceNeg, Bool.not_not, and_self, Bool.and_eq_false_iff, Int.cast_ofNat_Int, Int.reduceAdd, Int.reduceSub, Int.reduceMul, Int.reduceEq, Int.reduceNe] <;> rfl) (fn58 m m (by omega) (by omega)) ⟨rfl, trivial⟩ trivial ?_
    simp only [go_sem, Nat.reduceEqDiff, Nat.reduceBEq, Nat.reduceAdd, Nat.reduceMul, Nat.reduceSub, Nat.reduceLeDiff, Nat.reduceLT, reduceIte, reduceCtorEq, Int.reduceToNat, Int.reduceLE, Int.reduceLT, Int.reduceNeg, Bool.not_not, and_self, Bool.and_eq_false_iff, Int.cast_ofNat_Int, Int.reduceAdd, Int.reduceSub, Int.reduceMul, Int.reduceEq, Int.reduceNe]
    refine runR_callgf (by simp only [go_sem, Nat.reduceEqDiff, Nat.reduceBEq, Nat.reduceAdd, Nat.reduceMul, Nat.reduceSub, Nat.reduceLeDiff, Nat.reduceLT, reduceIte, reduceCtorEq, Int.reduceToNat, Int.reduceLE, Int.reduceLT, Int.reduceNeg, Bool.not_not, and_self, Bool.and_eq_false_iff, Int.cast_ofNat_Int, Int.reduceAdd, Int.reduceSub, Int.reduceMul, Int.reduceEq, Int.reduceNe]) (by simp only [go_sem, Nat.reduceEqDiff, Nat.reduceBEq, Nat.reduceAdd, Nat.reduceMul, Nat.reduceSub, Nat.reduceLeDiff, Nat.reduceLT, reduceIte, reduceCtorEq, Int.reduceToNat, Int.reduceLE, Int.reduceLT, Int.reduceNeg, Bool.not_not, and_self, Bool.and_eq_false_iff, Int.cast_ofNat_Int, Int.reduceAdd, Int.reduceSub, Int.reduceMul, Int.reduceEq, Int.reduceNe]) (by simp only [go_sem, Nat.reduceEqDiff, Nat.reduceBEq, Nat.reduceAdd, Nat.reduceMul, Nat.reduceSub, Nat.reduceLeDiff, Nat.reduceLT, reduceIte, reduceCtorEq, Int.reduceToNat, Int.reduceLE, Int.reduceLT, Int.reduceNeg, Bool.not_not, and_self, Bool.and_eq_false_iff, Int.cast_ofNat_Int, Int.reduceAdd, Int.reduceSub, Int.reduceMul, Int.reduceEq, Int.reduceNe] <;> rfl) (fun _ => fn56) rfl ?_
    simp only [go_sem, Nat.reduceEqDiff, Nat.reduceBEq, Nat.reduceAdd, Nat.reduceMul, Nat.reduceSub, Nat.reduceLeDiff, Nat.reduceLT, reduceIte, reduceCtorEq, Int.reduceToNat, Int.reduceLE, Int.reduceLT, Int.reduceNeg, Bool.not_not, and_self, Bool.and_eq_false_iff, Int.cast_ofNat_Int, Int.reduceAdd, Int.reduceSub, Int.reduceMul, Int.reduceEq, Int.reduceNe]
end Go.Vc
