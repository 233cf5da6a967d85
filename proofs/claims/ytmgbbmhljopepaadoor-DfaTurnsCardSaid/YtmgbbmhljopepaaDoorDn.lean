/- A part of the proofs of the seat YtmgbbmhljopepaaDoor: the contracts of functions, each proved out of its code. -/
import Derived.Test.YtmgbbmhljopepaaDoorVh
import Derived.Test.YtmgbbmhljopepaaDoorProg
import Derived.Test.YtmgbbmhljopepaaDoorDk
import Derived.Test.YtmgbbmhljopepaaDoorDm
namespace Go.Vc
open Go.Proofs
set_option maxRecDepth 100000

/-- 'trystlaw07.DfaBounds' -/
def B6_1 : MC := (.seq (.seq (.reg [⟨(some 101), none, (.q (.mv (.t 12)))⟩, ⟨(some 102), none, (.q (.fa (.t 3) 1))⟩, ⟨(some 103), none, (.q (.ld (.t 102) 1 false))⟩, ⟨(some 104), none,
  (.q (.mv (.t 11)))⟩, ⟨(some 105), none, (.q (.ia (.t 103) (.t 104) 1))⟩, ⟨(some 106), none, (.q (.ld (.t 105) 1 false))⟩, ⟨(some 107), none, (.q (.len (.t 106) false))⟩, ⟨(some 108), none,
  (.q (.bin .lss (.t 101) (.t 107)))⟩] [] [3, 5, 10, 11, 12, 108] [3, 77, 1018, 1025]) (.cond (.t 108) .skip (.exit 2))) (.seq (.block 3 (.seq (.reg [⟨(some 111), none, (.q (.fa (.t 3) 1))⟩,
  ⟨(some 112), none, (.q (.ld (.t 111) 1 false))⟩, ⟨(some 113), none, (.q (.mv (.t 11)))⟩, ⟨(some 114), none, (.q (.ia (.t 112) (.t 113) 1))⟩, ⟨(some 115), none, (.q (.ld (.t 114) 1 false))⟩,
  ⟨(some 116), none, (.q (.mv (.t 12)))⟩, ⟨(some 117), none, (.q (.ia (.t 115) (.t 116) 1))⟩, ⟨(some 118), none, (.q (.ld (.t 117) 1 false))⟩, ⟨(some 13), none, (.q (.mv (.t 118)))⟩] [] [3, 5, 10, 11,
  12, 13] [3, 77, 1018, 1025]) (.seq (.seq (.reg [⟨(some 119), none, (.q (.mv (.t 13)))⟩, ⟨(some 120), none, (.q (.bin .lss (.t 119) (.c (.int .i64 (-1)))))⟩, ⟨(some 121), none, (.q (.mv (.t 120)))⟩,
  ⟨(some 122), (some (121, false)), (.q (.mv (.t 13)))⟩, ⟨(some 123), (some (121, false)), (.q (.mv (.t 5)))⟩, ⟨(some 124), (some (121, false)), (.q (.bin .geq (.t 122) (.t 123)))⟩, ⟨(some 125), none,
  (.q (.pick (.t 121) (.c (.bool true)) (.t 124)))⟩] [] [3, 5, 10, 11, 12, 13, 125] [3, 77, 1018, 1025]) (.cond (.t 125) (.seq (.reg [⟨(some 2), none, (.q (.mv (.c (.bool false))))⟩] [] [2] [1023,
  1128]) .ret) .skip)) (.reg [⟨(some 126), none, (.q (.mv (.t 10)))⟩, ⟨(some 127), none, (.q (.mv (.t 13)))⟩, ⟨none, none, (.mset (.t 126) (.t 127) (.c (.bool true)) Kk.int)⟩] [] [3, 5, 10, 11,
  12] [3, 77, 1018, 1025])))) (.reg [⟨(some 109), none, (.q (.mv (.t 12)))⟩, ⟨(some 110), none, (.q (.bin .add (.t 109) (.c (.int .i64 1))))⟩, ⟨(some 12), none, (.q (.mv (.t 110)))⟩] [] [3, 5, 10, 11,
  12] [3, 77, 1018, 1025])))
def B6_0 : MC := (.seq (.seq (.reg [⟨(some 79), none, (.q (.mv (.t 11)))⟩, ⟨(some 80), none, (.q (.mv (.t 5)))⟩, ⟨(some 81), none, (.q (.bin .lss (.t 79) (.t 80)))⟩] [] [3, 5, 10, 11, 81] [3, 77,
  1018, 1025]) (.cond (.t 81) .skip (.exit 0))) (.seq (.block 1 (.seq (.seq (.reg [⟨(some 84), none, (.q (.fa (.t 3) 1))⟩, ⟨(some 85), none, (.q (.ld (.t 84) 1 false))⟩, ⟨(some 86), none,
  (.q (.mv (.t 11)))⟩, ⟨(some 87), none, (.q (.ia (.t 85) (.t 86) 1))⟩, ⟨(some 88), none, (.q (.ld (.t 87) 1 false))⟩, ⟨(some 89), none, (.q (.len (.t 88) false))⟩, ⟨(some 90), none, (.q (.fa (.t 3)
  0))⟩, ⟨(some 91), none, (.q (.ld (.t 90) 1 false))⟩, ⟨(some 92), none, (.q (.len (.t 91) false))⟩, ⟨(some 93), none, (.q (.bin .add (.t 92) (.c (.int .i64 1))))⟩, ⟨(some 94), none,
  (.q (.bin .neq (.t 89) (.t 93)))⟩, ⟨(some 95), none, (.q (.mv (.t 94)))⟩, ⟨(some 96), (some (95, false)), (.q (.mv (.t 10)))⟩, ⟨(some 97), (some (95, false)), (.q (.mv (.t 11)))⟩, ⟨(some 98),
  (some (95, false)), (.q (.mget (.t 96) (.t 97) false Kk.int (.pv (.sc (.bool false)))))⟩, ⟨(some 99), (some (95, false)), (.q (.not (.t 98)))⟩, ⟨(some 100), none, (.q (.pick (.t 95)
  (.c (.bool true)) (.t 99)))⟩] [] [3, 5, 10, 11, 100] [3, 77, 1018, 1025]) (.cond (.t 100) (.seq (.reg [⟨(some 2), none, (.q (.mv (.c (.bool false))))⟩] [] [2] [1023, 1128]) .ret) .skip))
  (.seq (.reg [⟨(some 12), none, (.q (.mv (.c (.int .i64 0))))⟩] [] [3, 5, 10, 11, 12] [3, 77, 1018, 1025]) (.block 2 (.loop B6_1))))) (.reg [⟨(some 82), none, (.q (.mv (.t 11)))⟩, ⟨(some 83), none,
  (.q (.bin .add (.t 82) (.c (.int .i64 1))))⟩, ⟨(some 11), none, (.q (.mv (.t 83)))⟩] [] [3, 5, 10, 11] [3, 77, 1018, 1025])))
def R6_0 : MC := (.seq (.reg [⟨(some 128), none, (.call (.f 22) [])⟩, ⟨(some 2), none, (.q (.mv (.t 128)))⟩] [] [2] [1023, 1128]) .ret)
def M6 : MC := (.seq (.reg [⟨(some 2), none, (.q (.mv (.c (.bool false))))⟩] [] [0] [1015]) (.seq (.reg [⟨(some 14), none, (.q (.mv (.t 0)))⟩, ⟨(some 15), none, (.call (.f 18) [(.t 14)])⟩, ⟨(some 0),
  none, (.q (.mv (.t 15)))⟩] [] [0] [1015]) (.seq (.reg [⟨(some 17), none, (.q (.mv (.t 0)))⟩, ⟨(some 18), none, (.call (.f 20) [(.t 17), (.c (.int .i64 200))])⟩, ⟨(some 16), none,
  (.q (.mv (.t 18)))⟩, ⟨(some 19), none, (.q (.ext (.t 16) 0))⟩, ⟨(some 20), none, (.q (.ext (.t 16) 1))⟩, ⟨(some 3), none, (.alloc [.e0, .e0, .e0])⟩, ⟨none, none, (.st (.t 3) (.t 19) 3)⟩, ⟨(some 4),
  none, (.q (.mv (.t 20)))⟩] [] [0, 3, 4] [3, 1015, 1018]) (.seq (.seq (.reg [⟨(some 21), none, (.q (.mv (.t 4)))⟩, ⟨(some 22), none, (.q (.bin .neq (.t 21) (.c (.int .i64 0))))⟩] [] [0, 3, 22] [3,
  1015, 1018]) (.cond (.t 22) (.seq (.reg [⟨(some 23), none, (.call (.f 22) [])⟩, ⟨(some 2), none, (.q (.mv (.t 23)))⟩] [] [2] [1023, 1128]) .ret) .skip)) (.seq (.reg [⟨(some 24), none,
  (.q (.ld (.t 3) 3 true))⟩, ⟨(some 25), none, (.call (.f 25) [(.t 24)])⟩, ⟨(some 5), none, (.q (.mv (.t 25)))⟩] [] [0, 3, 5] [3, 1015, 1018, 1025]) (.seq (.reg [⟨(some 27), none, (.q (.mv (.t 0)))⟩,
  ⟨(some 28), none, (.q (.mv (.t 5)))⟩, ⟨(some 29), none, (.call (.f 20) [(.t 27), (.t 28)])⟩, ⟨(some 26), none, (.q (.mv (.t 29)))⟩, ⟨(some 30), none, (.q (.ext (.t 26) 0))⟩, ⟨(some 31), none,
  (.q (.ext (.t 26) 1))⟩, ⟨(some 6), none, (.alloc [.e0, .e0, .e0])⟩, ⟨none, none, (.st (.t 6) (.t 30) 3)⟩, ⟨(some 7), none, (.q (.mv (.t 31)))⟩] [] [0, 3, 5, 6, 7] [3, 6, 1015, 1018, 1025, 1029])
  (.seq (.reg [⟨(some 33), none, (.q (.mv (.t 0)))⟩, ⟨(some 34), none, (.q (.mv (.t 5)))⟩, ⟨(some 35), none, (.q (.bin .sub (.t 34) (.c (.int .i64 1))))⟩, ⟨(some 36), none, (.call (.f 20) [(.t 33),
  (.t 35)])⟩, ⟨(some 32), none, (.q (.mv (.t 36)))⟩, ⟨(some 37), none, (.q (.ext (.t 32) 0))⟩, ⟨(some 38), none, (.q (.ext (.t 32) 1))⟩, ⟨(some 8), none, (.alloc [.e0, .e0, .e0])⟩, ⟨none, none,
  (.st (.t 8) (.t 37) 3)⟩, ⟨(some 9), none, (.q (.mv (.t 38)))⟩] [] [3, 5, 6, 7, 9] [3, 6, 1018, 1025, 1029, 1036]) (.seq (.seq (.reg [⟨(some 39), none, (.q (.ld (.t 6) 3 true))⟩, ⟨(some 40), none,
  (.q (.ld (.t 3) 3 true))⟩, ⟨(some 41), none, (.call (.f 13) [(.t 39), (.t 40)])⟩, ⟨(some 42), none, (.q (.not (.t 41)))⟩, ⟨(some 43), none, (.q (.mv (.t 42)))⟩, ⟨(some 44), (some (43, false)),
  (.q (.mv (.t 7)))⟩, ⟨(some 45), (some (43, false)), (.q (.bin .neq (.t 44) (.c (.int .i64 0))))⟩, ⟨(some 46), none, (.q (.pick (.t 43) (.c (.bool true)) (.t 45)))⟩, ⟨(some 47), none,
  (.q (.mv (.t 46)))⟩, ⟨(some 48), (some (47, false)), (.q (.mv (.t 5)))⟩, ⟨(some 49), (some (47, false)), (.q (.bin .lss (.t 48) (.c (.int .i64 1))))⟩, ⟨(some 50), none, (.q (.pick (.t 47)
  (.c (.bool true)) (.t 49)))⟩, ⟨(some 51), none, (.q (.mv (.t 50)))⟩, ⟨(some 52), (some (51, false)), (.q (.fa (.t 3) 1))⟩, ⟨(some 53), (some (51, false)), (.q (.ld (.t 52) 1 false))⟩, ⟨(some 54),
  (some (51, false)), (.q (.len (.t 53) false))⟩, ⟨(some 55), (some (51, false)), (.q (.mv (.t 5)))⟩, ⟨(some 56), (some (51, false)), (.q (.bin .neq (.t 54) (.t 55)))⟩, ⟨(some 57), none,
  (.q (.pick (.t 51) (.c (.bool true)) (.t 56)))⟩, ⟨(some 58), none, (.q (.mv (.t 57)))⟩, ⟨(some 59), (some (58, false)), (.q (.fa (.t 3) 2))⟩, ⟨(some 60), (some (58, false)), (.q (.ld (.t 59)
  1 false))⟩, ⟨(some 61), (some (58, false)), (.q (.len (.t 60) false))⟩, ⟨(some 62), (some (58, false)), (.q (.mv (.t 5)))⟩, ⟨(some 63), (some (58, false)), (.q (.bin .neq (.t 61) (.t 62)))⟩,
  ⟨(some 64), none, (.q (.pick (.t 58) (.c (.bool true)) (.t 63)))⟩, ⟨(some 65), none, (.q (.mv (.t 64)))⟩, ⟨(some 66), (some (65, false)), (.q (.mv (.t 9)))⟩, ⟨(some 67), (some (65, false)),
  (.q (.bin .neq (.t 66) (.c (.int .i64 6))))⟩, ⟨(some 68), (some (65, false)), (.q (.mv (.t 67)))⟩, ⟨(some 69), (some (68, true)), (.q (.mv (.t 5)))⟩, ⟨(some 70), (some (68, true)),
  (.q (.bin .gtr (.t 69) (.c (.int .i64 1))))⟩, ⟨(some 71), (some (68, true)), (.q (.mv (.t 70)))⟩, ⟨(some 72), (some (71, false)), (.q (.mv (.t 9)))⟩, ⟨(some 73), (some (71, false)),
  (.q (.bin .neq (.t 72) (.c (.int .i64 1))))⟩, ⟨(some 74), (some (68, true)), (.q (.pick (.t 71) (.c (.bool true)) (.t 73)))⟩, ⟨(some 75), (some (65, false)), (.q (.pick (.t 68) (.t 74)
  (.c (.bool false))))⟩, ⟨(some 76), none, (.q (.pick (.t 65) (.c (.bool true)) (.t 75)))⟩] [] [3, 5, 76] [3, 1018, 1025, 1029, 1036, 1041]) (.cond (.t 76) (.seq (.reg [⟨(some 2), none,
  (.q (.mv (.c (.bool false))))⟩] [] [2] [1023, 1128]) .ret) .skip)) (.seq (.reg [⟨(some 77), none, .mkm⟩, ⟨none, none, (.mset (.t 77) (.c (.int .i64 0)) (.c (.bool true)) Kk.int)⟩, ⟨(some 78), none,
  (.q (.mv (.t 77)))⟩, ⟨(some 10), none, (.q (.mv (.t 78)))⟩] [] [3, 5, 10] [3, 77, 1018, 1025]) (.seq (.seq (.reg [⟨(some 11), none, (.q (.mv (.c (.int .i64 0))))⟩] [] [3, 5, 10, 11] [3, 77, 1018,
  1025]) (.block 0 (.loop B6_0))) R6_0))))))))))
theorem mc6 : ofCode Tryd.prog [] Tryd.f6.ntmps [(0, ⟨[0], [1015], [], 0, [], none⟩),
    (1, ⟨[0], [1015], [], 0, [], none⟩),
    (2, ⟨[0, 3, 4], [3, 1015, 1018], [], 0, [], none⟩),
    (3, ⟨[0, 3, 22], [3, 1015, 1018], [], 0, [], none⟩),
    (4, ⟨[2], [1023, 1128], [], 0, [], none⟩),
    (5, ⟨[0, 3, 5], [3, 1015, 1018, 1025], [], 0, [], none⟩),
    (6, ⟨[0, 3, 5, 6, 7], [3, 6, 1015, 1018, 1025, 1029], [], 0, [], none⟩),
    (7, ⟨[3, 5, 6, 7, 9], [3, 6, 1018, 1025, 1029, 1036], [], 0, [], none⟩),
    (8, ⟨[3, 5, 76], [3, 1018, 1025, 1029, 1036, 1041], [], 0, [], none⟩),
    (9, ⟨[2], [1023, 1128], [], 0, [], none⟩),
    (10, ⟨[3, 5, 10], [3, 77, 1018, 1025], [], 0, [], none⟩),
    (11, ⟨[3, 5, 10, 11], [3, 77, 1018, 1025], [], 0, [], none⟩),
    (12, ⟨[3, 5, 10, 11, 81], [3, 77, 1018, 1025], [], 0, [], none⟩),
    (13, ⟨[3, 5, 10, 11], [3, 77, 1018, 1025], [], 0, [], none⟩),
    (14, ⟨[3, 5, 10, 11, 100], [3, 77, 1018, 1025], [(0, 130107), (1, 130106), (2, 130108), (3, 130104), (4, 130096), (5, 130080), (6, 131008), (7, 130944), (8, 130816), (9, 130560), (10, 130048), (11, 129024), (12, 118784), (13, 122880), (14, 114688), (15, 98304), (16, 65536)], 131071, [], none⟩),
    (15, ⟨[2], [1023, 1128], [], 0, [], none⟩),
    (16, ⟨[3, 5, 10, 11, 12], [3, 77, 1018, 1025], [], 0, [], none⟩),
    (17, ⟨[3, 5, 10, 11, 12, 108], [3, 77, 1018, 1025], [], 0, [], none⟩),
    (18, ⟨[3, 5, 10, 11, 12], [3, 77, 1018, 1025], [], 0, [], none⟩),
    (19, ⟨[3, 5, 10, 11, 12, 13], [3, 77, 1018, 1025], [], 0, [], none⟩),
    (20, ⟨[3, 5, 10, 11, 12, 13, 125], [3, 77, 1018, 1025], [], 0, [], none⟩),
    (21, ⟨[2], [1023, 1128], [], 0, [], none⟩),
    (22, ⟨[3, 5, 10, 11, 12], [3, 77, 1018, 1025], [], 0, [], none⟩),
    (23, ⟨[2], [1023, 1128], [], 0, [], none⟩)] (Tryd.f6.body.getD .skip) = some M6 := by kernel_rfl
theorem Run6 {args : List PV} {v : AV} {rs : List (Nat × List PV)} (ids : List Bool) (h : args.length ≤ 129) (hv : run Tryd.prog (retK [RV.tmp 2] ids v rs) M6 [] ⟨entry 0 args, []⟩) : Fn Tryd.prog 6 args v rs :=
  Fn_run ids (by kernel_rfl) Tryd.func6 (by decide) rfl mc6 (by kernel_rfl) (by rw [Tryd.ntmps6]; exact h) (by rw [Tryd.ntmps6]; decide) hv

/-- 'trystref07.Same' -/
def B13_0 : MC := (.seq (.seq (.reg [⟨(some 31), none, (.q (.mv (.t 5)))⟩, ⟨(some 32), none, (.q (.fa (.t 2) 1))⟩, ⟨(some 33), none, (.q (.ld (.t 32) 1 false))⟩, ⟨(some 34), none, (.q (.len (.t 33)
  false))⟩, ⟨(some 35), none, (.q (.bin .lss (.t 31) (.t 34)))⟩] [] [2, 3, 5, 35] [2, 3]) (.cond (.t 35) .skip (.exit 0))) (.seq (.block 1 (.seq (.reg [⟨(some 38), none, (.q (.fa (.t 2) 1))⟩,
  ⟨(some 39), none, (.q (.ld (.t 38) 1 false))⟩, ⟨(some 40), none, (.q (.mv (.t 5)))⟩, ⟨(some 41), none, (.q (.ia (.t 39) (.t 40) 1))⟩, ⟨(some 42), none, (.q (.ld (.t 41) 1 false))⟩, ⟨(some 43), none,
  (.q (.fa (.t 3) 1))⟩, ⟨(some 44), none, (.q (.ld (.t 43) 1 false))⟩, ⟨(some 45), none, (.q (.mv (.t 5)))⟩, ⟨(some 46), none, (.q (.ia (.t 44) (.t 45) 1))⟩, ⟨(some 47), none, (.q (.ld (.t 46)
  1 false))⟩, ⟨(some 48), none, (.call (.f 23) [(.t 42), (.t 47)])⟩, ⟨(some 49), none, (.q (.not (.t 48)))⟩] [] [2, 3, 5, 49] [2, 3, 1048]) (.cond (.t 49) (.seq (.reg [⟨(some 4), none,
  (.q (.mv (.c (.bool false))))⟩] [] [4] []) .ret) .skip))) (.reg [⟨(some 36), none, (.q (.mv (.t 5)))⟩, ⟨(some 37), none, (.q (.bin .add (.t 36) (.c (.int .i64 1))))⟩, ⟨(some 5), none,
  (.q (.mv (.t 37)))⟩] [] [2, 3, 5] [2, 3])))
def B13_1 : MC := (.seq (.seq (.reg [⟨(some 50), none, (.q (.mv (.t 6)))⟩, ⟨(some 51), none, (.q (.fa (.t 2) 2))⟩, ⟨(some 52), none, (.q (.ld (.t 51) 1 false))⟩, ⟨(some 53), none, (.q (.len (.t 52)
  false))⟩, ⟨(some 54), none, (.q (.bin .lss (.t 50) (.t 53)))⟩] [] [2, 3, 6, 54] [2, 3]) (.cond (.t 54) .skip (.exit 2))) (.seq (.block 3 (.seq (.reg [⟨(some 57), none, (.q (.fa (.t 2) 2))⟩,
  ⟨(some 58), none, (.q (.ld (.t 57) 1 false))⟩, ⟨(some 59), none, (.q (.mv (.t 6)))⟩, ⟨(some 60), none, (.q (.ia (.t 58) (.t 59) 1))⟩, ⟨(some 61), none, (.q (.ld (.t 60) 1 false))⟩, ⟨(some 62), none,
  (.q (.fa (.t 3) 2))⟩, ⟨(some 63), none, (.q (.ld (.t 62) 1 false))⟩, ⟨(some 64), none, (.q (.mv (.t 6)))⟩, ⟨(some 65), none, (.q (.ia (.t 63) (.t 64) 1))⟩, ⟨(some 66), none, (.q (.ld (.t 65)
  1 false))⟩, ⟨(some 67), none, (.call (.f 23) [(.t 61), (.t 66)])⟩, ⟨(some 68), none, (.q (.not (.t 67)))⟩] [] [2, 3, 6, 68] [2, 3, 1067]) (.cond (.t 68) (.seq (.reg [⟨(some 4), none,
  (.q (.mv (.c (.bool false))))⟩] [] [4] []) .ret) .skip))) (.reg [⟨(some 55), none, (.q (.mv (.t 6)))⟩, ⟨(some 56), none, (.q (.bin .add (.t 55) (.c (.int .i64 1))))⟩, ⟨(some 6), none,
  (.q (.mv (.t 56)))⟩] [] [2, 3, 6] [2, 3])))
def R13_1 : MC := (.seq (.reg [⟨(some 4), none, (.q (.mv (.c (.bool true))))⟩] [] [4] []) .ret)
def R13_0 : MC := (.seq (.seq (.reg [⟨(some 6), none, (.q (.mv (.c (.int .i64 0))))⟩] [] [2, 3, 6] [2, 3]) (.block 2 (.loop B13_1))) R13_1)
def M13 : MC := (.seq (.reg [⟨(some 2), none, (.box (.t 0))⟩, ⟨(some 3), none, (.box (.t 1))⟩, ⟨(some 4), none, (.q (.mv (.c (.bool false))))⟩] [] [2, 3] [2, 3]) (.seq (.seq (.reg [⟨(some 7), none,
  (.q (.fa (.t 2) 0))⟩, ⟨(some 8), none, (.q (.ld (.t 7) 1 false))⟩, ⟨(some 9), none, (.q (.fa (.t 3) 0))⟩, ⟨(some 10), none, (.q (.ld (.t 9) 1 false))⟩, ⟨(some 11), none, (.call (.f 33) [(.t 8),
  (.t 10)])⟩, ⟨(some 12), none, (.q (.not (.t 11)))⟩, ⟨(some 13), none, (.q (.mv (.t 12)))⟩, ⟨(some 14), (some (13, false)), (.q (.fa (.t 2) 1))⟩, ⟨(some 15), (some (13, false)), (.q (.ld (.t 14)
  1 false))⟩, ⟨(some 16), (some (13, false)), (.q (.len (.t 15) false))⟩, ⟨(some 17), (some (13, false)), (.q (.fa (.t 3) 1))⟩, ⟨(some 18), (some (13, false)), (.q (.ld (.t 17) 1 false))⟩, ⟨(some 19),
  (some (13, false)), (.q (.len (.t 18) false))⟩, ⟨(some 20), (some (13, false)), (.q (.bin .neq (.t 16) (.t 19)))⟩, ⟨(some 21), none, (.q (.pick (.t 13) (.c (.bool true)) (.t 20)))⟩, ⟨(some 22),
  none, (.q (.mv (.t 21)))⟩, ⟨(some 23), (some (22, false)), (.q (.fa (.t 2) 2))⟩, ⟨(some 24), (some (22, false)), (.q (.ld (.t 23) 1 false))⟩, ⟨(some 25), (some (22, false)), (.q (.len (.t 24)
  false))⟩, ⟨(some 26), (some (22, false)), (.q (.fa (.t 3) 2))⟩, ⟨(some 27), (some (22, false)), (.q (.ld (.t 26) 1 false))⟩, ⟨(some 28), (some (22, false)), (.q (.len (.t 27) false))⟩, ⟨(some 29),
  (some (22, false)), (.q (.bin .neq (.t 25) (.t 28)))⟩, ⟨(some 30), none, (.q (.pick (.t 22) (.c (.bool true)) (.t 29)))⟩] [] [2, 3, 30] [2, 3, 1011]) (.cond (.t 30) (.seq (.reg [⟨(some 4), none,
  (.q (.mv (.c (.bool false))))⟩] [] [4] []) .ret) .skip)) (.seq (.seq (.reg [⟨(some 5), none, (.q (.mv (.c (.int .i64 0))))⟩] [] [2, 3, 5] [2, 3]) (.block 0 (.loop B13_0))) R13_0)))
theorem mc13 : ofCode Tryd.prog [] Tryd.f13.ntmps [(0, ⟨[2, 3], [2, 3], [], 0, [], none⟩),
    (1, ⟨[2, 3, 30], [2, 3, 1011], [], 0, [], none⟩),
    (2, ⟨[4], [], [], 0, [], none⟩),
    (3, ⟨[2, 3, 5], [2, 3], [], 0, [], none⟩),
    (4, ⟨[2, 3, 5, 35], [2, 3], [], 0, [], none⟩),
    (5, ⟨[2, 3, 5], [2, 3], [], 0, [], none⟩),
    (6, ⟨[2, 3, 5, 49], [2, 3, 1048], [(0, 3099), (1, 3098), (2, 3100), (3, 3096), (4, 3088), (5, 3936), (6, 3904), (7, 3968), (8, 3840), (9, 3584), (10, 0), (11, 2048)], 4095, [], none⟩),
    (7, ⟨[4], [], [], 0, [], none⟩),
    (8, ⟨[2, 3, 6], [2, 3], [], 0, [], none⟩),
    (9, ⟨[2, 3, 6, 54], [2, 3], [], 0, [], none⟩),
    (10, ⟨[2, 3, 6], [2, 3], [], 0, [], none⟩),
    (11, ⟨[2, 3, 6, 68], [2, 3, 1067], [(0, 3099), (1, 3098), (2, 3100), (3, 3096), (4, 3088), (5, 3936), (6, 3904), (7, 3968), (8, 3840), (9, 3584), (10, 0), (11, 2048)], 4095, [], none⟩),
    (12, ⟨[4], [], [], 0, [], none⟩),
    (13, ⟨[4], [], [], 0, [], none⟩)] (Tryd.f13.body.getD .skip) = some M13 := by kernel_rfl
theorem Run13 {args : List PV} {v : AV} {rs : List (Nat × List PV)} (ids : List Bool) (h : args.length ≤ 69) (hv : run Tryd.prog (retK [RV.tmp 4] ids v rs) M13 [] ⟨entry 0 args, []⟩) : Fn Tryd.prog 13 args v rs :=
  Fn_run ids (by kernel_rfl) Tryd.func13 (by decide) rfl mc13 (by kernel_rfl) (by rw [Tryd.ntmps13]; exact h) (by rw [Tryd.ntmps13]; decide) hv

end Go.Vc

namespace Go.Vc
open Go.Proofs
set_option linter.unusedSimpArgs false
set_option linter.unusedVariables false

/-! ## DfaBounds -/
theorem wf_pNsL (l : List (List Nat)) : WfL 1 (l.map pNs) := wf_pNs l
theorem fn13t (d : DF) (h : d.Sm) : Fn Tryd.prog 13 [pDf d, pDf d] (.pv (pB true)) [] := by
  have h1 := h.s
  have h2 := h.n
  have h3 := h.m
  have h4 := h.ns
  have h5 := h.ds
  refine Run13 [] (by simp) ?_
  simp only [go_sem, Nat.reduceEqDiff, Nat.reduceBEq, Nat.reduceAdd, Nat.reduceMul, Nat.reduceSub, Nat.reduceLeDiff, Nat.reduceLT, reduceIte, reduceCtorEq, Int.reduceToNat, Int.reduceLE, Int.reduceLT, Int.reduceNeg, Bool.not_not, and_self, Bool.and_eq_false_iff, Int.cast_ofNat_Int, Int.reduceAdd, Int.reduceSub, Int.reduceMul, Int.reduceEq, Int.reduceNe, M13]
  refine runR_callf (by simp only [go_sem, Nat.reduceEqDiff, Nat.reduceBEq, Nat.reduceAdd, Nat.reduceMul, Nat.reduceSub, Nat.reduceLeDiff, Nat.reduceLT, reduceIte, reduceCtorEq, Int.reduceToNat, Int.reduceLE, Int.reduceLT, Int.reduceNeg, Bool.not_not, and_self, Bool.and_eq_false_iff, Int.cast_ofNat_Int, Int.reduceAdd, Int.reduceSub, Int.reduceMul, Int.reduceEq, Int.reduceNe]) (by simp only [go_sem, Nat.reduceEqDiff, Nat.reduceBEq, Nat.reduceAdd, Nat.reduceMul, Nat.reduceSub, Nat.reduceLeDiff, Nat.reduceLT, reduceIte, reduceCtorEq, Int.reduceToNat, Int.reduceLE, Int.reduceLT, Int.reduceNeg, Bool.not_not, and_self, Bool.and_eq_false_iff, Int.cast_ofNat_Int, Int.reduceAdd, Int.reduceSub, Int.reduceMul, Int.reduceEq, Int.reduceNe] <;> rfl) (fn33t d.signs (by omega)) ⟨rfl, trivial⟩ trivial ?_
  simp only [go_sem, Nat.reduceEqDiff, Nat.reduceBEq, Nat.reduceAdd, Nat.reduceMul, Nat.reduceSub, Nat.reduceLeDiff, Nat.reduceLT, reduceIte, reduceCtorEq, Int.reduceToNat, Int.reduceLE, Int.reduceLT, Int.reduceNeg, Bool.not_not, and_self, Bool.and_eq_false_iff, Int.cast_ofNat_Int, Int.reduceAdd, Int.reduceSub, Int.reduceMul, Int.reduceEq, Int.reduceNe]
  refine run_loopN (T := Nat) [2, 3, 5] [2, 3] (fun i => ⟨[(2, .ptr 2 0), (3, .ptr 3 0), (5, .pv (pI i))], [(2, .box [.pv (ss d.signs), .pv (.lst (d.next.map ints)), .pv (.lst (d.done.map pNs))]), (3, .box [.pv (ss d.signs), .pv (.lst (d.next.map ints)), .pv (.lst (d.done.map pNs))])]⟩)
    (fun i => i ≤ d.next.length) (fun i => d.next.length - i) 0 rfl (Nat.zero_le _) ?_
  intro i hi
  by_cases hlt : i < d.next.length
  · have hl := h4 _ (List.getElem_mem hlt)
    simp only [go_sem, Nat.reduceEqDiff, Nat.reduceBEq, Nat.reduceAdd, Nat.reduceMul, Nat.reduceSub, Nat.reduceLeDiff, Nat.reduceLT, reduceIte, reduceCtorEq, Int.reduceToNat, Int.reduceLE, Int.reduceLT, Int.reduceNeg, Bool.not_not, and_self, Bool.and_eq_false_iff, Int.cast_ofNat_Int, Int.reduceAdd, Int.reduceSub, Int.reduceMul, Int.reduceEq, Int.reduceNe, B13_0, show (i : Int) < (d.next.length : Int) by omega, wf_rows, getD_map hlt]
    refine runR_callf (by simp only [go_sem, Nat.reduceEqDiff, Nat.reduceBEq, Nat.reduceAdd, Nat.reduceMul, Nat.reduceSub, Nat.reduceLeDiff, Nat.reduceLT, reduceIte, reduceCtorEq, Int.reduceToNat, Int.reduceLE, Int.reduceLT, Int.reduceNeg, Bool.not_not, and_self, Bool.and_eq_false_iff, Int.cast_ofNat_Int, Int.reduceAdd, Int.reduceSub, Int.reduceMul, Int.reduceEq, Int.reduceNe]) (by simp only [go_sem, Nat.reduceEqDiff, Nat.reduceBEq, Nat.reduceAdd, Nat.reduceMul, Nat.reduceSub, Nat.reduceLeDiff, Nat.reduceLT, reduceIte, reduceCtorEq, Int.reduceToNat, Int.reduceLE, Int.reduceLT, Int.reduceNeg, Bool.not_not, and_self, Bool.and_eq_false_iff, Int.cast_ofNat_Int, Int.reduceAdd, Int.reduceSub, Int.reduceMul, Int.reduceEq, Int.reduceNe] <;> rfl) (fn23t d.next[i] (by omega)) ⟨rfl, trivial⟩ trivial ?_
    simp only [go_sem, Nat.reduceEqDiff, Nat.reduceBEq, Nat.reduceAdd, Nat.reduceMul, Nat.reduceSub, Nat.reduceLeDiff, Nat.reduceLT, reduceIte, reduceCtorEq, Int.reduceToNat, Int.reduceLE, Int.reduceLT, Int.reduceNeg, Bool.not_not, and_self, Bool.and_eq_false_iff, Int.cast_ofNat_Int, Int.reduceAdd, Int.reduceSub, Int.reduceMul, Int.reduceEq, Int.reduceNe]
    exact ⟨⟨by omega, by omega⟩, i + 1, rfl, hlt, by omega⟩
  · simp only [go_sem, Nat.reduceEqDiff, Nat.reduceBEq, Nat.reduceAdd, Nat.reduceMul, Nat.reduceSub, Nat.reduceLeDiff, Nat.reduceLT, reduceIte, reduceCtorEq, Int.reduceToNat, Int.reduceLE, Int.reduceLT, Int.reduceNeg, Bool.not_not, and_self, Bool.and_eq_false_iff, Int.cast_ofNat_Int, Int.reduceAdd, Int.reduceSub, Int.reduceMul, Int.reduceEq, Int.reduceNe, B13_0, R13_0, show ¬ (i : Int) < (d.next.length : Int) by omega]
    refine run_loopN (T := Nat) [2, 3, 6] [2, 3] (fun i => ⟨[(2, .ptr 2 0), (3, .ptr 3 0), (6, .pv (pI i))], [(2, .box [.pv (ss d.signs), .pv (.lst (d.next.map ints)), .pv (.lst (d.done.map pNs))]), (3, .box [.pv (ss d.signs), .pv (.lst (d.next.map ints)), .pv (.lst (d.done.map pNs))])]⟩)
      (fun i => i ≤ d.done.length) (fun i => d.done.length - i) 0 rfl (Nat.zero_le _) ?_
    intro j hj
    by_cases hjl : j < d.done.length
    · have hl := h5 _ (List.getElem_mem hjl)
      simp only [go_sem, Nat.reduceEqDiff, Nat.reduceBEq, Nat.reduceAdd, Nat.reduceMul, Nat.reduceSub, Nat.reduceLeDiff, Nat.reduceLT, reduceIte, reduceCtorEq, Int.reduceToNat, Int.reduceLE, Int.reduceLT, Int.reduceNeg, Bool.not_not, and_self, Bool.and_eq_false_iff, Int.cast_ofNat_Int, Int.reduceAdd, Int.reduceSub, Int.reduceMul, Int.reduceEq, Int.reduceNe, B13_1, show (j : Int) < (d.done.length : Int) by omega, wf_pNs, getD_map hjl]
      refine runR_callf (by simp only [go_sem, Nat.reduceEqDiff, Nat.reduceBEq, Nat.reduceAdd, Nat.reduceMul, Nat.reduceSub, Nat.reduceLeDiff, Nat.reduceLT, reduceIte, reduceCtorEq, Int.reduceToNat, Int.reduceLE, Int.reduceLT, Int.reduceNeg, Bool.not_not, and_self, Bool.and_eq_false_iff, Int.cast_ofNat_Int, Int.reduceAdd, Int.reduceSub, Int.reduceMul, Int.reduceEq, Int.reduceNe]) (by simp only [go_sem, Nat.reduceEqDiff, Nat.reduceBEq, Nat.reduceAdd, Nat.reduceMul, Nat.reduceSub, Nat.reduceLeDiff, Nat.reduceLT, reduceIte, reduceCtorEq, Int.reduceToNat, Int.reduceLE, Int.reduceLT, Int.reduceNeg, Bool.not_not, and_self, Bool.and_eq_false_iff, Int.cast_ofNat_Int, Int.reduceAdd, Int.reduceSub, Int.reduceMul, Int.reduceEq, Int.reduceNe] <;> rfl) (fn23t (toI d.done[j]) (by simp [toI]; omega)) ⟨rfl, trivial⟩ trivial ?_
      simp only [go_sem, Nat.reduceEqDiff, Nat.reduceBEq, Nat.reduceAdd, Nat.reduceMul, Nat.reduceSub, Nat.reduceLeDiff, Nat.reduceLT, reduceIte, reduceCtorEq, Int.reduceToNat, Int.reduceLE, Int.reduceLT, Int.reduceNeg, Bool.not_not, and_self, Bool.and_eq_false_iff, Int.cast_ofNat_Int, Int.reduceAdd, Int.reduceSub, Int.reduceMul, Int.reduceEq, Int.reduceNe]
      exact ⟨⟨by omega, by omega⟩, j + 1, rfl, hjl, by omega⟩
    · simp only [go_sem, Nat.reduceEqDiff, Nat.reduceBEq, Nat.reduceAdd, Nat.reduceMul, Nat.reduceSub, Nat.reduceLeDiff, Nat.reduceLT, reduceIte, reduceCtorEq, Int.reduceToNat, Int.reduceLE, Int.reduceLT, Int.reduceNeg, Bool.not_not, and_self, Bool.and_eq_false_iff, Int.cast_ofNat_Int, Int.reduceAdd, Int.reduceSub, Int.reduceMul, Int.reduceEq, Int.reduceNe, B13_1, R13_1, show ¬ (j : Int) < (d.done.length : Int) by omega]
abbrev enZ (x : Int) : PV × PV := (pI x, pB true)
theorem lkp_Z (x : Int) : ∀ ks : List Int, lkp (pI x) (ks.map enZ) = if x ∈ ks then some (pB true) else none
  | [] => rfl
  | m :: ks => by
    simp only [List.map_cons, lkp, keyEq, lkp_Z x ks]
    by_cases h : x = m
    · subst h; simp
    · simp [h]
def addZ (ks : List Int) (x : Int) : List Int := if x ∈ ks then ks else ks ++ [x]
theorem mput_Z (x : Int) : ∀ ks : List Int, mput (pI x) (pB true) (ks.map enZ) = (addZ ks x).map enZ
  | [] => rfl
  | m :: ks => by
    have ih := mput_Z x ks
    by_cases h : x = m
    · subst h; simp [mput, keyEq, addZ]
    · have h0 : mput (pI x) (pB true) ((m :: ks).map enZ) = enZ m :: mput (pI x) (pB true) (ks.map enZ) := by simp [mput, keyEq, h]
      rw [h0, ih]
      unfold addZ
      by_cases h2 : x ∈ ks
      · simp [h2]
      · simp [h, h2]
theorem like_Z (x : Int) : ∀ ks : List Int, keysLike .int (pI x) (ks.map enZ)
  | [] => trivial
  | m :: ks => by simp only [List.map_cons, keysLike, keyLike]; exact ⟨trivial, like_Z x ks⟩
theorem addZ_mem {ks : List Int} {x y : Int} : y ∈ addZ ks x ↔ y ∈ ks ∨ y = x := by
  unfold addZ
  split
  · rename_i h
    constructor
    · exact .inl
    · rintro (h1 | rfl); exact h1; exact h
  · simp
theorem addZ_len (ks : List Int) (x : Int) : (addZ ks x).length ≤ ks.length + 1 := by unfold addZ; split <;> simp
set_option maxHeartbeats 1000000 in
theorem law6 (bs : List ByteArray) (hb : bs.length ≤ 9223372036854775807) : Fn Tryd.prog 6 [ss bs] (.pv (pB true)) [] := by
  refine Run6 [] (by simp) ?_
  simp only [go_sem, Nat.reduceEqDiff, Nat.reduceBEq, Nat.reduceAdd, Nat.reduceMul, Nat.reduceSub, Nat.reduceLeDiff, Nat.reduceLT, reduceIte, reduceCtorEq, Int.reduceToNat, Int.reduceLE, Int.reduceLT, Int.reduceNeg, Bool.not_not, and_self, Bool.and_eq_false_iff, Int.cast_ofNat_Int, Int.reduceAdd, Int.reduceSub, Int.reduceMul, Int.reduceEq, Int.reduceNe, M6]
  refine runR_call (by simp only [go_sem, Nat.reduceEqDiff, Nat.reduceBEq, Nat.reduceAdd, Nat.reduceMul, Nat.reduceSub, Nat.reduceLeDiff, Nat.reduceLT, reduceIte, reduceCtorEq, Int.reduceToNat, Int.reduceLE, Int.reduceLT, Int.reduceNeg, Bool.not_not, and_self, Bool.and_eq_false_iff, Int.cast_ofNat_Int, Int.reduceAdd, Int.reduceSub, Int.reduceMul, Int.reduceEq, Int.reduceNe]) rfl (fn18 bs hb) (.inl rfl) trivial ?_
  simp only [go_sem, Nat.reduceEqDiff, Nat.reduceBEq, Nat.reduceAdd, Nat.reduceMul, Nat.reduceSub, Nat.reduceLeDiff, Nat.reduceLT, reduceIte, reduceCtorEq, Int.reduceToNat, Int.reduceLE, Int.reduceLT, Int.reduceNeg, Bool.not_not, and_self, Bool.and_eq_false_iff, Int.cast_ofNat_Int, Int.reduceAdd, Int.reduceSub, Int.reduceMul, Int.reduceEq, Int.reduceNe]
  have hl := globs7_len bs
  have hsz : ∀ b ∈ globs7 bs, b.size ≤ 1000 := fun b hb => by have := globs7_size hb; omega
  generalize globs7 bs = gl at hl hsz
  have r1 := fn20 gl 200 (by omega) hsz (by omega)
  refine runR_call (by simp only [go_sem, Nat.reduceEqDiff, Nat.reduceBEq, Nat.reduceAdd, Nat.reduceMul, Nat.reduceSub, Nat.reduceLeDiff, Nat.reduceLT, reduceIte, reduceCtorEq, Int.reduceToNat, Int.reduceLE, Int.reduceLT, Int.reduceNeg, Bool.not_not, and_self, Bool.and_eq_false_iff, Int.cast_ofNat_Int, Int.reduceAdd, Int.reduceSub, Int.reduceMul, Int.reduceEq, Int.reduceNe]) rfl (r1) (.inl rfl) trivial ?_
  rcases of_cases gl 200 with ⟨k, h⟩ | ⟨h1, h2, _⟩
  · have hok := ok_nfa (gsOk h.good)
    have hW := h.whole
    have hpos := h.pos
    have hle := h.le
    have hk2 : k ≤ 200 := by omega
    have hcont : ¬ ((k : Int) < 1) := by omega
    have r2 := fn20 gl (k : Int) (by omega) hsz (by omega)
    have e2 : ofE gl (k : Int) = 0 := by unfold ofE dfaE; rw [h.good, if_pos rfl, if_neg hcont, Int.toNat_natCast, dfaK_of hW (Nat.le_refl k)]; rfl
    have d2 : ofR gl (k : Int) = ofR gl 200 := by rw [h.r]; unfold ofR dfaR; rw [h.good, if_pos rfl, if_neg hcont, Int.toNat_natCast, dfaK_of hW (Nat.le_refl k)]; rfl
    rw [d2, e2] at r2
    have r3 := fn20 gl ((k : Int) - 1) (by omega) hsz (by omega)
    have e3 : (k = 1 ∧ ofE gl ((k : Int) - 1) = 1) ∨ ofE gl ((k : Int) - 1) = 6 := by
      by_cases h1 : k = 1
      · left
        refine ⟨h1, ?_⟩
        unfold ofE dfaE; rw [h.good, if_pos rfl, if_pos (by omega)]
      · right
        have : ((k : Int) - 1).toNat = k - 1 := by omega
        unfold ofE dfaE; rw [h.good, if_pos rfl, if_neg (by omega), this, dfaK_less hW (by omega)]; rfl
    have hsm := sm_dfa hok (k := k) (by omega)
    have r4 := fn25 (ofR gl 200)
    rw [h.e, h.r]
    rw [h.r] at r1 r2 r4
    have hnl : (dfaOf (nfaOf (gl.map cutS)) k).next.length = k := next_len
    have hdl : (dfaOf (nfaOf (gl.map cutS)) k).done.length = k := done_len
    rw [hnl] at r4
    have r5 := fn13t _ hsm
    have hsg : (dfaOf (nfaOf (gl.map cutS)) k).signs.length + 1 = (nfaOf (gl.map cutS)).wid := rfl
    have hsl := hok.signs
    have hrow : ∀ j (hj : j < (dfaOf (nfaOf (gl.map cutS)) k).next.length), (dfaOf (nfaOf (gl.map cutS)) k).next[j] = rowN (nfaOf (gl.map cutS)) ((bfsL (nfaOf (gl.map cutS)) j).getD j []) (bfsL (nfaOf (gl.map cutS)) j) (nfaOf (gl.map cutS)).wid := fun j hj => by simp [dfaOf, bfsN]
    generalize hn : nfaOf (gl.map cutS) = n at *
    generalize hd : dfaOf n k = d at *
    generalize ofR gl ((k : Int) - 1) = d3 at r3
    generalize ofE gl ((k : Int) - 1) = g3 at r3 e3
    have hwd : n.wid ≤ 161 := by unfold NF.wid; omega
    simp only [go_sem, Nat.reduceEqDiff, Nat.reduceBEq, Nat.reduceAdd, Nat.reduceMul, Nat.reduceSub, Nat.reduceLeDiff, Nat.reduceLT, reduceIte, reduceCtorEq, Int.reduceToNat, Int.reduceLE, Int.reduceLT, Int.reduceNeg, Bool.not_not, and_self, Bool.and_eq_false_iff, Int.cast_ofNat_Int, Int.reduceAdd, Int.reduceSub, Int.reduceMul, Int.reduceEq, Int.reduceNe]
    refine runR_callf (by simp only [go_sem, Nat.reduceEqDiff, Nat.reduceBEq, Nat.reduceAdd, Nat.reduceMul, Nat.reduceSub, Nat.reduceLeDiff, Nat.reduceLT, reduceIte, reduceCtorEq, Int.reduceToNat, Int.reduceLE, Int.reduceLT, Int.reduceNeg, Bool.not_not, and_self, Bool.and_eq_false_iff, Int.cast_ofNat_Int, Int.reduceAdd, Int.reduceSub, Int.reduceMul, Int.reduceEq, Int.reduceNe]) (by simp only [go_sem, Nat.reduceEqDiff, Nat.reduceBEq, Nat.reduceAdd, Nat.reduceMul, Nat.reduceSub, Nat.reduceLeDiff, Nat.reduceLT, reduceIte, reduceCtorEq, Int.reduceToNat, Int.reduceLE, Int.reduceLT, Int.reduceNeg, Bool.not_not, and_self, Bool.and_eq_false_iff, Int.cast_ofNat_Int, Int.reduceAdd, Int.reduceSub, Int.reduceMul, Int.reduceEq, Int.reduceNe] <;> rfl) (r4) ⟨rfl, trivial⟩ trivial ?_
    simp only [go_sem, Nat.reduceEqDiff, Nat.reduceBEq, Nat.reduceAdd, Nat.reduceMul, Nat.reduceSub, Nat.reduceLeDiff, Nat.reduceLT, reduceIte, reduceCtorEq, Int.reduceToNat, Int.reduceLE, Int.reduceLT, Int.reduceNeg, Bool.not_not, and_self, Bool.and_eq_false_iff, Int.cast_ofNat_Int, Int.reduceAdd, Int.reduceSub, Int.reduceMul, Int.reduceEq, Int.reduceNe]
    refine runR_call (by simp only [go_sem, Nat.reduceEqDiff, Nat.reduceBEq, Nat.reduceAdd, Nat.reduceMul, Nat.reduceSub, Nat.reduceLeDiff, Nat.reduceLT, reduceIte, reduceCtorEq, Int.reduceToNat, Int.reduceLE, Int.reduceLT, Int.reduceNeg, Bool.not_not, and_self, Bool.and_eq_false_iff, Int.cast_ofNat_Int, Int.reduceAdd, Int.reduceSub, Int.reduceMul, Int.reduceEq, Int.reduceNe]) rfl (r2) (.inl rfl) trivial ?_
    simp only [go_sem, Nat.reduceEqDiff, Nat.reduceBEq, Nat.reduceAdd, Nat.reduceMul, Nat.reduceSub, Nat.reduceLeDiff, Nat.reduceLT, reduceIte, reduceCtorEq, Int.reduceToNat, Int.reduceLE, Int.reduceLT, Int.reduceNeg, Bool.not_not, and_self, Bool.and_eq_false_iff, Int.cast_ofNat_Int, Int.reduceAdd, Int.reduceSub, Int.reduceMul, Int.reduceEq, Int.reduceNe]
    refine ⟨⟨by omega, by omega⟩, ?_⟩
    refine runR_call (by simp only [go_sem, Nat.reduceEqDiff, Nat.reduceBEq, Nat.reduceAdd, Nat.reduceMul, Nat.reduceSub, Nat.reduceLeDiff, Nat.reduceLT, reduceIte, reduceCtorEq, Int.reduceToNat, Int.reduceLE, Int.reduceLT, Int.reduceNeg, Bool.not_not, and_self, Bool.and_eq_false_iff, Int.cast_ofNat_Int, Int.reduceAdd, Int.reduceSub, Int.reduceMul, Int.reduceEq, Int.reduceNe]) rfl (r3) (.inl rfl) trivial ?_
    simp only [go_sem, Nat.reduceEqDiff, Nat.reduceBEq, Nat.reduceAdd, Nat.reduceMul, Nat.reduceSub, Nat.reduceLeDiff, Nat.reduceLT, reduceIte, reduceCtorEq, Int.reduceToNat, Int.reduceLE, Int.reduceLT, Int.reduceNeg, Bool.not_not, and_self, Bool.and_eq_false_iff, Int.cast_ofNat_Int, Int.reduceAdd, Int.reduceSub, Int.reduceMul, Int.reduceEq, Int.reduceNe]
    refine runR_callf (by simp only [go_sem, Nat.reduceEqDiff, Nat.reduceBEq, Nat.reduceAdd, Nat.reduceMul, Nat.reduceSub, Nat.reduceLeDiff, Nat.reduceLT, reduceIte, reduceCtorEq, Int.reduceToNat, Int.reduceLE, Int.reduceLT, Int.reduceNeg, Bool.not_not, and_self, Bool.and_eq_false_iff, Int.cast_ofNat_Int, Int.reduceAdd, Int.reduceSub, Int.reduceMul, Int.reduceEq, Int.reduceNe]) (by simp only [go_sem, Nat.reduceEqDiff, Nat.reduceBEq, Nat.reduceAdd, Nat.reduceMul, Nat.reduceSub, Nat.reduceLeDiff, Nat.reduceLT, reduceIte, reduceCtorEq, Int.reduceToNat, Int.reduceLE, Int.reduceLT, Int.reduceNeg, Bool.not_not, and_self, Bool.and_eq_false_iff, Int.cast_ofNat_Int, Int.reduceAdd, Int.reduceSub, Int.reduceMul, Int.reduceEq, Int.reduceNe] <;> rfl) (r5) ⟨rfl, trivial⟩ trivial ?_
    rcases e3 with ⟨hk1, rfl⟩ | rfl
    case' inl.inl => simp only [go_sem, Nat.reduceEqDiff, Nat.reduceBEq, Nat.reduceAdd, Nat.reduceMul, Nat.reduceSub, Nat.reduceLeDiff, Nat.reduceLT, reduceIte, reduceCtorEq, Int.reduceToNat, Int.reduceLE, Int.reduceLT, Int.reduceNeg, Bool.not_not, and_self, Bool.and_eq_false_iff, Int.cast_ofNat_Int, Int.reduceAdd, Int.reduceSub, Int.reduceMul, Int.reduceEq, Int.reduceNe, hnl, hdl, hcont, show ¬ (1 : Int) < (k : Int) by omega]
    case' inl.inr => simp only [go_sem, Nat.reduceEqDiff, Nat.reduceBEq, Nat.reduceAdd, Nat.reduceMul, Nat.reduceSub, Nat.reduceLeDiff, Nat.reduceLT, reduceIte, reduceCtorEq, Int.reduceToNat, Int.reduceLE, Int.reduceLT, Int.reduceNeg, Bool.not_not, and_self, Bool.and_eq_false_iff, Int.cast_ofNat_Int, Int.reduceAdd, Int.reduceSub, Int.reduceMul, Int.reduceEq, Int.reduceNe, hnl, hdl, hcont]
    all_goals
      refine run_loopN (T := Nat × List Int) [3, 5, 10, 11] [3, 77] (fun t => ⟨[(3, .ptr 3 0), (5, .pv (pI k)), (10, .mp 77), (11, .pv (pI t.1))], [(3, .box [.pv (ss d.signs), .pv (.lst (d.next.map ints)), .pv (.lst (d.done.map pNs))]), (77, .mp (t.2.map enZ))]⟩)
        (fun t => t.1 ≤ k ∧ ∀ x : Nat, x < (bfsL n t.1).length → (x : Int) ∈ t.2) (fun t => k - t.1) (0, [0]) rfl ⟨Nat.zero_le _, fun x hx => by
          have : x = 0 := by simp [bfsL] at hx; exact hx
          subst this; simp⟩ ?_
      rintro ⟨i, ks⟩ ⟨hi, hks⟩
      simp only at hi hks
      by_cases hlt : i < k
      · have hin := hW.row i hlt
        have him := hks i hin
        obtain ⟨R, hR⟩ : ∃ R, R = rowN n ((bfsL n i).getD i []) (bfsL n i) n.wid := ⟨_, rfl⟩
        have hin2 : i < d.next.length := by omega
        have hRg : d.next[i] = R := by rw [hrow i hin2, hR]
        have hRl : R.length = n.wid := by rw [hR]; exact rowN_len _ _ _ _
        have hbd : ∀ a, a < n.wid → -1 ≤ R.getD a 0 ∧ R.getD a 0 < (k : Int) := fun a ha => by rw [hR]; exact row_bounds hW hlt ha
        have hnw : ∀ t, (bfsL n i).length ≤ t → t < (bfsL n (i + 1)).length → ∃ a, a < n.wid ∧ R.getD a 0 = (t : Int) := fun t h1 h2 => by rw [hR]; exact row_new h1 h2
        have hlk : lkp (pI (i : Int)) (ks.map enZ) = some (pB true) := by rw [lkp_Z, if_pos him]
        have hsg2 : (d.signs.length : Int) + 1 = (n.wid : Int) := by omega
        simp only [go_sem, Nat.reduceEqDiff, Nat.reduceBEq, Nat.reduceAdd, Nat.reduceMul, Nat.reduceSub, Nat.reduceLeDiff, Nat.reduceLT, reduceIte, reduceCtorEq, Int.reduceToNat, Int.reduceLE, Int.reduceLT, Int.reduceNeg, Bool.not_not, and_self, Bool.and_eq_false_iff, Int.cast_ofNat_Int, Int.reduceAdd, Int.reduceSub, Int.reduceMul, Int.reduceEq, Int.reduceNe, B6_0, show (i : Int) < (k : Int) by omega, hnl, wf_rows, getD_map hin2, hRg, hRl, hlk, like_Z, hsg2]
        refine ⟨⟨by omega, by omega⟩, ?_⟩
        refine run_loopN (T := Nat × List Int) [3, 5, 10, 11, 12] [3, 77] (fun t => ⟨[(3, .ptr 3 0), (5, .pv (pI k)), (10, .mp 77), (11, .pv (pI i)), (12, .pv (pI t.1))], [(3, .box [.pv (ss d.signs), .pv (.lst (d.next.map ints)), .pv (.lst (d.done.map pNs))]), (77, .mp (t.2.map enZ))]⟩)
          (fun t => t.1 ≤ n.wid ∧ (∀ x : Nat, x < (bfsL n i).length → (x : Int) ∈ t.2) ∧ ∀ c, c < t.1 → R.getD c 0 ∈ t.2) (fun t => n.wid - t.1) (0, ks) rfl ⟨Nat.zero_le _, hks, fun c hc => by simp at hc⟩ ?_
        rintro ⟨s, ls⟩ ⟨hs, hls, hrs⟩
        simp only at hs hls hrs
        by_cases hsl2 : s < n.wid
        · obtain ⟨hb1, hb2⟩ := hbd s hsl2
          have hsR : s < R.length := by omega
          have hgR : R.getD s 0 = R[s] := by simp [List.getD_eq_getElem?_getD, hsR]
          rw [hgR] at hb1 hb2
          simp only [go_sem, Nat.reduceEqDiff, Nat.reduceBEq, Nat.reduceAdd, Nat.reduceMul, Nat.reduceSub, Nat.reduceLeDiff, Nat.reduceLT, reduceIte, reduceCtorEq, Int.reduceToNat, Int.reduceLE, Int.reduceLT, Int.reduceNeg, Bool.not_not, and_self, Bool.and_eq_false_iff, Int.cast_ofNat_Int, Int.reduceAdd, Int.reduceSub, Int.reduceMul, Int.reduceEq, Int.reduceNe, B6_1, show (i : Int) < (k : Int) by omega, hnl, wf_rows, getD_map hin2, hRg, hRl, show (s : Int) < (n.wid : Int) by omega, wf_ints, getD_map hsR, show ¬ R[s] < -1 by omega, show ¬ (k : Int) ≤ R[s] by omega, mput_Z, like_Z]
          refine ⟨⟨by omega, by omega⟩, (s + 1, addZ ls R[s]), rfl, ⟨hsl2, fun x hx => addZ_mem.2 (.inl (hls x hx)), fun c hc => ?_⟩, by simp only; omega⟩
          rcases Nat.lt_or_ge c s with h1 | h1
          · exact addZ_mem.2 (.inl (hrs c h1))
          · obtain rfl : c = s := by omega
            rw [hgR]
            exact addZ_mem.2 (.inr rfl)
        · have hse : s = n.wid := by omega
          subst hse
          simp only [go_sem, Nat.reduceEqDiff, Nat.reduceBEq, Nat.reduceAdd, Nat.reduceMul, Nat.reduceSub, Nat.reduceLeDiff, Nat.reduceLT, reduceIte, reduceCtorEq, Int.reduceToNat, Int.reduceLE, Int.reduceLT, Int.reduceNeg, Bool.not_not, and_self, Bool.and_eq_false_iff, Int.cast_ofNat_Int, Int.reduceAdd, Int.reduceSub, Int.reduceMul, Int.reduceEq, Int.reduceNe, B6_1, show (i : Int) < (k : Int) by omega, hnl, wf_rows, getD_map hin2, hRg, hRl, show ¬ (n.wid : Int) < (n.wid : Int) by omega]
          refine ⟨⟨by omega, by omega⟩, (i + 1, ls), rfl, ⟨hlt, fun x hx => ?_⟩, by simp only; omega⟩
          simp only at hx
          rcases Nat.lt_or_ge x (bfsL n i).length with h1 | h1
          · exact hls x h1
          · obtain ⟨a, ha, he⟩ := hnw x h1 hx
            rw [← he]
            exact hrs a ha
      · have hie : i = k := by omega
        subst hie
        simp only [go_sem, Nat.reduceEqDiff, Nat.reduceBEq, Nat.reduceAdd, Nat.reduceMul, Nat.reduceSub, Nat.reduceLeDiff, Nat.reduceLT, reduceIte, reduceCtorEq, Int.reduceToNat, Int.reduceLE, Int.reduceLT, Int.reduceNeg, Bool.not_not, and_self, Bool.and_eq_false_iff, Int.cast_ofNat_Int, Int.reduceAdd, Int.reduceSub, Int.reduceMul, Int.reduceEq, Int.reduceNe, B6_0, R6_0, show ¬ (i : Int) < (i : Int) by omega]
        refine runR_callf (by simp only [go_sem, Nat.reduceEqDiff, Nat.reduceBEq, Nat.reduceAdd, Nat.reduceMul, Nat.reduceSub, Nat.reduceLeDiff, Nat.reduceLT, reduceIte, reduceCtorEq, Int.reduceToNat, Int.reduceLE, Int.reduceLT, Int.reduceNeg, Bool.not_not, and_self, Bool.and_eq_false_iff, Int.cast_ofNat_Int, Int.reduceAdd, Int.reduceSub, Int.reduceMul, Int.reduceEq, Int.reduceNe]) (by simp only [go_sem, Nat.reduceEqDiff, Nat.reduceBEq, Nat.reduceAdd, Nat.reduceMul, Nat.reduceSub, Nat.reduceLeDiff, Nat.reduceLT, reduceIte, reduceCtorEq, Int.reduceToNat, Int.reduceLE, Int.reduceLT, Int.reduceNeg, Bool.not_not, and_self, Bool.and_eq_false_iff, Int.cast_ofNat_Int, Int.reduceAdd, Int.reduceSub, Int.reduceMul, Int.reduceEq, Int.reduceNe] <;> rfl) (fn22) ⟨rfl, trivial⟩ trivial ?_
        simp only [go_sem, Nat.reduceEqDiff, Nat.reduceBEq, Nat.reduceAdd, Nat.reduceMul, Nat.reduceSub, Nat.reduceLeDiff, Nat.reduceLT, reduceIte, reduceCtorEq, Int.reduceToNat, Int.reduceLE, Int.reduceLT, Int.reduceNeg, Bool.not_not, and_self, Bool.and_eq_false_iff, Int.cast_ofNat_Int, Int.reduceAdd, Int.reduceSub, Int.reduceMul, Int.reduceEq, Int.reduceNe]
  · rw [h2]
    generalize ofE gl 200 = e2 at h1
    simp only [go_sem, Nat.reduceEqDiff, Nat.reduceBEq, Nat.reduceAdd, Nat.reduceMul, Nat.reduceSub, Nat.reduceLeDiff, Nat.reduceLT, reduceIte, reduceCtorEq, Int.reduceToNat, Int.reduceLE, Int.reduceLT, Int.reduceNeg, Bool.not_not, and_self, Bool.and_eq_false_iff, Int.cast_ofNat_Int, Int.reduceAdd, Int.reduceSub, Int.reduceMul, Int.reduceEq, Int.reduceNe, h1]
    refine runR_callf (by simp only [go_sem, Nat.reduceEqDiff, Nat.reduceBEq, Nat.reduceAdd, Nat.reduceMul, Nat.reduceSub, Nat.reduceLeDiff, Nat.reduceLT, reduceIte, reduceCtorEq, Int.reduceToNat, Int.reduceLE, Int.reduceLT, Int.reduceNeg, Bool.not_not, and_self, Bool.and_eq_false_iff, Int.cast_ofNat_Int, Int.reduceAdd, Int.reduceSub, Int.reduceMul, Int.reduceEq, Int.reduceNe]) (by simp only [go_sem, Nat.reduceEqDiff, Nat.reduceBEq, Nat.reduceAdd, Nat.reduceMul, Nat.reduceSub, Nat.reduceLeDiff, Nat.reduceLT, reduceIte, reduceCtorEq, Int.reduceToNat, Int.reduceLE, Int.reduceLT, Int.reduceNeg, Bool.not_not, and_self, Bool.and_eq_false_iff, Int.cast_ofNat_Int, Int.reduceAdd, Int.reduceSub, Int.reduceMul, Int.reduceEq, Int.reduceNe] <;> rfl) (fn22) ⟨rfl, trivial⟩ trivial ?_
    simp only [go_sem, Nat.reduceEqDiff, Nat.reduceBEq, Nat.reduceAdd, Nat.reduceMul, Nat.reduceSub, Nat.reduceLeDiff, Nat.reduceLT, reduceIte, reduceCtorEq, Int.reduceToNat, Int.reduceLE, Int.reduceLT, Int.reduceNeg, Bool.not_not, and_self, Bool.and_eq_false_iff, Int.cast_ofNat_Int, Int.reduceAdd, Int.reduceSub, Int.reduceMul, Int.reduceEq, Int.reduceNe]
end Go.Vc
