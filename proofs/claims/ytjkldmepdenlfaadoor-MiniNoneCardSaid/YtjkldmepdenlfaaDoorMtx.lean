/- A part of the proofs of the seat YtjkldmepdenlfaaDoor: the contracts of functions, each proved out of its code. -/
import Derived.Test.YtjkldmepdenlfaaDoorVf
import Derived.Test.YtjkldmepdenlfaaDoorVh
import Derived.Test.YtjkldmepdenlfaaDoorProg
import Derived.Test.YtjkldmepdenlfaaDoorMtf
import Derived.Test.YtjkldmepdenlfaaDoorMtc
import Derived.Test.YtjkldmepdenlfaaDoorDc
namespace Go.Vc
open Go.Proofs
set_option maxRecDepth 100000

/-- 'trystref08.Apart' -/
def B16_1 : MC := (.seq (.seq (.reg [⟨(some 30), none, (.q (.mv (.t 8)))⟩, ⟨(some 31), none, (.q (.mv (.t 5)))⟩, ⟨(some 32), none, (.q (.bin .lss (.t 30) (.t 31)))⟩] [] [1, 2, 5, 6, 7, 8, 32] (2 :: 29 :: famN))
  (.cond (.t 32) .skip (.exit 2))) (.seq (.block 3 (.reg [⟨(some 35), none, (.q (.mv (.t 6)))⟩, ⟨(some 36), none, (.q (.mv (.t 7)))⟩, ⟨(some 37), none, (.q (.ia (.t 35) (.t 36) 1))⟩, ⟨(some 38), none,
  (.q (.ld (.t 37) 1 false))⟩, ⟨(some 39), none, (.q (.mv (.t 8)))⟩, ⟨(some 40), none, (.q (.fa (.t 2) 2))⟩, ⟨(some 41), none, (.q (.ld (.t 40) 1 false))⟩, ⟨(some 42), none, (.q (.mv (.t 7)))⟩,
  ⟨(some 43), none, (.q (.ia (.t 41) (.t 42) 1))⟩, ⟨(some 44), none, (.q (.ld (.t 43) 1 false))⟩, ⟨(some 45), none, (.q (.fa (.t 2) 2))⟩, ⟨(some 46), none, (.q (.ld (.t 45) 1 false))⟩, ⟨(some 47),
  none, (.q (.mv (.t 8)))⟩, ⟨(some 48), none, (.q (.ia (.t 46) (.t 47) 1))⟩, ⟨(some 49), none, (.q (.ld (.t 48) 1 false))⟩, ⟨(some 50), none, (.call (.f 23) [(.t 44), (.t 49)])⟩, ⟨(some 51), none,
  (.q (.not (.t 50)))⟩, ⟨(some 52), none, (.q (.ia (.t 38) (.t 39) 1))⟩, ⟨none, none, (.st (.t 52) (.t 51) 1)⟩] [] [1, 2, 5, 6, 7, 8] (2 :: 29 :: famN))) (.reg [⟨(some 33), none, (.q (.mv (.t 8)))⟩, ⟨(some 34),
  none, (.q (.bin .add (.t 33) (.c (.int .i64 1))))⟩, ⟨(some 8), none, (.q (.mv (.t 34)))⟩] [] [1, 2, 5, 6, 7, 8] (2 :: 29 :: famN))))
def B16_0 : MC := (.seq (.seq (.reg [⟨(some 20), none, (.q (.mv (.t 7)))⟩, ⟨(some 21), none, (.q (.mv (.t 5)))⟩, ⟨(some 22), none, (.q (.bin .lss (.t 20) (.t 21)))⟩] [] [1, 2, 5, 6, 7, 22] (2 :: 29 :: famN))
  (.cond (.t 22) .skip (.exit 0))) (.seq (.block 1 (.seq (.reg [⟨(some 25), none, (.q (.mv (.t 6)))⟩, ⟨(some 26), none, (.q (.mv (.t 5)))⟩, ⟨(some 27), none, (.mks (.t 26) (.t 26)
  1 1 (.sc (.bool false)))⟩, ⟨(some 28), none, (.lits [(.t 27)] 1)⟩, ⟨(some 29), none, (.appx (.t 25) (.t 28) 24)⟩, ⟨(some 6), none, (.q (.mv (.t 29)))⟩] [] [1, 2, 5, 6, 7] (2 :: 27 :: 29 :: famN))
  (.seq (.reg [⟨(some 8), none, (.q (.mv (.c (.int .i64 0))))⟩] [] [1, 2, 5, 6, 7, 8] (2 :: 27 :: 29 :: famN)) (.block 2 (.loop B16_1))))) (.reg [⟨(some 23), none, (.q (.mv (.t 7)))⟩, ⟨(some 24), none,
  (.q (.bin .add (.t 23) (.c (.int .i64 1))))⟩, ⟨(some 7), none, (.q (.mv (.t 24)))⟩] [] [1, 2, 5, 6, 7] (2 :: 29 :: famN))))
def B16_5 : MC := (.seq (.seq (.reg [⟨(some 64), none, (.q (.mv (.t 12)))⟩, ⟨(some 65), none, (.q (.fa (.t 2) 1))⟩, ⟨(some 66), none, (.q (.ld (.t 65) 1 false))⟩, ⟨(some 67), none,
  (.q (.mv (.t 10)))⟩, ⟨(some 68), none, (.q (.ia (.t 66) (.t 67) 1))⟩, ⟨(some 69), none, (.q (.ld (.t 68) 1 false))⟩, ⟨(some 70), none, (.q (.len (.t 69) false))⟩, ⟨(some 71), none,
  (.q (.bin .lss (.t 64) (.t 70)))⟩, ⟨(some 72), none, (.q (.mv (.t 71)))⟩, ⟨(some 73), (some (72, true)), (.q (.mv (.t 6)))⟩, ⟨(some 74), (some (72, true)), (.q (.mv (.t 10)))⟩, ⟨(some 75),
  (some (72, true)), (.q (.ia (.t 73) (.t 74) 1))⟩, ⟨(some 76), (some (72, true)), (.q (.ld (.t 75) 1 false))⟩, ⟨(some 77), (some (72, true)), (.q (.mv (.t 11)))⟩, ⟨(some 78), (some (72, true)),
  (.q (.ia (.t 76) (.t 77) 1))⟩, ⟨(some 79), (some (72, true)), (.q (.ld (.t 78) 1 false))⟩, ⟨(some 80), (some (72, true)), (.q (.not (.t 79)))⟩, ⟨(some 81), none, (.q (.pick (.t 72) (.t 80)
  (.c (.bool false))))⟩] [] [1, 2, 5, 6, 9, 10, 11, 12, 81] (2 :: 29 :: famN)) (.cond (.t 81) .skip (.exit 10))) (.seq (.block 11 (.seq (.reg [⟨(some 84), none, (.q (.fa (.t 2) 1))⟩, ⟨(some 85), none,
  (.q (.ld (.t 84) 1 false))⟩, ⟨(some 86), none, (.q (.mv (.t 10)))⟩, ⟨(some 87), none, (.q (.ia (.t 85) (.t 86) 1))⟩, ⟨(some 88), none, (.q (.ld (.t 87) 1 false))⟩, ⟨(some 89), none,
  (.q (.mv (.t 12)))⟩, ⟨(some 90), none, (.q (.ia (.t 88) (.t 89) 1))⟩, ⟨(some 91), none, (.q (.ld (.t 90) 1 false))⟩, ⟨(some 92), none, (.q (.fa (.t 2) 1))⟩, ⟨(some 93), none, (.q (.ld (.t 92)
  1 false))⟩, ⟨(some 94), none, (.q (.mv (.t 11)))⟩, ⟨(some 95), none, (.q (.ia (.t 93) (.t 94) 1))⟩, ⟨(some 96), none, (.q (.ld (.t 95) 1 false))⟩, ⟨(some 97), none, (.q (.mv (.t 12)))⟩, ⟨(some 98),
  none, (.q (.ia (.t 96) (.t 97) 1))⟩, ⟨(some 99), none, (.q (.ld (.t 98) 1 false))⟩, ⟨(some 13), none, (.q (.mv (.t 91)))⟩, ⟨(some 14), none, (.q (.mv (.t 99)))⟩] [] [1, 2, 5, 6, 9, 10, 11, 12, 13,
  14] (2 :: 29 :: famN)) (.seq (.reg [⟨(some 100), none, (.q (.mv (.t 13)))⟩, ⟨(some 101), none, (.q (.bin .geq (.t 100) (.c (.int .i64 0))))⟩, ⟨(some 102), none, (.q (.mv (.t 101)))⟩, ⟨(some 103), (some (102,
  true)), (.q (.mv (.t 1)))⟩, ⟨(some 104), (some (102, true)), (.q (.mv (.t 13)))⟩, ⟨(some 105), (some (102, true)), (.q (.ia (.t 103) (.t 104) 1))⟩, ⟨(some 106), (some (102, true)), (.q (.ld (.t 105)
  1 false))⟩, ⟨(some 107), none, (.q (.pick (.t 102) (.t 106) (.c (.bool false))))⟩, ⟨(some 108), none, (.q (.mv (.t 14)))⟩, ⟨(some 109), none, (.q (.bin .geq (.t 108) (.c (.int .i64 0))))⟩,
  ⟨(some 110), none, (.q (.mv (.t 109)))⟩, ⟨(some 111), (some (110, true)), (.q (.mv (.t 1)))⟩, ⟨(some 112), (some (110, true)), (.q (.mv (.t 14)))⟩, ⟨(some 113), (some (110, true)), (.q (.ia (.t 111)
  (.t 112) 1))⟩, ⟨(some 114), (some (110, true)), (.q (.ld (.t 113) 1 false))⟩, ⟨(some 115), none, (.q (.pick (.t 110) (.t 114) (.c (.bool false))))⟩, ⟨(some 15), none, (.q (.mv (.t 107)))⟩,
  ⟨(some 16), none, (.q (.mv (.t 115)))⟩] [] [1, 2, 5, 6, 9, 10, 11, 12, 13, 14, 15, 16] (2 :: 29 :: famN)) (.seq (.reg [⟨(some 116), none, (.q (.mv (.t 15)))⟩, ⟨(some 117), none, (.q (.mv (.t 16)))⟩,
  ⟨(some 118), none, (.q (.beq true (.t 116) (.t 117)))⟩, ⟨(some 119), none, (.q (.mv (.t 118)))⟩, ⟨(some 120), (some (119, false)), (.q (.mv (.t 15)))⟩, ⟨(some 121), (some (119, false)),
  (.q (.mv (.t 120)))⟩, ⟨(some 122), (some (121, true)), (.q (.mv (.t 16)))⟩, ⟨(some 123), (some (119, false)), (.q (.pick (.t 121) (.t 122) (.c (.bool false))))⟩, ⟨(some 124), (some (119, false)),
  (.q (.mv (.t 123)))⟩, ⟨(some 125), (some (124, true)), (.q (.mv (.t 6)))⟩, ⟨(some 126), (some (124, true)), (.q (.mv (.t 13)))⟩, ⟨(some 127), (some (124, true)), (.q (.ia (.t 125) (.t 126) 1))⟩,
  ⟨(some 128), (some (124, true)), (.q (.ld (.t 127) 1 false))⟩, ⟨(some 129), (some (124, true)), (.q (.mv (.t 14)))⟩, ⟨(some 130), (some (124, true)), (.q (.ia (.t 128) (.t 129) 1))⟩, ⟨(some 131),
  (some (124, true)), (.q (.ld (.t 130) 1 false))⟩, ⟨(some 132), (some (119, false)), (.q (.pick (.t 124) (.t 131) (.c (.bool false))))⟩, ⟨(some 133), none, (.q (.pick (.t 119) (.c (.bool true))
  (.t 132)))⟩] [] [1, 2, 5, 6, 9, 10, 11, 12, 133] (2 :: 29 :: famN)) (.cond (.t 133) (.seq (.reg [⟨(some 134), none, (.q (.mv (.t 6)))⟩, ⟨(some 135), none, (.q (.mv (.t 10)))⟩, ⟨(some 136), none,
  (.q (.ia (.t 134) (.t 135) 1))⟩, ⟨(some 137), none, (.q (.ld (.t 136) 1 false))⟩, ⟨(some 138), none, (.q (.mv (.t 11)))⟩, ⟨(some 139), none, (.q (.ia (.t 137) (.t 138) 1))⟩, ⟨none, none,
  (.st (.t 139) (.c (.bool true)) 1)⟩] [] [1, 2, 5, 6, 10, 11, 12] (2 :: 29 :: famN)) (.reg [⟨(some 9), none, (.q (.mv (.c (.bool true))))⟩] [] [1, 2, 5, 6, 9, 10, 11, 12] (2 :: 29 :: famN))) .skip)))))
  (.reg [⟨(some 82), none, (.q (.mv (.t 12)))⟩, ⟨(some 83), none, (.q (.bin .add (.t 82) (.c (.int .i64 1))))⟩, ⟨(some 12), none, (.q (.mv (.t 83)))⟩] [] [1, 2, 5, 6, 9, 10, 11, 12] (2 :: 29 :: famN))))
def B16_4 : MC := (.seq (.seq (.reg [⟨(some 59), none, (.q (.mv (.t 11)))⟩, ⟨(some 60), none, (.q (.mv (.t 5)))⟩, ⟨(some 61), none, (.q (.bin .lss (.t 59) (.t 60)))⟩] [] [1, 2, 5, 6, 9, 10, 11,
  61] (2 :: 29 :: famN)) (.cond (.t 61) .skip (.exit 8))) (.seq (.block 9 (.seq (.reg [⟨(some 12), none, (.q (.mv (.c (.int .i64 0))))⟩] [] [1, 2, 5, 6, 9, 10, 11, 12] (2 :: 29 :: famN)) (.block 10 (.loop B16_5))))
  (.reg [⟨(some 62), none, (.q (.mv (.t 11)))⟩, ⟨(some 63), none, (.q (.bin .add (.t 62) (.c (.int .i64 1))))⟩, ⟨(some 11), none, (.q (.mv (.t 63)))⟩] [] [1, 2, 5, 6, 9, 10, 11] (2 :: 29 :: famN))))
def B16_3 : MC := (.seq (.seq (.reg [⟨(some 54), none, (.q (.mv (.t 10)))⟩, ⟨(some 55), none, (.q (.mv (.t 5)))⟩, ⟨(some 56), none, (.q (.bin .lss (.t 54) (.t 55)))⟩] [] [1, 2, 5, 6, 9, 10, 56] (2 :: 29 :: famN)) (.cond (.t 56) .skip (.exit 6))) (.seq (.block 7 (.seq (.reg [⟨(some 11), none, (.q (.mv (.c (.int .i64 0))))⟩] [] [1, 2, 5, 6, 9, 10, 11] (2 :: 29 :: famN)) (.block 8 (.loop B16_4)))) (.reg [⟨(some 57),
  none, (.q (.mv (.t 10)))⟩, ⟨(some 58), none, (.q (.bin .add (.t 57) (.c (.int .i64 1))))⟩, ⟨(some 10), none, (.q (.mv (.t 58)))⟩] [] [1, 2, 5, 6, 9, 10] (2 :: 29 :: famN))))
def B16_2 : MC := (.seq (.seq (.reg [⟨(some 53), none, (.q (.mv (.t 9)))⟩] [] [1, 2, 5, 6, 53] (2 :: 29 :: famN)) (.cond (.t 53) .skip (.exit 4))) (.block 5 (.seq (.reg [⟨(some 9), none,
  (.q (.mv (.c (.bool false))))⟩] [] [1, 2, 5, 6, 9] (2 :: 29 :: famN)) (.seq (.reg [⟨(some 10), none, (.q (.mv (.c (.int .i64 0))))⟩] [] [1, 2, 5, 6, 9, 10] (2 :: 29 :: famN)) (.block 6 (.loop B16_3))))))
def R16_2 : MC := (.seq (.reg [⟨(some 140), none, (.q (.mv (.t 6)))⟩, ⟨(some 4), none, (.q (.mv (.t 140)))⟩] [] [4] [29]) .ret)
def R16_0 : MC := (.seq (.seq (.reg [⟨(some 9), none, (.q (.mv (.c (.bool true))))⟩] [] [1, 2, 5, 6, 9] (2 :: 29 :: famN)) (.block 4 (.loop B16_2))) R16_2)
def M16 : MC := (.seq (.reg [⟨(some 2), none, (.box (.t 0))⟩, ⟨(some 4), none, (.q (.mv .nil))⟩] [] [1, 2] [2]) (.seq (.reg [⟨(some 17), none, (.q (.fa (.t 2) 1))⟩, ⟨(some 18), none, (.q (.ld (.t 17)
  1 false))⟩, ⟨(some 19), none, (.q (.len (.t 18) false))⟩, ⟨(some 5), none, (.q (.mv (.t 19)))⟩] [] [1, 2, 5] [2]) (.seq (.reg [⟨(some 6), none, (.q (.mv .nil))⟩] [] [1, 2, 5, 6] (2 :: 29 :: famN))
  (.seq (.seq (.reg [⟨(some 7), none, (.q (.mv (.c (.int .i64 0))))⟩] [] [1, 2, 5, 6, 7] (2 :: 29 :: famN)) (.block 0 (.loop B16_0))) R16_0))))
theorem mc16 : ofCode Tryd.prog [2000029] Tryd.f16.ntmps [(0, ⟨[1, 2], [2], [], 0, [], none⟩),
    (1, ⟨[1, 2, 5], [2], [], 0, [], none⟩),
    (2, ⟨[1, 2, 5, 6], (2 :: 29 :: famN), [], 0, [], none⟩),
    (3, ⟨[1, 2, 5, 6, 7], (2 :: 29 :: famN), [], 0, [], none⟩),
    (4, ⟨[1, 2, 5, 6, 7, 22], (2 :: 29 :: famN), [], 0, [], none⟩),
    (5, ⟨[1, 2, 5, 6, 7], (2 :: 29 :: famN), [], 0, [], none⟩),
    (6, ⟨[1, 2, 5, 6, 7], (2 :: 27 :: 29 :: famN), [], 0, [], none⟩),
    (7, ⟨[1, 2, 5, 6, 7, 8], (2 :: 27 :: 29 :: famN), [], 0, [], none⟩),
    (8, ⟨[1, 2, 5, 6, 7, 8, 32], (2 :: 29 :: famN), [], 0, [], none⟩),
    (9, ⟨[1, 2, 5, 6, 7, 8], (2 :: 29 :: famN), [], 0, [], none⟩),
    (10, ⟨[1, 2, 5, 6, 7, 8], (2 :: 29 :: famN), [(0, 393229), (1, 393230), (2, 393228), (3, 393224), (4, 393232), (5, 492384), (6, 492352), (7, 492416), (8, 492288), (9, 492032), (10, 519168), (11, 518144), (12, 520192), (13, 516096), (14, 507904), (15, 0), (16, 458752), (17, 393216), (18, 0)], 262143, [], none⟩),
    (11, ⟨[1, 2, 5, 6, 9], (2 :: 29 :: famN), [], 0, [], none⟩),
    (12, ⟨[1, 2, 5, 6, 53], (2 :: 29 :: famN), [], 0, [], none⟩),
    (13, ⟨[1, 2, 5, 6, 9], (2 :: 29 :: famN), [], 0, [], none⟩),
    (14, ⟨[1, 2, 5, 6, 9, 10], (2 :: 29 :: famN), [], 0, [], none⟩),
    (15, ⟨[1, 2, 5, 6, 9, 10, 56], (2 :: 29 :: famN), [], 0, [], none⟩),
    (16, ⟨[1, 2, 5, 6, 9, 10], (2 :: 29 :: famN), [], 0, [], none⟩),
    (17, ⟨[1, 2, 5, 6, 9, 10, 11], (2 :: 29 :: famN), [], 0, [], none⟩),
    (18, ⟨[1, 2, 5, 6, 9, 10, 11, 61], (2 :: 29 :: famN), [], 0, [], none⟩),
    (19, ⟨[1, 2, 5, 6, 9, 10, 11], (2 :: 29 :: famN), [], 0, [], none⟩),
    (20, ⟨[1, 2, 5, 6, 9, 10, 11, 12], (2 :: 29 :: famN), [], 0, [], none⟩),
    (21, ⟨[1, 2, 5, 6, 9, 10, 11, 12, 81], (2 :: 29 :: famN), [], 0, [], none⟩),
    (22, ⟨[1, 2, 5, 6, 9, 10, 11, 12], (2 :: 29 :: famN), [], 0, [], none⟩),
    (23, ⟨[1, 2, 5, 6, 9, 10, 11, 12, 13, 14], (2 :: 29 :: famN), [(0, 196827), (1, 196826), (2, 196828), (3, 196824), (4, 196816), (5, 196832), (6, 196800), (7, 196736), (8, 187136), (9, 186880), (10, 187392), (11, 186368), (12, 184320), (13, 188416), (14, 180224), (15, 163840), (16, 196608), (17, 131072)], 262143, [], none⟩),
    (24, ⟨[1, 2, 5, 6, 9, 10, 11, 12, 13, 14, 15, 16], (2 :: 29 :: famN), [(0, 261375), (1, 261374), (2, 261372), (3, 196840), (4, 196848), (5, 196832), (6, 196800), (7, 196736), (8, 261888), (9, 261632), (10, 261120), (11, 190464), (12, 192512), (13, 188416), (14, 180224), (15, 163840), (16, 196608), (17, 131072)], 262143, [], none⟩),
    (25, ⟨[1, 2, 5, 6, 9, 10, 11, 12, 133], (2 :: 29 :: famN), [], 0, [], none⟩),
    (26, ⟨[1, 2, 5, 6, 10, 11, 12], (2 :: 29 :: famN), [], 0, [], none⟩),
    (27, ⟨[1, 2, 5, 6, 9, 10, 11, 12], (2 :: 29 :: famN), [], 0, [], none⟩),
    (28, ⟨[4], [29], [], 0, [], none⟩)] (Tryd.f16.body.getD .skip) = some M16 := by kernel_rfl
theorem Run16 {args : List PV} {v : AV} {rs : List (Nat × List PV)} (ids : List Bool) (h : args.length ≤ 141) (hv : run Tryd.prog (retK [RV.tmp 4] ids v rs) M16 [] ⟨entry 0 args, []⟩) : Fn Tryd.prog 16 args v rs :=
  Fn_run ids (by kernel_rfl) Tryd.func16 (by decide) rfl mc16 (by kernel_rfl) (by rw [Tryd.ntmps16]; exact h) (by rw [Tryd.ntmps16]; decide) hv

end Go.Vc

namespace Go.Vc
open Go.Proofs
set_option maxRecDepth 100000

/-- 'trystlaw08.MiniNone' -/
def B3_1 : MC := (.seq (.seq (.reg [⟨(some 75), none, (.q (.mv (.t 10)))⟩, ⟨(some 76), none, (.q (.mv (.t 9)))⟩, ⟨(some 77), none, (.q (.bin .lss (.t 75) (.t 76)))⟩] [] [3, 7, 8, 9, 10, 77] [3, 1015,
  1055, 1058]) (.cond (.t 77) .skip (.exit 2))) (.seq (.block 3 (.seq (.reg [⟨(some 80), none, (.q (.mv (.t 8)))⟩, ⟨(some 81), none, (.q (.mv (.t 9)))⟩, ⟨(some 82), none, (.q (.ia (.t 80) (.t 81)
  1))⟩, ⟨(some 83), none, (.q (.ld (.t 82) 1 false))⟩, ⟨(some 84), none, (.q (.mv (.t 10)))⟩, ⟨(some 85), none, (.q (.ia (.t 83) (.t 84) 1))⟩, ⟨(some 86), none, (.q (.ld (.t 85) 1 false))⟩,
  ⟨(some 87), none, (.q (.not (.t 86)))⟩] [] [3, 7, 8, 9, 10, 87] [3, 1015, 1055, 1058]) (.cond (.t 87) (.seq (.reg [⟨(some 2), none, (.q (.mv (.c (.bool false))))⟩] [] [2] [1025, 1088]) .ret)
  .skip))) (.reg [⟨(some 78), none, (.q (.mv (.t 10)))⟩, ⟨(some 79), none, (.q (.bin .add (.t 78) (.c (.int .i64 1))))⟩, ⟨(some 10), none, (.q (.mv (.t 79)))⟩] [] [3, 7, 8, 9, 10] [3, 1015, 1055,
  1058])))
def B3_0 : MC := (.seq (.seq (.reg [⟨(some 59), none, (.q (.mv (.t 9)))⟩, ⟨(some 60), none, (.q (.fa (.t 3) 1))⟩, ⟨(some 61), none, (.q (.ld (.t 60) 1 false))⟩, ⟨(some 62), none, (.q (.len (.t 61)
  false))⟩, ⟨(some 63), none, (.q (.bin .lss (.t 59) (.t 62)))⟩] [] [3, 7, 8, 9, 63] [3, 1015, 1055, 1058]) (.cond (.t 63) .skip (.exit 0))) (.seq (.block 1 (.seq (.seq (.reg [⟨(some 66), none,
  (.q (.mv (.t 9)))⟩, ⟨(some 67), none, (.q (.bin .gtr (.t 66) (.c (.int .i64 0))))⟩, ⟨(some 68), none, (.q (.mv (.t 67)))⟩, ⟨(some 69), (some (68, true)), (.q (.mv (.t 7)))⟩, ⟨(some 70), (some (68,
  true)), (.q (.mv (.t 9)))⟩, ⟨(some 71), (some (68, true)), (.q (.ia (.t 69) (.t 70) 1))⟩, ⟨(some 72), (some (68, true)), (.q (.ld (.t 71) 1 false))⟩, ⟨(some 73), (some (68, true)),
  (.q (.not (.t 72)))⟩, ⟨(some 74), none, (.q (.pick (.t 68) (.t 73) (.c (.bool false))))⟩] [] [3, 7, 8, 9, 74] [3, 1015, 1055, 1058]) (.cond (.t 74) (.seq (.reg [⟨(some 2), none,
  (.q (.mv (.c (.bool false))))⟩] [] [2] [1025, 1088]) .ret) .skip)) (.seq (.reg [⟨(some 10), none, (.q (.mv (.c (.int .i64 0))))⟩] [] [3, 7, 8, 9, 10] [3, 1015, 1055, 1058])
  (.block 2 (.loop B3_1))))) (.reg [⟨(some 64), none, (.q (.mv (.t 9)))⟩, ⟨(some 65), none, (.q (.bin .add (.t 64) (.c (.int .i64 1))))⟩, ⟨(some 9), none, (.q (.mv (.t 65)))⟩] [] [3, 7, 8, 9] [3,
  1015, 1055, 1058])))
def R3_0 : MC := (.seq (.reg [⟨(some 88), none, (.call (.f 12) [])⟩, ⟨(some 2), none, (.q (.mv (.t 88)))⟩] [] [2] [1025, 1088]) .ret)
def M3 : MC := (.seq (.reg [⟨(some 1), none, (.box (.t 0))⟩, ⟨(some 2), none, (.q (.mv (.c (.bool false))))⟩] [] [1] [1, 1012]) (.seq (.reg [⟨(some 11), none, (.q (.ld (.t 1) 3 true))⟩, ⟨(some 12),
  none, (.call (.f 10) [(.t 11)])⟩, ⟨none, none, (.st (.t 1) (.t 12) 3)⟩] [] [1] [1, 1012]) (.seq (.reg [⟨(some 14), none, (.q (.ld (.t 1) 3 true))⟩, ⟨(some 15), none, (.call (.f 11) [(.t 14)])⟩,
  ⟨(some 13), none, (.q (.mv (.t 15)))⟩, ⟨(some 16), none, (.q (.ext (.t 13) 0))⟩, ⟨(some 17), none, (.q (.ext (.t 13) 1))⟩, ⟨(some 3), none, (.alloc [.e0, .e0, .e0])⟩, ⟨none, none, (.st (.t 3)
  (.t 16) 3)⟩, ⟨(some 4), none, (.q (.mv (.t 17)))⟩] [] [1, 3, 4] [1, 3, 1012, 1015]) (.seq (.seq (.reg [⟨(some 18), none, (.q (.mv (.t 4)))⟩, ⟨(some 19), none, (.q (.bin .neq (.t 18)
  (.c (.int .i64 0))))⟩] [] [1, 3, 19] [1, 3, 1012, 1015]) (.cond (.t 19) (.seq (.reg [⟨(some 20), none, (.q (.fa (.t 3) 1))⟩, ⟨(some 21), none, (.q (.ld (.t 20) 1 false))⟩, ⟨(some 22), none,
  (.q (.len (.t 21) false))⟩, ⟨(some 23), none, (.q (.bin .eql (.t 22) (.c (.int .i64 0))))⟩, ⟨(some 24), none, (.q (.mv (.t 23)))⟩, ⟨(some 25), (some (24, true)), (.call (.f 12) [])⟩, ⟨(some 26),
  none, (.q (.pick (.t 24) (.t 25) (.c (.bool false))))⟩, ⟨(some 2), none, (.q (.mv (.t 26)))⟩] [] [2] [1025, 1088]) .ret) .skip)) (.seq (.reg [⟨(some 28), none, (.q (.ld (.t 3) 3 true))⟩, ⟨(some 29),
  none, (.call (.f 11) [(.t 28)])⟩, ⟨(some 27), none, (.q (.mv (.t 29)))⟩, ⟨(some 30), none, (.q (.ext (.t 27) 0))⟩, ⟨(some 31), none, (.q (.ext (.t 27) 1))⟩, ⟨(some 5), none, (.alloc [.e0, .e0,
  .e0])⟩, ⟨none, none, (.st (.t 5) (.t 30) 3)⟩, ⟨(some 6), none, (.q (.mv (.t 31)))⟩] [] [1, 3, 5, 6] [1, 3, 5, 1012, 1015, 1029]) (.seq (.seq (.reg [⟨(some 32), none, (.q (.ld (.t 3) 3 true))⟩,
  ⟨(some 33), none, (.q (.ld (.t 5) 3 true))⟩, ⟨(some 34), none, (.call (.f 13) [(.t 32), (.t 33)])⟩, ⟨(some 35), none, (.q (.not (.t 34)))⟩, ⟨(some 36), none, (.q (.mv (.t 35)))⟩, ⟨(some 37),
  (some (36, false)), (.q (.mv (.t 6)))⟩, ⟨(some 38), (some (36, false)), (.q (.bin .neq (.t 37) (.c (.int .i64 0))))⟩, ⟨(some 39), none, (.q (.pick (.t 36) (.c (.bool true)) (.t 38)))⟩, ⟨(some 40),
  none, (.q (.mv (.t 39)))⟩, ⟨(some 41), (some (40, false)), (.q (.fa (.t 3) 1))⟩, ⟨(some 42), (some (40, false)), (.q (.ld (.t 41) 1 false))⟩, ⟨(some 43), (some (40, false)), (.q (.len (.t 42)
  false))⟩, ⟨(some 44), (some (40, false)), (.q (.fa (.t 1) 1))⟩, ⟨(some 45), (some (40, false)), (.q (.ld (.t 44) 1 false))⟩, ⟨(some 46), (some (40, false)), (.q (.len (.t 45) false))⟩, ⟨(some 47),
  (some (40, false)), (.q (.bin .gtr (.t 43) (.t 46)))⟩, ⟨(some 48), none, (.q (.pick (.t 40) (.c (.bool true)) (.t 47)))⟩, ⟨(some 49), none, (.q (.mv (.t 48)))⟩, ⟨(some 50), (some (49, false)),
  (.q (.ld (.t 3) 3 true))⟩, ⟨(some 51), (some (49, false)), (.call (.f 14) [(.t 50)])⟩, ⟨(some 52), (some (49, false)), (.q (.not (.t 51)))⟩, ⟨(some 53), none, (.q (.pick (.t 49) (.c (.bool true))
  (.t 52)))⟩] [] [3, 53] [3, 1015, 1029, 1034, 1051]) (.cond (.t 53) (.seq (.reg [⟨(some 2), none, (.q (.mv (.c (.bool false))))⟩] [] [2] [1025, 1088]) .ret) .skip)) (.seq (.reg [⟨(some 54), none,
  (.q (.ld (.t 3) 3 true))⟩, ⟨(some 55), none, (.call (.f 15) [(.t 54)])⟩, ⟨(some 7), none, (.q (.mv (.t 55)))⟩] [] [3, 7] [3, 1015, 1055]) (.seq (.reg [⟨(some 56), none, (.q (.ld (.t 3) 3 true))⟩,
  ⟨(some 57), none, (.q (.mv (.t 7)))⟩, ⟨(some 58), none, (.call (.f 16) [(.t 56), (.t 57)])⟩, ⟨(some 8), none, (.q (.mv (.t 58)))⟩] [] [3, 7, 8] [3, 1015, 1055, 1058]) (.seq (.seq (.reg [⟨(some 9),
  none, (.q (.mv (.c (.int .i64 0))))⟩] [] [3, 7, 8, 9] [3, 1015, 1055, 1058]) (.block 0 (.loop B3_0))) R3_0)))))))))
theorem mc3 : ofCode Tryd.prog [] Tryd.f3.ntmps [(0, ⟨[1], [1, 1012], [], 0, [], none⟩),
    (1, ⟨[1], [1, 1012], [], 0, [], none⟩),
    (2, ⟨[1, 3, 4], [1, 3, 1012, 1015], [], 0, [], none⟩),
    (3, ⟨[1, 3, 19], [1, 3, 1012, 1015], [], 0, [], none⟩),
    (4, ⟨[2], [1025, 1088], [], 0, [], none⟩),
    (5, ⟨[1, 3, 5, 6], [1, 3, 5, 1012, 1015, 1029], [], 0, [], none⟩),
    (6, ⟨[3, 53], [3, 1015, 1029, 1034, 1051], [], 0, [], none⟩),
    (7, ⟨[2], [1025, 1088], [], 0, [], none⟩),
    (8, ⟨[3, 7], [3, 1015, 1055], [], 0, [], none⟩),
    (9, ⟨[3, 7, 8], [3, 1015, 1055, 1058], [], 0, [], none⟩),
    (10, ⟨[3, 7, 8, 9], [3, 1015, 1055, 1058], [], 0, [], none⟩),
    (11, ⟨[3, 7, 8, 9, 63], [3, 1015, 1055, 1058], [], 0, [], none⟩),
    (12, ⟨[3, 7, 8, 9], [3, 1015, 1055, 1058], [], 0, [], none⟩),
    (13, ⟨[3, 7, 8, 9, 74], [3, 1015, 1055, 1058], [], 0, [], none⟩),
    (14, ⟨[2], [1025, 1088], [], 0, [], none⟩),
    (15, ⟨[3, 7, 8, 9, 10], [3, 1015, 1055, 1058], [], 0, [], none⟩),
    (16, ⟨[3, 7, 8, 9, 10, 77], [3, 1015, 1055, 1058], [], 0, [], none⟩),
    (17, ⟨[3, 7, 8, 9, 10], [3, 1015, 1055, 1058], [], 0, [], none⟩),
    (18, ⟨[3, 7, 8, 9, 10, 87], [3, 1015, 1055, 1058], [], 0, [], none⟩),
    (19, ⟨[2], [1025, 1088], [], 0, [], none⟩),
    (20, ⟨[2], [1025, 1088], [], 0, [], none⟩)] (Tryd.f3.body.getD .skip) = some M3 := by kernel_rfl
theorem Run3 {args : List PV} {v : AV} {rs : List (Nat × List PV)} (ids : List Bool) (h : args.length ≤ 89) (hv : run Tryd.prog (retK [RV.tmp 2] ids v rs) M3 [] ⟨entry 0 args, []⟩) : Fn Tryd.prog 3 args v rs :=
  Fn_run ids (by kernel_rfl) Tryd.func3 (by decide) rfl mc3 (by kernel_rfl) (by rw [Tryd.ntmps3]; exact h) (by rw [Tryd.ntmps3]; decide) hv

end Go.Vc

namespace Go.Vc
set_option linter.unusedSimpArgs false
set_option linter.unusedVariables false

/-! ## Which are live, and which are alike, round by round (plain) -/
structure OkL (d : DI) (on : List Bool) (i : Nat) : Prop where
  done : d.done.getD i [] ≠ [] → on.getD i false = true
  way : ∀ t ∈ d.next.getD i [], 0 ≤ t → on.getD t.toNat false = true → on.getD i false = true
def SndL (d : DI) (on : List Bool) : Prop := ∀ i, on.getD i false = true → d.Live i
theorem closed_live {d : DI} {on : List Bool} (h : ∀ i, i < d.next.length → OkL d on i) {i : Nat} (hl : d.Live i) : on.getD i false = true := by
  induction hl with
  | done hi hd => exact (h _ hi).done hd
  | step hi hm _ ih => exact (h _ hi).way _ hm (by omega) (by rw [Int.toNat_natCast]; exact ih)
theorem live_list {d : DI} {on : List Bool} (hl : on.length = d.next.length) (hs : SndL d on) (hc : ∀ i, d.Live i → on.getD i false = true) : on = liveL d := by
  refine List.ext_getElem (by rw [hl, liveL_len]) fun i h1 h2 => ?_
  have e1 := getD_at (d := false) h1
  have e2 := getD_at (d := false) h2
  rw [← e1, ← e2]
  have hi : i < d.next.length := by omega
  cases hv : on.getD i false with
  | true => exact ((liveL_at hi).2 (hs i hv)).symm
  | false =>
    cases hw : (liveL d).getD i false with
    | false => rfl
    | true => rw [hc i ((liveL_at hi).1 hw)] at hv; cases hv
/-- nothing new, and Q; or more than there were -/
def Grow (on0 on : List Bool) (Q : Prop) : Prop := (on = on0 ∧ Q) ∨ on0.count true < on.count true
theorem Grow.imp {on0 on : List Bool} {Q Q' : Prop} (h : Grow on0 on Q) (f : on = on0 → Q → Q') : Grow on0 on Q' := Or.imp (fun ⟨a, b⟩ => ⟨a, f a b⟩) id h
theorem Grow.le {on0 on : List Bool} {Q : Prop} (h : Grow on0 on Q) : on0.count true ≤ on.count true := by
  rcases h with ⟨rfl, _⟩ | h
  · exact Nat.le_refl _
  · omega
theorem Grow.set {on0 on : List Bool} {i : Nat} {Q Q' : Prop} (h : Grow on0 on Q) (hi : i < on.length) (f : on = on0 → on.getD i false = true → Q → Q') : Grow on0 (on.set i true) Q' := by
  cases hv : on.getD i false with
  | true =>
    have he : on.set i true = on := by
      rw [getD_at hi] at hv
      refine List.ext_getElem (by simp) fun j h1 h2 => ?_
      rw [List.getElem_set]
      split
      · rename_i hij; subst hij; exact hv.symm
      · rfl
    rw [he]
    exact h.imp fun a b => f a hv b
  | false =>
    right
    rw [getD_at hi] at hv
    have := List.count_set (a := true) (b := true) hi
    rw [hv] at this
    have h2 := h.le
    simp at this
    omega
theorem set_len {on : List Bool} {i : Nat} {b : Bool} : (on.set i b).length = on.length := List.length_set
theorem SndL.set {d : DI} {on : List Bool} {i : Nat} (h : SndL d on) (hi : i < on.length) (hl : d.Live i) : SndL d (on.set i true) := fun j hj => by
  by_cases hij : j = i
  · subst hij; exact hl
  · refine h j ?_
    have e : (on.set i true).getD j false = on.getD j false := by
      simp [List.getD_eq_getElem?_getD, List.getElem?_set, Ne.symm hij]
    rwa [e] at hj
theorem cnt_le : ∀ {a b : List Bool}, a.length = b.length → (∀ i, a.getD i false = true → b.getD i false = true) → a.count true ≤ b.count true
  | [], b, _, _ => by simp
  | x :: a, [], h, _ => by simp at h
  | x :: a, y :: b, h, hi => by
    have ih := cnt_le (a := a) (b := b) (by simpa using h) fun i h => by have := hi (i + 1); simpa using this (by simpa using h)
    have h0 := hi 0
    simp only [List.getD_cons_zero] at h0
    rw [List.count_cons, List.count_cons]
    cases x with
    | false => simp; omega
    | true => rw [h0 rfl]; simp; omega
/-- a round later -/
theorem round_live {d : DI} {on0 on : List Bool} {r : Nat} (hl : on.length = on0.length) (hs : SndL d on) (h0 : (∀ i, i < d.next.length → OkL d on0 i) ∨ r ≤ on0.count true) (h : Grow on0 on (∀ i, i < d.next.length → OkL d on0 i)) : (∀ i, i < d.next.length → OkL d on i) ∨ r + 1 ≤ on.count true := by
  rcases h with ⟨rfl, h⟩ | h
  · exact .inl h
  · rcases h0 with hc | h0
    · have := cnt_le hl fun i hi => closed_live hc (hs i hi)
      omega
    · exact .inr (by omega)
theorem rounds_live {d : DI} {on : List Bool} (hl : on.length = d.next.length) (hs : SndL d on) (h : (∀ i, i < d.next.length → OkL d on i) ∨ d.next.length ≤ on.count true) : on = liveL d := by
  refine live_list hl hs fun i hi => ?_
  rcases h with h | h
  · exact closed_live h hi
  · have h1 := List.count_eq_length.1 (show on.count true = on.length by have := List.count_le_length (a := true) (l := on); omega)
    have hlt : i < on.length := by rw [hl]; exact live_lt hi
    rw [getD_at hlt]
    exact (h1 _ (List.getElem_mem hlt)).symm
end Go.Vc

namespace Go.Vc
set_option linter.unusedSimpArgs false
set_option linter.unusedVariables false

/-! ## Which two states are not alike (plain) -/
abbrev T2 := Nat → Nat → Bool
def setT (L : T2) (i k : Nat) : T2 := fun a b => if a = i ∧ b = k then true else L a b
def flatT (n : Nat) (L : T2) : List Bool := tb (n * n) fun p => L (p / n) (p % n)
theorem flatT_len (n : Nat) (L : T2) : (flatT n L).length = n * n := tb_len _ _
theorem pair_lt {n i k : Nat} (hi : i < n) (hk : k < n) : i * n + k < n * n := by
  have : (i + 1) * n ≤ n * n := Nat.mul_le_mul_right n hi
  rw [Nat.succ_mul] at this
  omega
theorem pair_div {n i k : Nat} (hk : k < n) : (i * n + k) / n = i := by
  rw [Nat.mul_comm, Nat.mul_add_div (by omega), Nat.div_eq_of_lt hk]; omega
theorem pair_mod {n i k : Nat} (hk : k < n) : (i * n + k) % n = k := by
  rw [Nat.mul_comm, Nat.mul_add_mod, Nat.mod_eq_of_lt hk]
theorem flatT_at {n i k : Nat} {L : T2} (hi : i < n) (hk : k < n) : (flatT n L).getD (i * n + k) false = L i k := by
  unfold flatT; rw [tb_get (pair_lt hi hk), pair_div hk, pair_mod hk]
theorem flatT_set {n i k : Nat} {L : T2} (hi : i < n) (hk : k < n) : (flatT n L).set (i * n + k) true = flatT n (setT L i k) := by
  unfold flatT
  rw [tb_set (pair_lt hi hk)]
  refine tb_ext fun p hp => ?_
  unfold setT
  by_cases h : p = i * n + k
  · rw [if_pos h]; subst h; rw [pair_div hk, pair_mod hk, if_pos ⟨rfl, rfl⟩]
  · rw [if_neg h, if_neg]
    rintro ⟨h1, h2⟩
    have := Nat.div_add_mod p n
    rw [h1, h2, Nat.mul_comm] at this
    omega
def cntT (n : Nat) (L : T2) : Nat := (flatT n L).count true
theorem cntT_le (n : Nat) (L : T2) : cntT n L ≤ n * n := by have := List.count_le_length (a := true) (l := flatT n L); rw [flatT_len] at this; exact this
theorem cntT_set {n i k : Nat} {L : T2} (hi : i < n) (hk : k < n) (h : L i k = false) : cntT n (setT L i k) = cntT n L + 1 := by
  unfold cntT
  have hl : i * n + k < (flatT n L).length := by rw [flatT_len]; exact pair_lt hi hk
  have hv : (flatT n L)[i * n + k] = false := by rw [← getD_at (d := false) hl, flatT_at hi hk]; exact h
  rw [← flatT_set hi hk, List.count_set hl, hv]
  simp

/-! ### what parts two states -/
noncomputable def onB (d : DI) (t : Int) : Bool := decide (0 ≤ t) && (liveL d).getD t.toNat false
noncomputable def parted (d : DI) (L : T2) (i k s : Nat) : Bool :=
  (onB d (stI d i s) != onB d (stI d k s)) || (onB d (stI d i s) && onB d (stI d k s) && L (stI d i s).toNat (stI d k s).toNat)
theorem onB_dead {d : DI} {t : Int} (h : -1 ≤ t) : onB d t = !dead (liveL d) t := by
  unfold onB dead
  by_cases h1 : t = -1
  · subst h1; simp
  · have : (0 : Int) ≤ t := by omega
    simp [this, h1]
def SndT (d : DI) (L : T2) : Prop := ∀ i k, i < d.next.length → k < d.next.length → L i k = true → ¬ Eqv d d i k
def BasT (d : DI) (L : T2) : Prop := ∀ i k, i < d.next.length → k < d.next.length → L i k = false → d.done.getD i [] = d.done.getD k []
def CloP (d : DI) (L : T2) (i k m : Nat) : Prop := L i k = false → ∀ s, s < m → parted d L i k s = false
theorem parted_ne {d : DI} (hd : d.Wf) {L : T2} (hs : SndT d L) {i k s : Nat} (hi : i < d.next.length) (hk : k < d.next.length) (h : parted d L i k s = true) : ¬ Eqv d d i k := fun he => by
  have hr1 := stI_range hd i s
  have hr2 := stI_range hd k s
  have hw := he.way s
  have hx := eqt_dead hd hd hr1 hr2 hw
  unfold parted at h
  rw [onB_dead hr1.1, onB_dead hr2.1] at h
  cases ha : dead (liveL d) (stI d i s) with
  | true =>
    rw [ha, hx.1 ha] at h
    simp at h
  | false =>
    have hb : dead (liveL d) (stI d k s) = false := by
      cases hb : dead (liveL d) (stI d k s) with
      | false => rfl
      | true => rw [hx.2 hb] at ha; cases ha
    rw [ha, hb] at h
    simp at h
    have n1 : stI d i s ≠ -1 := fun e => by rw [e] at ha; simp [dead] at ha
    have n2 : stI d k s ≠ -1 := fun e => by rw [e] at hb; simp [dead] at hb
    exact hs _ _ (by omega) (by omega) h (eqt_eqv n1 n2 hw)
theorem SndT.set {d : DI} (hd : d.Wf) {L : T2} (hs : SndT d L) {i k s : Nat} (hi : i < d.next.length) (hk : k < d.next.length) (h : parted d L i k s = true) : SndT d (setT L i k) := fun a b ha hb hl => by
  unfold setT at hl
  by_cases hc : a = i ∧ b = k
  · obtain ⟨rfl, rfl⟩ := hc
    exact parted_ne hd hs hi hk h
  · rw [if_neg hc] at hl
    exact hs a b ha hb hl
theorem BasT.set {d : DI} {L : T2} (hs : BasT d L) {i k : Nat} : BasT d (setT L i k) := fun a b ha hb hl => by
  unfold setT at hl
  by_cases hc : a = i ∧ b = k
  · rw [if_pos hc] at hl; cases hl
  · rw [if_neg hc] at hl
    exact hs a b ha hb hl
theorem closed_eqv {d : DI} (hd : d.Wf) {L : T2} (hb : BasT d L) (hc : ∀ i k, i < d.next.length → k < d.next.length → CloP d L i k (d.signs.length + 1)) : ∀ (w : List Nat) {i k : Nat}, i < d.next.length → k < d.next.length → L i k = false → outI d w i = outI d w k
  | [], i, k, hi, hk, h => hb i k hi hk h
  | a :: w, i, k, hi, hk, h => by
    rw [outI_cons, outI_cons]
    have hr1 := stI_range hd i a
    have hr2 := stI_range hd k a
    by_cases ha : a < d.signs.length + 1
    · have hp := hc i k hi hk h a ha
      unfold parted at hp
      rw [onB_dead hr1.1, onB_dead hr2.1] at hp
      cases h1 : dead (liveL d) (stI d i a) with
      | true =>
        have h2 : dead (liveL d) (stI d k a) = true := by
          cases h2 : dead (liveL d) (stI d k a) with
          | true => rfl
          | false => rw [h1, h2] at hp; simp at hp
        rw [(dead_iff hd hr1.1 hr1.2).1 h1 w, (dead_iff hd hr2.1 hr2.2).1 h2 w]
      | false =>
        have h2 : dead (liveL d) (stI d k a) = false := by
          cases h2 : dead (liveL d) (stI d k a) with
          | false => rfl
          | true => rw [h1, h2] at hp; simp at hp
        rw [h1, h2] at hp
        simp at hp
        have n1 : stI d i a ≠ -1 := fun e => by rw [e] at h1; simp [dead] at h1
        have n2 : stI d k a ≠ -1 := fun e => by rw [e] at h2; simp [dead] at h2
        unfold outT
        rw [if_neg n1, if_neg n2]
        exact closed_eqv hd hb hc w (by omega) (by omega) hp
    · have e1 : stI d i a = -1 := by unfold stI; exact getD_no (by rw [hd.width i hi]; omega)
      have e2 : stI d k a = -1 := by unfold stI; exact getD_no (by rw [hd.width k hk]; omega)
      rw [e1, e2]

open Classical in
noncomputable def apT (d : DI) : T2 := fun i k => decide (¬ Eqv d d i k)
theorem apT_of {d : DI} (hd : d.Wf) {L : T2} (hs : SndT d L) (hb : BasT d L) (hc : ∀ i k, i < d.next.length → k < d.next.length → CloP d L i k (d.signs.length + 1)) {i k : Nat} (hi : i < d.next.length) (hk : k < d.next.length) : L i k = apT d i k := by
  classical
  unfold apT
  cases h : L i k with
  | true => exact (decide_eq_true (hs i k hi hk h)).symm
  | false => exact (decide_eq_false fun hn => hn fun w => closed_eqv hd hb hc w hi hk h).symm

/-! ### the least one's states -/
theorem least_at {d : DI} (hd : d.Wf) {i : Nat} (hi : i < (leastR d).next.length) (w : List Nat) : outI (leastR d) w i = outI d w (fst d (classR d (liveL d)) (leastK d (liveL d) (classR d (liveL d))) i) :=
  lst_out (lst_of (cls_of hd)) w i (by rwa [show (leastR d).next.length = leastK d (liveL d) (classR d (liveL d)) from lst_len _ _ _] at hi)
theorem nodup_inj {l : List Nat} (h : l.Nodup) {i j : Nat} (hi : i < l.length) (hj : j < l.length) (e : l[i] = l[j]) : i = j := by
  rcases Nat.lt_trichotomy i j with h1 | h1 | h1
  · exact absurd e (List.pairwise_iff_getElem.1 h i j hi hj h1)
  · exact h1
  · exact absurd e.symm (List.pairwise_iff_getElem.1 h j i hj hi h1)
theorem least_apart {d : DI} (hd : d.Wf) {i k : Nat} (hi : i < (leastR d).next.length) (hk : k < (leastR d).next.length) (h : i ≠ k) : ¬ Eqv (leastR d) (leastR d) i k := fun he => h (by
  have hl := lst_of (cls_of hd)
  have e : (leastR d).next.length = leastK d (liveL d) (classR d (liveL d)) := lst_len _ _ _
  rw [e] at hi hk
  have h1 := hl.lt hi
  have h2 := hl.lt hk
  have hq : Eqv d d (fst d (classR d (liveL d)) (leastK d (liveL d) (classR d (liveL d))) i) (fst d (classR d (liveL d)) (leastK d (liveL d) (classR d (liveL d))) k) := fun w => by
    rw [← least_at hd (by rw [e]; exact hi) w, ← least_at hd (by rw [e]; exact hk) w]; exact he w
  have hc := (hl.c.eq h1 h2).2 hq
  have hn := (firstOk (lv := liveL d) (cl := classR d (liveL d)) hl.c.wf.rows hl.c.wf.n0 (leastK d (liveL d) (classR d (liveL d)))).nd
  have hlen := hl.len
  have g1 : i < ((firstL d (liveL d) (classR d (liveL d)) (leastK d (liveL d) (classR d (liveL d)))).map fun s => (classR d (liveL d)).getD s 0).length := by rw [List.length_map, hlen]; exact hi
  have g2 : k < ((firstL d (liveL d) (classR d (liveL d)) (leastK d (liveL d) (classR d (liveL d)))).map fun s => (classR d (liveL d)).getD s 0).length := by rw [List.length_map, hlen]; exact hk
  refine nodup_inj hn g1 g2 ?_
  rw [List.getElem_map, List.getElem_map, ← getD_at (d := 0), ← getD_at (d := 0)]
  exact hc)
theorem stepF_mem {lv : List Bool} {cl F : List Nat} {t : Int} {s : Nat} (h : s ∈ stepF lv cl F t) : s ∈ F ∨ lv.getD s false = true := by
  unfold stepF at h
  split at h
  · exact .inl h
  · rename_i hd
    split at h
    · exact .inl h
    · rcases List.mem_append.1 h with h | h
      · exact .inl h
      · rw [List.mem_singleton] at h
        subst h
        right
        unfold dead at hd
        simp only [Bool.or_eq_true, not_or, Bool.not_eq_true', Bool.not_eq_false] at hd
        exact hd.2
theorem rowF_mem {lv : List Bool} {cl F : List Nat} {row : List Int} {s : Nat} : ∀ {j : Nat}, s ∈ rowF lv cl F row j → s ∈ F ∨ lv.getD s false = true
  | 0, h => .inl h
  | j + 1, h => by
    rcases stepF_mem h with h | h
    · exact rowF_mem h
    · exact .inr h
theorem firstL_mem {d : DI} {lv : List Bool} {cl : List Nat} {s : Nat} : ∀ {i : Nat}, s ∈ firstL d lv cl i → s = 0 ∨ lv.getD s false = true
  | 0, h => by simp [firstL] at h; exact .inl h
  | i + 1, h => by
    rcases rowF_mem h with h | h
    · exact firstL_mem h
    · exact .inr h
theorem least_live {d : DI} (hd : d.Wf) {i : Nat} (hi : i < (leastR d).next.length) (h0 : 0 < i) : (liveL (leastR d)).getD i false = true := by
  have hl := lst_of (cls_of hd)
  have e : (leastR d).next.length = leastK d (liveL d) (classR d (liveL d)) := lst_len _ _ _
  have hi' := hi
  rw [e] at hi'
  have hlt := hl.lt hi'
  have hm : fst d (classR d (liveL d)) (leastK d (liveL d) (classR d (liveL d))) i ∈ firstL d (liveL d) (classR d (liveL d)) (leastK d (liveL d) (classR d (liveL d))) := by
    show List.getD _ _ _ ∈ _
    rw [getD_at (by rw [hl.len]; exact hi')]; exact List.getElem_mem _
  have hlv : d.Live (fst d (classR d (liveL d)) (leastK d (liveL d) (classR d (liveL d))) i) := by
    rcases firstL_mem hm with h | h
    · exfalso
      have hz := fst_zero hl
      refine least_apart hd hi (k := 0) (by omega) (by omega) fun w => ?_
      rw [least_at hd hi, least_at hd (by omega), h, hz]
    · exact (liveL_at hlt).1 h
  obtain ⟨w, hw⟩ := live_out hlv
  rw [← least_at hd hi] at hw
  exact (liveL_at hi).2 (out_live (least_out hd).1 hi hw)
end Go.Vc

namespace Go.Vc
open Go.Proofs
set_option maxRecDepth 100000

/-- 'trystref08.Live' -/
def B15_2 : MC := (.seq (.seq (.reg [⟨(some 33), none, (.q (.mv (.t 5)))⟩, ⟨(some 34), none, (.q (.fa (.t 1) 1))⟩, ⟨(some 35), none, (.q (.ld (.t 34) 1 false))⟩, ⟨(some 36), none, (.q (.mv (.t 4)))⟩,
  ⟨(some 37), none, (.q (.ia (.t 35) (.t 36) 1))⟩, ⟨(some 38), none, (.q (.ld (.t 37) 1 false))⟩, ⟨(some 39), none, (.q (.len (.t 38) false))⟩, ⟨(some 40), none, (.q (.bin .lss (.t 33)
  (.t 39)))⟩] [] [1, 3, 4, 5, 13, 14, 40] [1, 10]) (.cond (.t 40) .skip (.exit 4))) (.seq (.block 5 (.seq (.reg [⟨(some 43), none, (.q (.fa (.t 1) 1))⟩, ⟨(some 44), none, (.q (.ld (.t 43) 1 false))⟩,
  ⟨(some 45), none, (.q (.mv (.t 4)))⟩, ⟨(some 46), none, (.q (.ia (.t 44) (.t 45) 1))⟩, ⟨(some 47), none, (.q (.ld (.t 46) 1 false))⟩, ⟨(some 48), none, (.q (.mv (.t 5)))⟩, ⟨(some 49), none,
  (.q (.ia (.t 47) (.t 48) 1))⟩, ⟨(some 50), none, (.q (.ld (.t 49) 1 false))⟩, ⟨(some 6), none, (.q (.mv (.t 50)))⟩] [] [1, 3, 4, 5, 6, 13, 14] [1, 10]) (.seq (.reg [⟨(some 51), none,
  (.q (.mv (.t 6)))⟩, ⟨(some 52), none, (.q (.bin .geq (.t 51) (.c (.int .i64 0))))⟩, ⟨(some 53), none, (.q (.mv (.t 52)))⟩, ⟨(some 54), (some (53, true)), (.q (.mv (.t 3)))⟩, ⟨(some 55), (some (53,
  true)), (.q (.mv (.t 6)))⟩, ⟨(some 56), (some (53, true)), (.q (.ia (.t 54) (.t 55) 1))⟩, ⟨(some 57), (some (53, true)), (.q (.ld (.t 56) 1 false))⟩, ⟨(some 58), none, (.q (.pick (.t 53) (.t 57)
  (.c (.bool false))))⟩] [] [1, 3, 4, 5, 13, 14, 58] [1, 10]) (.cond (.t 58) (.reg [⟨(some 59), none, (.q (.mv (.t 3)))⟩, ⟨(some 60), none, (.q (.mv (.t 4)))⟩, ⟨(some 61), none, (.q (.ia (.t 59)
  (.t 60) 1))⟩, ⟨none, none, (.st (.t 61) (.c (.bool true)) 1)⟩] [] [1, 3, 4, 5, 13, 14] [1, 10]) .skip)))) (.reg [⟨(some 41), none, (.q (.mv (.t 5)))⟩, ⟨(some 42), none, (.q (.bin .add (.t 41)
  (.c (.int .i64 1))))⟩, ⟨(some 5), none, (.q (.mv (.t 42)))⟩] [] [1, 3, 4, 5, 13, 14] [1, 10])))
def B15_1 : MC := (.seq (.seq (.reg [⟨(some 16), none, (.q (.mv (.t 4)))⟩, ⟨(some 17), none, (.q (.fa (.t 1) 1))⟩, ⟨(some 18), none, (.q (.ld (.t 17) 1 false))⟩, ⟨(some 19), none, (.q (.len (.t 18)
  false))⟩, ⟨(some 20), none, (.q (.bin .lss (.t 16) (.t 19)))⟩] [] [1, 3, 4, 13, 14, 20] [1, 10]) (.cond (.t 20) .skip (.exit 2))) (.seq (.block 3 (.seq (.seq (.reg [⟨(some 23), none, (.q (.fa (.t 1)
  2))⟩, ⟨(some 24), none, (.q (.ld (.t 23) 1 false))⟩, ⟨(some 25), none, (.q (.mv (.t 4)))⟩, ⟨(some 26), none, (.q (.ia (.t 24) (.t 25) 1))⟩, ⟨(some 27), none, (.q (.ld (.t 26) 1 false))⟩, ⟨(some 28),
  none, (.q (.len (.t 27) false))⟩, ⟨(some 29), none, (.q (.bin .gtr (.t 28) (.c (.int .i64 0))))⟩] [] [1, 3, 4, 13, 14, 29] [1, 10]) (.cond (.t 29) (.reg [⟨(some 30), none, (.q (.mv (.t 3)))⟩,
  ⟨(some 31), none, (.q (.mv (.t 4)))⟩, ⟨(some 32), none, (.q (.ia (.t 30) (.t 31) 1))⟩, ⟨none, none, (.st (.t 32) (.c (.bool true)) 1)⟩] [] [1, 3, 4, 13, 14] [1, 10]) .skip)) (.seq (.reg [⟨(some 5),
  none, (.q (.mv (.c (.int .i64 0))))⟩] [] [1, 3, 4, 5, 13, 14] [1, 10]) (.block 4 (.loop B15_2))))) (.reg [⟨(some 21), none, (.q (.mv (.t 4)))⟩, ⟨(some 22), none, (.q (.bin .add (.t 21)
  (.c (.int .i64 1))))⟩, ⟨(some 4), none, (.q (.mv (.t 22)))⟩] [] [1, 3, 4, 13, 14] [1, 10])))
def B15_0 : MC := (.seq (.reg [⟨(some 15), none, (.q (.bin .lss (.t 14) (.t 13)))⟩] [] [1, 3, 13, 14, 15] [1, 10]) (.seq (.cond (.t 15) .skip (.exit 0)) (.seq (.block 1 (.seq (.reg [⟨(some 4), none,
  (.q (.mv (.c (.int .i64 0))))⟩] [] [1, 3, 4, 13, 14] [1, 10]) (.block 2 (.loop B15_1)))) (.reg [⟨(some 62), none, (.q (.bin .add (.t 14) (.c (.int .i64 1))))⟩, ⟨(some 14), none,
  (.q (.mv (.t 62)))⟩] [] [1, 3, 13, 14] [1, 10]))))
def R15_0 : MC := (.seq (.reg [⟨(some 63), none, (.q (.mv (.t 3)))⟩, ⟨(some 2), none, (.q (.mv (.t 63)))⟩] [] [2] [10]) .ret)
def M15 : MC := (.seq (.reg [⟨(some 1), none, (.box (.t 0))⟩, ⟨(some 2), none, (.q (.mv .nil))⟩] [] [1] [1]) (.seq (.reg [⟨(some 7), none, (.q (.fa (.t 1) 1))⟩, ⟨(some 8), none, (.q (.ld (.t 7)
  1 false))⟩, ⟨(some 9), none, (.q (.len (.t 8) false))⟩, ⟨(some 10), none, (.mks (.t 9) (.t 9) 1 1 (.sc (.bool false)))⟩, ⟨(some 3), none, (.q (.mv (.t 10)))⟩] [] [1, 3] [1, 10])
  (.seq (.seq (.reg [⟨(some 11), none, (.q (.fa (.t 1) 1))⟩, ⟨(some 12), none, (.q (.ld (.t 11) 1 false))⟩, ⟨(some 13), none, (.q (.len (.t 12) false))⟩, ⟨(some 14), none,
  (.q (.mv (.c (.int .i64 0))))⟩] [] [1, 3, 13, 14] [1, 10]) (.block 0 (.loop B15_0))) R15_0)))
theorem mc15 : ofCode Tryd.prog [] Tryd.f15.ntmps [(0, ⟨[1], [1], [], 0, [], none⟩),
    (1, ⟨[1, 3], [1, 10], [], 0, [], none⟩),
    (2, ⟨[1, 3, 13, 14], [1, 10], [], 0, [], none⟩),
    (3, ⟨[1, 3, 13, 14, 15], [1, 10], [], 0, [], none⟩),
    (4, ⟨[1, 3, 4, 13, 14], [1, 10], [], 0, [], none⟩),
    (5, ⟨[1, 3, 4, 13, 14, 20], [1, 10], [], 0, [], none⟩),
    (6, ⟨[1, 3, 4, 13, 14], [1, 10], [], 0, [], none⟩),
    (7, ⟨[1, 3, 4, 13, 14, 29], [1, 10], [], 0, [], none⟩),
    (8, ⟨[1, 3, 4, 13, 14], [1, 10], [], 0, [], none⟩),
    (9, ⟨[1, 3, 4, 5, 13, 14], [1, 10], [], 0, [], none⟩),
    (10, ⟨[1, 3, 4, 5, 13, 14, 40], [1, 10], [], 0, [], none⟩),
    (11, ⟨[1, 3, 4, 5, 13, 14], [1, 10], [], 0, [], none⟩),
    (12, ⟨[1, 3, 4, 5, 6, 13, 14], [1, 10], [], 0, [], none⟩),
    (13, ⟨[1, 3, 4, 5, 13, 14, 58], [1, 10], [], 0, [], none⟩),
    (14, ⟨[1, 3, 4, 5, 13, 14], [1, 10], [], 0, [], none⟩),
    (15, ⟨[1, 3, 13, 14], [1, 10], [], 0, [], none⟩),
    (16, ⟨[2], [10], [], 0, [], none⟩)] (Tryd.f15.body.getD .skip) = some M15 := by kernel_rfl
theorem Run15 {args : List PV} {v : AV} {rs : List (Nat × List PV)} (ids : List Bool) (h : args.length ≤ 64) (hv : run Tryd.prog (retK [RV.tmp 2] ids v rs) M15 [] ⟨entry 0 args, []⟩) : Fn Tryd.prog 15 args v rs :=
  Fn_run ids (by kernel_rfl) Tryd.func15 (by decide) rfl mc15 (by kernel_rfl) (by rw [Tryd.ntmps15]; exact h) (by rw [Tryd.ntmps15]; decide) hv

end Go.Vc

namespace Go.Vc
open Go.Proofs
set_option linter.unusedSimpArgs false
set_option linter.unusedVariables false

/-! ## the document's 'Live' -/
theorem bool_set (l : List Bool) (i : Nat) (b : Bool) : (l.map fun b => pB b).set i (pB b) = (l.set i b).map fun b => pB b := by rw [List.map_set]
theorem bool_at {l : List Bool} {i : Nat} (h : i < l.length) : (l.map fun b => pB b).getD i default = pB (l.getD i false) := by
  simp [List.getD_eq_getElem?_getD, h]
abbrev lvS (d : DI) (on : List Bool) : List (Nat × Row) := [(1, .box (dBox d)), (10, .sl 1 (on.map fun b => pB b))]
set_option maxHeartbeats 4000000 in
theorem fn15 (d : DI) (hd : d.Sm) (hm : mayB d = true) : Fn Tryd.prog 15 [pDi d] (.pv (bools (liveL d))) [] := by
  have h1 := hd.signs
  have h2 := hd.next
  have hp := may_iff.1 hm
  have hdl := hp.done
  refine Fn.row (n := d.next.length) (s := 1) ?_ (by simp [liveL_len])
  refine Run15 [true] (by simp) ?_
  simp only [go_sem, Nat.reduceEqDiff, Nat.reduceBEq, Nat.reduceAdd, Nat.reduceMul, Nat.reduceSub, Nat.reduceLeDiff, Nat.reduceLT, reduceIte, reduceCtorEq, Int.reduceToNat, Int.reduceLE, Int.reduceLT, Int.reduceNeg, Bool.not_not, and_self, Bool.and_eq_false_iff, Int.cast_ofNat_Int, Int.reduceAdd, Int.reduceSub, Int.reduceMul, Int.reduceEq, Int.reduceNe, M15]
  refine ⟨⟨by omega, by omega, by omega⟩, ?_⟩
  refine run_loopN (T := Nat × List Bool) [1, 3, 13, 14] [1, 10] (fun t => ⟨[(1, .ptr 1 0), (3, .row 10 0 d.next.length), (13, .pv (pI d.next.length)), (14, .pv (pI t.1))], lvS d t.2⟩)
    (fun t => t.1 ≤ d.next.length ∧ t.2.length = d.next.length ∧ SndL d t.2 ∧ ((∀ i, i < d.next.length → OkL d t.2 i) ∨ t.1 ≤ t.2.count true)) (fun t => d.next.length - t.1) (0, List.replicate d.next.length false) ?_ ⟨Nat.zero_le _, by simp, fun i hi => ?_, .inr (Nat.zero_le _)⟩ ?_
  · simp only [go_sem, Nat.reduceEqDiff, Nat.reduceBEq, Nat.reduceAdd, Nat.reduceMul, Nat.reduceSub, Nat.reduceLeDiff, Nat.reduceLT, reduceIte, reduceCtorEq, Int.reduceToNat, Int.reduceLE, Int.reduceLT, Int.reduceNeg, Bool.not_not, and_self, Bool.and_eq_false_iff, Int.cast_ofNat_Int, Int.reduceAdd, Int.reduceSub, Int.reduceMul, Int.reduceEq, Int.reduceNe]
    simp only [lvS, List.map_replicate]
  · have : (List.replicate d.next.length false).getD i false = false := by
      rw [List.getD_eq_getElem?_getD, List.getElem?_replicate]; split <;> rfl
    rw [this] at hi; cases hi
  rintro ⟨r, on0⟩ ⟨hr, hl0, hs0, hc0⟩
  simp only at hr hl0 hs0 hc0
  by_cases hrl : r < d.next.length
  · simp only [go_sem, Nat.reduceEqDiff, Nat.reduceBEq, Nat.reduceAdd, Nat.reduceMul, Nat.reduceSub, Nat.reduceLeDiff, Nat.reduceLT, reduceIte, reduceCtorEq, Int.reduceToNat, Int.reduceLE, Int.reduceLT, Int.reduceNeg, Bool.not_not, and_self, Bool.and_eq_false_iff, Int.cast_ofNat_Int, Int.reduceAdd, Int.reduceSub, Int.reduceMul, Int.reduceEq, Int.reduceNe, B15_0, show (r : Int) < (d.next.length : Int) by omega]
    refine run_loopN (T := Nat × List Bool) [1, 3, 4, 13, 14] [1, 10] (fun t => ⟨[(1, .ptr 1 0), (3, .row 10 0 d.next.length), (4, .pv (pI t.1)), (13, .pv (pI d.next.length)), (14, .pv (pI r))], lvS d t.2⟩)
      (fun t => t.1 ≤ d.next.length ∧ t.2.length = d.next.length ∧ SndL d t.2 ∧ Grow on0 t.2 (∀ i, i < t.1 → OkL d on0 i)) (fun t => d.next.length - t.1) (0, on0) ?_ ⟨Nat.zero_le _, hl0, hs0, .inl ⟨rfl, fun i hi => absurd hi (by simp)⟩⟩ ?_
    · simp only [go_sem, Nat.reduceEqDiff, Nat.reduceBEq, Nat.reduceAdd, Nat.reduceMul, Nat.reduceSub, Nat.reduceLeDiff, Nat.reduceLT, reduceIte, reduceCtorEq, Int.reduceToNat, Int.reduceLE, Int.reduceLT, Int.reduceNeg, Bool.not_not, and_self, Bool.and_eq_false_iff, Int.cast_ofNat_Int, Int.reduceAdd, Int.reduceSub, Int.reduceMul, Int.reduceEq, Int.reduceNe]
    rintro ⟨i, on⟩ ⟨hi, hl, hs, hg⟩
    simp only at hi hl hs hg
    by_cases hil : i < d.next.length
    · obtain ⟨R, hR⟩ : ∃ R, R = d.next.getD i [] := ⟨_, rfl⟩
      have hRg : d.next[i] = R := by rw [hR, getD_at hil]
      have hok := okRow_iff.1 (hp.row i hil)
      rw [← hR] at hok
      obtain ⟨hw, hrow, _⟩ := hok
      have hRl : R.length ≤ 1000 := by rw [hR]; exact hd.nexts i
      obtain ⟨dn, hdn⟩ : ∃ dn, dn = d.done.getD i [] := ⟨_, rfl⟩
      have hid : i < d.done.length := by omega
      have hdg : d.done[i] = dn := by rw [hdn, getD_at hid]
      have hii : (i : Int) < (d.next.length : Int) := by omega
      have hii' : (i : Int) < (d.done.length : Int) := by omega
      by_cases hd0 : dn.length = 0
      · have hg1 : Grow on0 on ((∀ j, j < i → OkL d on0 j) ∧ (d.done.getD i [] ≠ [] → on0.getD i false = true)) := hg.imp fun _ h => ⟨h, fun hne => absurd (List.eq_nil_of_length_eq_zero (by rw [← hdn]; exact hd0)) hne⟩
        have hl1 := hl
        have hs1 := hs
        simp only [go_sem, Nat.reduceEqDiff, Nat.reduceBEq, Nat.reduceAdd, Nat.reduceMul, Nat.reduceSub, Nat.reduceLeDiff, Nat.reduceLT, reduceIte, reduceCtorEq, Int.reduceToNat, Int.reduceLE, Int.reduceLT, Int.reduceNeg, Bool.not_not, and_self, Bool.and_eq_false_iff, Int.cast_ofNat_Int, Int.reduceAdd, Int.reduceSub, Int.reduceMul, Int.reduceEq, Int.reduceNe, B15_1, hii, hii', getD_map hid, hdg, wf_intss, show ¬ (0 : Int) < (dn.length : Int) by omega]
        generalize on = on1 at hl1 hs1 hg1
        refine run_loopN (T := Nat × List Bool) [1, 3, 4, 5, 13, 14] [1, 10] (fun t => ⟨[(1, .ptr 1 0), (3, .row 10 0 d.next.length), (4, .pv (pI i)), (5, .pv (pI t.1)), (13, .pv (pI d.next.length)), (14, .pv (pI r))], lvS d t.2⟩)
          (fun t => t.1 ≤ R.length ∧ t.2.length = d.next.length ∧ SndL d t.2 ∧ Grow on0 t.2 (((∀ j, j < i → OkL d on0 j) ∧ (d.done.getD i [] ≠ [] → on0.getD i false = true)) ∧ ∀ x ∈ R.take t.1, 0 ≤ x → on0.getD x.toNat false = true → on0.getD i false = true)) (fun t => R.length - t.1) (0, on1) ?_ ⟨Nat.zero_le _, hl1, hs1, hg1.imp fun _ h => ⟨h, fun x hx => absurd hx (by simp)⟩⟩ ?_
        · simp only [go_sem, Nat.reduceEqDiff, Nat.reduceBEq, Nat.reduceAdd, Nat.reduceMul, Nat.reduceSub, Nat.reduceLeDiff, Nat.reduceLT, reduceIte, reduceCtorEq, Int.reduceToNat, Int.reduceLE, Int.reduceLT, Int.reduceNeg, Bool.not_not, and_self, Bool.and_eq_false_iff, Int.cast_ofNat_Int, Int.reduceAdd, Int.reduceSub, Int.reduceMul, Int.reduceEq, Int.reduceNe]
        clear hg1 hl1 hs1
        rintro ⟨k, on2⟩ ⟨hk, hl2, hs2, hg2⟩
        simp only at hk hl2 hs2 hg2
        by_cases hkl : k < R.length
        · have hr2 := hrow R[k] (List.getElem_mem hkl)
          have htk : R.take (k + 1) = R.take k ++ [R[k]] := List.take_succ_eq_append_getElem hkl
          have hio : i < on2.length := by omega
          by_cases h0 : R[k] < 0
          · simp only [go_sem, Nat.reduceEqDiff, Nat.reduceBEq, Nat.reduceAdd, Nat.reduceMul, Nat.reduceSub, Nat.reduceLeDiff, Nat.reduceLT, reduceIte, reduceCtorEq, Int.reduceToNat, Int.reduceLE, Int.reduceLT, Int.reduceNeg, Bool.not_not, and_self, Bool.and_eq_false_iff, Int.cast_ofNat_Int, Int.reduceAdd, Int.reduceSub, Int.reduceMul, Int.reduceEq, Int.reduceNe, B15_2, hii, getD_map hil, hRg, wf_intss, show (k : Int) < (R.length : Int) by omega, getD_map hkl, wf_ints, show ¬ (0 : Int) ≤ R[k] by omega]
            refine ⟨⟨by omega, by omega⟩, (k + 1, on2), rfl, ⟨hkl, hl2, hs2, hg2.imp fun _ q => ⟨q.1, fun x hx => ?_⟩⟩, by simp only; omega⟩
            rw [htk] at hx
            rcases List.mem_append.1 hx with hx | hx
            · exact q.2 x hx
            · rw [List.mem_singleton] at hx; subst hx; intro h; omega
          · obtain ⟨y, hy⟩ : ∃ y : Nat, R[k] = (y : Int) := ⟨R[k].toNat, by omega⟩
            have hyl : y < on2.length := by omega
            have hmem : (y : Int) ∈ d.next.getD i [] := by rw [← hR, ← hy]; exact List.getElem_mem hkl
            rw [hy] at hr2 htk
            cases hb : on2.getD y false with
            | false =>
              simp only [go_sem, Nat.reduceEqDiff, Nat.reduceBEq, Nat.reduceAdd, Nat.reduceMul, Nat.reduceSub, Nat.reduceLeDiff, Nat.reduceLT, reduceIte, reduceCtorEq, Int.reduceToNat, Int.reduceLE, Int.reduceLT, Int.reduceNeg, Bool.not_not, and_self, Bool.and_eq_false_iff, Int.cast_ofNat_Int, Int.reduceAdd, Int.reduceSub, Int.reduceMul, Int.reduceEq, Int.reduceNe, B15_2, hii, getD_map hil, hRg, wf_intss, show (k : Int) < (R.length : Int) by omega, getD_map hkl, wf_ints, hy, show (0 : Int) ≤ (y : Int) by omega, List.length_map, bool_at hyl, hb]
              refine ⟨by omega, hyl, ⟨by omega, by omega⟩, (k + 1, on2), rfl, ⟨hkl, hl2, hs2, hg2.imp fun e q => ⟨q.1, fun x hx => ?_⟩⟩, by simp only; omega⟩
              rw [htk] at hx
              rcases List.mem_append.1 hx with hx | hx
              · exact q.2 x hx
              · rw [List.mem_singleton] at hx
                subst hx
                intro _ h
                rw [Int.toNat_natCast, ← e, hb] at h
                cases h
            | true =>
              simp only [go_sem, Nat.reduceEqDiff, Nat.reduceBEq, Nat.reduceAdd, Nat.reduceMul, Nat.reduceSub, Nat.reduceLeDiff, Nat.reduceLT, reduceIte, reduceCtorEq, Int.reduceToNat, Int.reduceLE, Int.reduceLT, Int.reduceNeg, Bool.not_not, and_self, Bool.and_eq_false_iff, Int.cast_ofNat_Int, Int.reduceAdd, Int.reduceSub, Int.reduceMul, Int.reduceEq, Int.reduceNe, B15_2, hii, getD_map hil, hRg, wf_intss, show (k : Int) < (R.length : Int) by omega, getD_map hkl, wf_ints, hy, show (0 : Int) ≤ (y : Int) by omega, List.length_map, bool_at hyl, hb, bool_set, bool_at hio]
              refine ⟨by omega, hyl, hio, ⟨by omega, by omega⟩, (k + 1, on2.set i true), rfl, ⟨hkl, by rw [set_len]; exact hl2, hs2.set hio (.step hil hmem (hs2 y hb)), hg2.set hio fun e h q => ⟨q.1, fun x hx => ?_⟩⟩, by simp only; omega⟩
              rw [htk] at hx
              rcases List.mem_append.1 hx with hx | hx
              · exact q.2 x hx
              · intro _ _
                rw [← e]; exact h
        · simp only [go_sem, Nat.reduceEqDiff, Nat.reduceBEq, Nat.reduceAdd, Nat.reduceMul, Nat.reduceSub, Nat.reduceLeDiff, Nat.reduceLT, reduceIte, reduceCtorEq, Int.reduceToNat, Int.reduceLE, Int.reduceLT, Int.reduceNeg, Bool.not_not, and_self, Bool.and_eq_false_iff, Int.cast_ofNat_Int, Int.reduceAdd, Int.reduceSub, Int.reduceMul, Int.reduceEq, Int.reduceNe, B15_2, hii, getD_map hil, hRg, wf_intss, show ¬ (k : Int) < (R.length : Int) by omega]
          refine ⟨⟨by omega, by omega⟩, (i + 1, on2), rfl, ⟨hil, hl2, hs2, hg2.imp fun _ q j hj => ?_⟩, by simp only; omega⟩
          by_cases hji : j = i
          · subst hji
            exact ⟨q.1.2, fun x hx => q.2 x (by rw [List.take_of_length_le (by omega), hR]; exact hx)⟩
          · exact q.1.1 j (by omega)
      · have hdl : d.Live i := .done hil (by rw [← hdn]; intro h; rw [h] at hd0; exact hd0 rfl)
        have hio : i < on.length := by omega
        have hg1 : Grow on0 (on.set i true) ((∀ j, j < i → OkL d on0 j) ∧ (d.done.getD i [] ≠ [] → on0.getD i false = true)) := hg.set hio fun e h q => ⟨q, fun _ => by rw [← e]; exact h⟩
        have hl1 : (on.set i true).length = d.next.length := by rw [set_len]; exact hl
        have hs1 := hs.set hio hdl
        simp only [go_sem, Nat.reduceEqDiff, Nat.reduceBEq, Nat.reduceAdd, Nat.reduceMul, Nat.reduceSub, Nat.reduceLeDiff, Nat.reduceLT, reduceIte, reduceCtorEq, Int.reduceToNat, Int.reduceLE, Int.reduceLT, Int.reduceNeg, Bool.not_not, and_self, Bool.and_eq_false_iff, Int.cast_ofNat_Int, Int.reduceAdd, Int.reduceSub, Int.reduceMul, Int.reduceEq, Int.reduceNe, B15_1, hii, hii', getD_map hid, hdg, wf_intss, show (0 : Int) < (dn.length : Int) by omega, bool_set, List.length_map, bool_at hio]
        refine ⟨hio, ?_⟩
        generalize on.set i true = on1 at hl1 hs1 hg1
        refine run_loopN (T := Nat × List Bool) [1, 3, 4, 5, 13, 14] [1, 10] (fun t => ⟨[(1, .ptr 1 0), (3, .row 10 0 d.next.length), (4, .pv (pI i)), (5, .pv (pI t.1)), (13, .pv (pI d.next.length)), (14, .pv (pI r))], lvS d t.2⟩)
          (fun t => t.1 ≤ R.length ∧ t.2.length = d.next.length ∧ SndL d t.2 ∧ Grow on0 t.2 (((∀ j, j < i → OkL d on0 j) ∧ (d.done.getD i [] ≠ [] → on0.getD i false = true)) ∧ ∀ x ∈ R.take t.1, 0 ≤ x → on0.getD x.toNat false = true → on0.getD i false = true)) (fun t => R.length - t.1) (0, on1) ?_ ⟨Nat.zero_le _, hl1, hs1, hg1.imp fun _ h => ⟨h, fun x hx => absurd hx (by simp)⟩⟩ ?_
        · simp only [go_sem, Nat.reduceEqDiff, Nat.reduceBEq, Nat.reduceAdd, Nat.reduceMul, Nat.reduceSub, Nat.reduceLeDiff, Nat.reduceLT, reduceIte, reduceCtorEq, Int.reduceToNat, Int.reduceLE, Int.reduceLT, Int.reduceNeg, Bool.not_not, and_self, Bool.and_eq_false_iff, Int.cast_ofNat_Int, Int.reduceAdd, Int.reduceSub, Int.reduceMul, Int.reduceEq, Int.reduceNe]
        clear hg1 hl1 hs1
        rintro ⟨k, on2⟩ ⟨hk, hl2, hs2, hg2⟩
        simp only at hk hl2 hs2 hg2
        by_cases hkl : k < R.length
        · have hr2 := hrow R[k] (List.getElem_mem hkl)
          have htk : R.take (k + 1) = R.take k ++ [R[k]] := List.take_succ_eq_append_getElem hkl
          have hio : i < on2.length := by omega
          by_cases h0 : R[k] < 0
          · simp only [go_sem, Nat.reduceEqDiff, Nat.reduceBEq, Nat.reduceAdd, Nat.reduceMul, Nat.reduceSub, Nat.reduceLeDiff, Nat.reduceLT, reduceIte, reduceCtorEq, Int.reduceToNat, Int.reduceLE, Int.reduceLT, Int.reduceNeg, Bool.not_not, and_self, Bool.and_eq_false_iff, Int.cast_ofNat_Int, Int.reduceAdd, Int.reduceSub, Int.reduceMul, Int.reduceEq, Int.reduceNe, B15_2, hii, getD_map hil, hRg, wf_intss, show (k : Int) < (R.length : Int) by omega, getD_map hkl, wf_ints, show ¬ (0 : Int) ≤ R[k] by omega]
            refine ⟨⟨by omega, by omega⟩, (k + 1, on2), rfl, ⟨hkl, hl2, hs2, hg2.imp fun _ q => ⟨q.1, fun x hx => ?_⟩⟩, by simp only; omega⟩
            rw [htk] at hx
            rcases List.mem_append.1 hx with hx | hx
            · exact q.2 x hx
            · rw [List.mem_singleton] at hx; subst hx; intro h; omega
          · obtain ⟨y, hy⟩ : ∃ y : Nat, R[k] = (y : Int) := ⟨R[k].toNat, by omega⟩
            have hyl : y < on2.length := by omega
            have hmem : (y : Int) ∈ d.next.getD i [] := by rw [← hR, ← hy]; exact List.getElem_mem hkl
            rw [hy] at hr2 htk
            cases hb : on2.getD y false with
            | false =>
              simp only [go_sem, Nat.reduceEqDiff, Nat.reduceBEq, Nat.reduceAdd, Nat.reduceMul, Nat.reduceSub, Nat.reduceLeDiff, Nat.reduceLT, reduceIte, reduceCtorEq, Int.reduceToNat, Int.reduceLE, Int.reduceLT, Int.reduceNeg, Bool.not_not, and_self, Bool.and_eq_false_iff, Int.cast_ofNat_Int, Int.reduceAdd, Int.reduceSub, Int.reduceMul, Int.reduceEq, Int.reduceNe, B15_2, hii, getD_map hil, hRg, wf_intss, show (k : Int) < (R.length : Int) by omega, getD_map hkl, wf_ints, hy, show (0 : Int) ≤ (y : Int) by omega, List.length_map, bool_at hyl, hb]
              refine ⟨by omega, hyl, ⟨by omega, by omega⟩, (k + 1, on2), rfl, ⟨hkl, hl2, hs2, hg2.imp fun e q => ⟨q.1, fun x hx => ?_⟩⟩, by simp only; omega⟩
              rw [htk] at hx
              rcases List.mem_append.1 hx with hx | hx
              · exact q.2 x hx
              · rw [List.mem_singleton] at hx
                subst hx
                intro _ h
                rw [Int.toNat_natCast, ← e, hb] at h
                cases h
            | true =>
              simp only [go_sem, Nat.reduceEqDiff, Nat.reduceBEq, Nat.reduceAdd, Nat.reduceMul, Nat.reduceSub, Nat.reduceLeDiff, Nat.reduceLT, reduceIte, reduceCtorEq, Int.reduceToNat, Int.reduceLE, Int.reduceLT, Int.reduceNeg, Bool.not_not, and_self, Bool.and_eq_false_iff, Int.cast_ofNat_Int, Int.reduceAdd, Int.reduceSub, Int.reduceMul, Int.reduceEq, Int.reduceNe, B15_2, hii, getD_map hil, hRg, wf_intss, show (k : Int) < (R.length : Int) by omega, getD_map hkl, wf_ints, hy, show (0 : Int) ≤ (y : Int) by omega, List.length_map, bool_at hyl, hb, bool_set, bool_at hio]
              refine ⟨by omega, hyl, hio, ⟨by omega, by omega⟩, (k + 1, on2.set i true), rfl, ⟨hkl, by rw [set_len]; exact hl2, hs2.set hio (.step hil hmem (hs2 y hb)), hg2.set hio fun e h q => ⟨q.1, fun x hx => ?_⟩⟩, by simp only; omega⟩
              rw [htk] at hx
              rcases List.mem_append.1 hx with hx | hx
              · exact q.2 x hx
              · intro _ _
                rw [← e]; exact h
        · simp only [go_sem, Nat.reduceEqDiff, Nat.reduceBEq, Nat.reduceAdd, Nat.reduceMul, Nat.reduceSub, Nat.reduceLeDiff, Nat.reduceLT, reduceIte, reduceCtorEq, Int.reduceToNat, Int.reduceLE, Int.reduceLT, Int.reduceNeg, Bool.not_not, and_self, Bool.and_eq_false_iff, Int.cast_ofNat_Int, Int.reduceAdd, Int.reduceSub, Int.reduceMul, Int.reduceEq, Int.reduceNe, B15_2, hii, getD_map hil, hRg, wf_intss, show ¬ (k : Int) < (R.length : Int) by omega]
          refine ⟨⟨by omega, by omega⟩, (i + 1, on2), rfl, ⟨hil, hl2, hs2, hg2.imp fun _ q j hj => ?_⟩, by simp only; omega⟩
          by_cases hji : j = i
          · subst hji
            exact ⟨q.1.2, fun x hx => q.2 x (by rw [List.take_of_length_le (by omega), hR]; exact hx)⟩
          · exact q.1.1 j (by omega)
    · simp only [go_sem, Nat.reduceEqDiff, Nat.reduceBEq, Nat.reduceAdd, Nat.reduceMul, Nat.reduceSub, Nat.reduceLeDiff, Nat.reduceLT, reduceIte, reduceCtorEq, Int.reduceToNat, Int.reduceLE, Int.reduceLT, Int.reduceNeg, Bool.not_not, and_self, Bool.and_eq_false_iff, Int.cast_ofNat_Int, Int.reduceAdd, Int.reduceSub, Int.reduceMul, Int.reduceEq, Int.reduceNe, B15_1, show ¬ (i : Int) < (d.next.length : Int) by omega]
      obtain rfl : i = d.next.length := by omega
      exact ⟨⟨by omega, by omega⟩, (r + 1, on), rfl, ⟨hrl, hl, hs, round_live (by rw [hl, hl0]) hs hc0 hg⟩, by simp only; omega⟩
  · obtain rfl : r = d.next.length := by omega
    simp only [go_sem, Nat.reduceEqDiff, Nat.reduceBEq, Nat.reduceAdd, Nat.reduceMul, Nat.reduceSub, Nat.reduceLeDiff, Nat.reduceLT, reduceIte, reduceCtorEq, Int.reduceToNat, Int.reduceLE, Int.reduceLT, Int.reduceNeg, Bool.not_not, and_self, Bool.and_eq_false_iff, Int.cast_ofNat_Int, Int.reduceAdd, Int.reduceSub, Int.reduceMul, Int.reduceEq, Int.reduceNe, B15_0, R15_0, show ¬ (d.next.length : Int) < (d.next.length : Int) by omega]
    rw [rounds_live hl0 hs0 hc0]
    exact ⟨by simp, rfl⟩
end Go.Vc

namespace Go.Vc
open Go.Proofs
set_option linter.unusedSimpArgs false
set_option linter.unusedVariables false

/-! ## the document's 'Apart' -/
abbrev rowT (n : Nat) (L : T2) (a : Nat) : List PV := tb n fun k => pB (L a k)
theorem rowT_len (n : Nat) (L : T2) (a : Nat) : (rowT n L a).length = n := tb_len _ _
theorem rowT_get {n a k : Nat} {L : T2} {d : PV} (h : k < n) : (rowT n L a).getD k d = pB (L a k) := tb_get h
theorem slotsT_get {m n k : Nat} {L : T2} (h : k < m) : (slots m (rowT n L)).getD k .un = .row (100000 + k) 0 n := by rw [slots_get h, rowT_len]
theorem rowT_set {n i k : Nat} {L : T2} (h : k < n) : (fun j => if j = i then (rowT n L i).set k (pB true) else rowT n L j) = rowT n (setT L i k) := by
  funext j
  by_cases hj : j = i
  · subst hj
    rw [if_pos rfl, tb_set h]
    refine tb_ext fun q _ => ?_
    unfold setT
    by_cases hq : q = k
    · rw [if_pos hq, if_pos ⟨rfl, hq⟩]
    · rw [if_neg hq, if_neg fun e => hq e.2]
  · rw [if_neg hj]
    refine tb_ext fun q _ => ?_
    unfold setT
    rw [if_neg fun e => hj e.1]
theorem keep_set {m i : Nat} {L : Nat → List PV} {xs : List PV} {A B : Row} (hm : m ≤ 1000) (hi : i < m) :
    stKeep ((100000 + i, .sl 1 xs) :: (2, A) :: (29, B) :: stDel (fam m L) (100000 + i)) famN = fam m (fun j => if j = i then xs else L j) := by
  rw [← stKeep_grow hm hi]
  refine stKeep_ext fun t ht => ?_
  have h1 : 2 ≠ t := fun e => by subst e; rw [famN_out (by omega)] at ht; exact ht
  have h2 : 29 ≠ t := fun e => by subst e; rw [famN_out (by omega)] at ht; exact ht
  simp only [stGet, if_neg h1, if_neg h2]
def baseT (d : DI) : T2 := fun a b => !decide (d.done.getD a [] = d.done.getD b [])
def growT (d : DI) (i k : Nat) : T2 := fun a b => if a = i ∧ k ≤ b then false else baseT d a b
abbrev apR (d : DI) (L : T2) (i : Nat) : List (Nat × Row) := (2, .box (dBox d)) :: (29, .bxs (slots i (rowT d.next.length L))) :: fam i (rowT d.next.length L)
noncomputable abbrev apF (d : DI) (v : AV) : List (Nat × AV) := [(1, .pv (bools (liveL d))), (2, .ptr 2 0), (5, .pv (pI d.next.length)), (6, v)]
noncomputable def A0 (d : DI) (i : Nat) : St := if i = 0 then ⟨apF d .e0 ++ [(7, .pv (pI 0))], [(2, .box (dBox d))]⟩ else ⟨apF d (.row 29 0 i) ++ [(7, .pv (pI i))], apR d (baseT d) i⟩
theorem A0_z {d : DI} : A0 d 0 = ⟨apF d .e0 ++ [(7, .pv (pI 0))], [(2, .box (dBox d))]⟩ := rfl
theorem A0_s {d : DI} {i : Nat} (h : 0 < i) : A0 d i = ⟨apF d (.row 29 0 i) ++ [(7, .pv (pI i))], apR d (baseT d) i⟩ := by unfold A0; rw [if_neg (by omega)]
theorem growT_end {d : DI} {i : Nat} : ∀ j, j < i + 1 → rowT d.next.length (growT d i d.next.length) j = rowT d.next.length (baseT d) j := fun j _ => tb_ext fun k hk => by
  unfold growT; rw [if_neg (by omega)]
theorem growT_zero {d : DI} {i : Nat} {xs : List PV} (hx : xs = List.replicate d.next.length (pB false)) : ∀ j, j < i + 1 → addL (rowT d.next.length (baseT d)) i xs j = rowT d.next.length (growT d i 0) j := fun j hj => by
  unfold addL
  by_cases h : j = i
  · rw [if_pos h, hx, tb_rep]
    exact tb_ext fun k _ => by unfold growT; rw [if_pos ⟨h, Nat.zero_le _⟩]
  · rw [if_neg h]
    exact tb_ext fun k _ => by unfold growT; rw [if_neg (fun e => h e.1)]
theorem growT_succ {d : DI} {i k : Nat} (hk : k < d.next.length) : (fun j => if j = i then (rowT d.next.length (growT d i k) i).set k (pB (baseT d i k)) else rowT d.next.length (growT d i k) j) = rowT d.next.length (growT d i (k + 1)) := by
  funext j
  by_cases hj : j = i
  · subst hj
    rw [if_pos rfl, tb_set hk]
    refine tb_ext fun q _ => ?_
    unfold growT
    by_cases hq : q = k
    · subst hq; rw [if_pos rfl, if_neg (by omega)]
    · rw [if_neg hq]
      by_cases h2 : k ≤ q
      · rw [if_pos ⟨rfl, h2⟩, if_pos ⟨rfl, by omega⟩]
      · rw [if_neg (by omega), if_neg (by omega)]
  · rw [if_neg hj]
    refine tb_ext fun q _ => ?_
    unfold growT
    rw [if_neg (fun e => hj e.1), if_neg (fun e => hj e.1)]
theorem clip_slots {c i : Nat} {L : Nat → List PV} (h : c < 100000) : AV.clips (only c) (slots i L) = slots i L := by
  unfold slots
  rw [clips_eq, tb_map]
  refine tb_ext fun j hj => ?_
  have hon : only c (100000 + j) = false := by simp [only]; omega
  simp only [AV.clip, hon, Bool.false_eq_true, if_false]
theorem stClip_fam {D : Nat → Bool} {i : Nat} {L : Nat → List PV} : stClip D (fam i L) = fam i L := stClip_famF
theorem stDel_fam {c i : Nat} {L : Nat → List PV} (h : c < 100000) : stDel (fam i L) c = fam i L := stDel_famF (.inl (by omega))
theorem clips_app (D : Nat → Bool) : ∀ a b : List AV, AV.clips D (a ++ b) = AV.clips D a ++ AV.clips D b
  | [], _ => rfl
  | x :: a, b => by simp only [List.cons_append, AV.clips, clips_app D a b]
/-- one row of it -/
theorem apart_row (d : DI) (hd : d.Ok) (hds : ∀ i, (d.done.getD i []).length ≤ 1000) {i : Nat} (hi : i < d.next.length) {R : Exit → St → Prop} {K : List KI}
    (h : kont Tryd.prog R K .normal ⟨apF d (.row 29 0 (i + 1)) ++ [(7, .pv (pI i)), (8, .pv (pI d.next.length)), (32, .pv (.sc (.bool false)))], apR d (baseT d) (i + 1)⟩) :
    run Tryd.prog R (.loop B16_1) (.blk 2 :: K) ⟨apF d (.row 29 0 (i + 1)) ++ [(7, .pv (pI i)), (8, .pv (pI 0))], (2, .box (dBox d)) :: (27, .sl 1 (List.replicate d.next.length (pB false))) :: (29, .bxs (slots i (rowT d.next.length (baseT d)) ++ [.row 27 0 d.next.length])) :: fam i (rowT d.next.length (baseT d))⟩ := by
  have hn := hd.n
  have hdn := hd.done
  refine run_loopX (T := Nat) [1, 2, 5, 6, 7, 8] (2 :: 29 :: famN) (fun k => ⟨apF d (.row 29 0 (i + 1)) ++ [(7, .pv (pI i)), (8, .pv (pI k))], apR d (growT d i k) (i + 1)⟩) (fun k => k ≤ d.next.length) (fun k => d.next.length - k) 0 ?_ (Nat.zero_le _) ?_
  · refine ⟨_, Weak.slot (by omega) (by simp) rfl, ?_⟩
    simp only [go_sem, Nat.reduceEqDiff, Nat.reduceBEq, Nat.reduceAdd, Nat.reduceMul, Nat.reduceSub, Nat.reduceLeDiff, Nat.reduceLT, reduceIte, reduceCtorEq, Int.reduceToNat, Int.reduceLE, Int.reduceLT, Int.reduceNeg, Bool.not_not, and_self, Bool.and_eq_false_iff, Int.cast_ofNat_Int, Int.reduceAdd, Int.reduceSub, Int.reduceMul, Int.reduceEq, Int.reduceNe, apF, famN_out, stKeep_skip, stKeep_fam (show i + 1 ≤ 1000 by omega)]
    rw [slots_ext (growT_zero rfl), fam_ext (growT_zero rfl)]
  intro k hk
  by_cases hkl : k < d.next.length
  · obtain ⟨r, hr⟩ : ∃ r, r = 100000 + i := ⟨_, rfl⟩
    have g1 := slotsT_get (m := i + 1) (n := d.next.length) (k := i) (L := growT d i k) (by omega)
    have g2 := stGet_fam (n := i + 1) (L := rowT d.next.length (growT d i k)) (k := i) (by omega)
    rw [← hr] at g1 g2
    have hii : i < d.done.length := by omega
    have hkk : k < d.done.length := by omega
    have e1 : d.done[i] = d.done.getD i [] := (getD_at hii).symm
    have e2 : d.done[k] = d.done.getD k [] := (getD_at hkk).symm
    have c23 := fn23 (d.done.getD i []) (d.done.getD k []) (by have := hds i; omega) (by have := hds k; omega)
    simp only [go_sem, Nat.reduceEqDiff, Nat.reduceBEq, Nat.reduceAdd, Nat.reduceMul, Nat.reduceSub, Nat.reduceLeDiff, Nat.reduceLT, reduceIte, reduceCtorEq, Int.reduceToNat, Int.reduceLE, Int.reduceLT, Int.reduceNeg, Bool.not_not, and_self, Bool.and_eq_false_iff, Int.cast_ofNat_Int, Int.reduceAdd, Int.reduceSub, Int.reduceMul, Int.reduceEq, Int.reduceNe, B16_1, apF, apR, stKeep_skip, famN_out, stKeep_fam (show i + 1 ≤ 1000 by omega), show (k : Int) < (d.next.length : Int) by omega, g1, g2, slots_len, show ¬ 2 = r by omega, show ¬ 29 = r by omega, show ¬ r = 2 by omega, show ¬ r = 29 by omega, getD_map hii, getD_map hkk, e1, e2, wf_intss]
    refine ⟨by omega, by omega, by omega, by omega, ?_⟩
    refine runR_call (by simp only [go_sem, Nat.reduceEqDiff, Nat.reduceBEq, Nat.reduceAdd, Nat.reduceMul, Nat.reduceSub, Nat.reduceLeDiff, Nat.reduceLT, reduceIte, reduceCtorEq, Int.reduceToNat, Int.reduceLE, Int.reduceLT, Int.reduceNeg, Bool.not_not, and_self, Bool.and_eq_false_iff, Int.cast_ofNat_Int, Int.reduceAdd, Int.reduceSub, Int.reduceMul, Int.reduceEq, Int.reduceNe]) rfl (c23) (.inl rfl) trivial ?_
    simp only [go_sem, Nat.reduceEqDiff, Nat.reduceBEq, Nat.reduceAdd, Nat.reduceMul, Nat.reduceSub, Nat.reduceLeDiff, Nat.reduceLT, reduceIte, reduceCtorEq, Int.reduceToNat, Int.reduceLE, Int.reduceLT, Int.reduceNeg, Bool.not_not, and_self, Bool.and_eq_false_iff, Int.cast_ofNat_Int, Int.reduceAdd, Int.reduceSub, Int.reduceMul, Int.reduceEq, Int.reduceNe, stKeep_skip, famN_out, g1, g2, show ¬ 2 = r by omega, show ¬ 29 = r by omega, show ¬ r = 2 by omega, show ¬ r = 29 by omega, rowT_len, rowT_get hkl]
    refine ⟨by omega, hkl, ⟨by omega, by omega⟩, k + 1, ⟨_, Weak.refl' _, ?_⟩, hkl, by omega⟩
    have hg := growT_succ (d := d) (i := i) hkl
    simp only [baseT] at hg
    rw [hr, keep_set (by omega) (by omega), hg, stKeep_fam (by omega)]
    have hsl : slots (i + 1) (rowT d.next.length (growT d i k)) = slots (i + 1) (rowT d.next.length (growT d i (k + 1))) := by
      unfold slots
      exact tb_ext fun q _ => by rw [rowT_len, rowT_len]
    rw [hsl]
    simp only [go_sem, Nat.reduceEqDiff, Nat.reduceBEq, Nat.reduceAdd, Nat.reduceMul, Nat.reduceSub, Nat.reduceLeDiff, Nat.reduceLT, reduceIte, reduceCtorEq, Int.reduceToNat, Int.reduceLE, Int.reduceLT, Int.reduceNeg, Bool.not_not, and_self, Bool.and_eq_false_iff, Int.cast_ofNat_Int, Int.reduceAdd, Int.reduceSub, Int.reduceMul, Int.reduceEq, Int.reduceNe, stKeep_skip, famN_out, stKeep_fam (show i + 1 ≤ 1000 by omega)]
    rfl
  · obtain rfl : k = d.next.length := by omega
    simp only [go_sem, Nat.reduceEqDiff, Nat.reduceBEq, Nat.reduceAdd, Nat.reduceMul, Nat.reduceSub, Nat.reduceLeDiff, Nat.reduceLT, reduceIte, reduceCtorEq, Int.reduceToNat, Int.reduceLE, Int.reduceLT, Int.reduceNeg, Bool.not_not, and_self, Bool.and_eq_false_iff, Int.cast_ofNat_Int, Int.reduceAdd, Int.reduceSub, Int.reduceMul, Int.reduceEq, Int.reduceNe, B16_1, apF, apR, stKeep_skip, famN_out, stKeep_fam (show i + 1 ≤ 1000 by omega), show ¬ (d.next.length : Int) < (d.next.length : Int) by omega]
    rw [slots_ext growT_end, fam_ext growT_end]
    exact h
/-- the first part: what is done in them -/
theorem apart_base (d : DI) (hd : d.Ok) (hds : ∀ i, (d.done.getD i []).length ≤ 1000) {R : Exit → St → Prop} {K : List KI} (h : run Tryd.prog R R16_0 K ⟨apF d (.row 29 0 d.next.length) ++ [(7, .pv (pI d.next.length)), (22, .pv (.sc (.bool false)))], apR d (baseT d) d.next.length⟩) :
    run Tryd.prog R (.loop B16_0) (.blk 0 :: .code R16_0 :: K) (A0 d 0) := by
  have hn := hd.n
  have hn0 := hd.n0
  have hdn := hd.done
  refine run_loopX (T := Nat) [1, 2, 5, 6, 7] (2 :: 29 :: famN) (A0 d) (fun i => i ≤ d.next.length) (fun i => d.next.length - i) 0 ?_ (Nat.zero_le _) ?_
  · refine ⟨A0 d 0, Weak.refl' _, ?_⟩
    rw [A0_z]
    simp only [go_sem, Nat.reduceEqDiff, Nat.reduceBEq, Nat.reduceAdd, Nat.reduceMul, Nat.reduceSub, Nat.reduceLeDiff, Nat.reduceLT, reduceIte, reduceCtorEq, Int.reduceToNat, Int.reduceLE, Int.reduceLT, Int.reduceNeg, Bool.not_not, and_self, Bool.and_eq_false_iff, Int.cast_ofNat_Int, Int.reduceAdd, Int.reduceSub, Int.reduceMul, Int.reduceEq, Int.reduceNe, apF, famN_out, stKeep_skip, stKeep_none]
  intro i hi
  by_cases hil : i < d.next.length
  · have key : ∀ k0 : AV, ∀ B : List AV, True := fun _ _ => trivial
    by_cases h0 : i = 0
    · subst h0
      rw [A0_z]
      simp only [go_sem, Nat.reduceEqDiff, Nat.reduceBEq, Nat.reduceAdd, Nat.reduceMul, Nat.reduceSub, Nat.reduceLeDiff, Nat.reduceLT, reduceIte, reduceCtorEq, Int.reduceToNat, Int.reduceLE, Int.reduceLT, Int.reduceNeg, Bool.not_not, and_self, Bool.and_eq_false_iff, Int.cast_ofNat_Int, Int.reduceAdd, Int.reduceSub, Int.reduceMul, Int.reduceEq, Int.reduceNe, B16_0, apF, stKeep_skip, famN_out, stKeep_none, show (0 : Int) < (d.next.length : Int) by omega]
      refine ⟨⟨by omega, by omega, by omega⟩, ?_⟩
      refine apart_row d hd hds (i := 0) hil ?_
      simp only [go_sem, Nat.reduceEqDiff, Nat.reduceBEq, Nat.reduceAdd, Nat.reduceMul, Nat.reduceSub, Nat.reduceLeDiff, Nat.reduceLT, reduceIte, reduceCtorEq, Int.reduceToNat, Int.reduceLE, Int.reduceLT, Int.reduceNeg, Bool.not_not, and_self, Bool.and_eq_false_iff, Int.cast_ofNat_Int, Int.reduceAdd, Int.reduceSub, Int.reduceMul, Int.reduceEq, Int.reduceNe, apF, apR, stKeep_skip, famN_out, stKeep_fam (show 1 ≤ 1000 by omega)]
      refine ⟨1, ⟨_, Weak.refl' _, ?_⟩, by omega, by omega⟩
      rw [A0_s (by omega)]
      simp only [go_sem, Nat.reduceEqDiff, Nat.reduceBEq, Nat.reduceAdd, Nat.reduceMul, Nat.reduceSub, Nat.reduceLeDiff, Nat.reduceLT, reduceIte, reduceCtorEq, Int.reduceToNat, Int.reduceLE, Int.reduceLT, Int.reduceNeg, Bool.not_not, and_self, Bool.and_eq_false_iff, Int.cast_ofNat_Int, Int.reduceAdd, Int.reduceSub, Int.reduceMul, Int.reduceEq, Int.reduceNe, stKeep_skip, famN_out, stKeep_fam (show 1 ≤ 1000 by omega), apF]
    · have hA := A0_s (d := d) (i := i) (by omega)
      rw [hA]
      simp only [go_sem, Nat.reduceEqDiff, Nat.reduceBEq, Nat.reduceAdd, Nat.reduceMul, Nat.reduceSub, Nat.reduceLeDiff, Nat.reduceLT, reduceIte, reduceCtorEq, Int.reduceToNat, Int.reduceLE, Int.reduceLT, Int.reduceNeg, Bool.not_not, and_self, Bool.and_eq_false_iff, Int.cast_ofNat_Int, Int.reduceAdd, Int.reduceSub, Int.reduceMul, Int.reduceEq, Int.reduceNe, B16_0, apF, apR, stKeep_skip, famN_out, stKeep_fam, hn, show (i : Int) < (d.next.length : Int) by omega, slots_len, clips_length, clip_slots, stClip_fam, stDel_fam, clips_app, stKeep_fam (show i ≤ 1000 by omega)]
      refine ⟨⟨by omega, by omega, by omega⟩, ⟨by omega, by omega, by omega⟩, ?_⟩
      refine apart_row d hd hds (i := i) hil ?_
      simp only [go_sem, Nat.reduceEqDiff, Nat.reduceBEq, Nat.reduceAdd, Nat.reduceMul, Nat.reduceSub, Nat.reduceLeDiff, Nat.reduceLT, reduceIte, reduceCtorEq, Int.reduceToNat, Int.reduceLE, Int.reduceLT, Int.reduceNeg, Bool.not_not, and_self, Bool.and_eq_false_iff, Int.cast_ofNat_Int, Int.reduceAdd, Int.reduceSub, Int.reduceMul, Int.reduceEq, Int.reduceNe, apF, apR, stKeep_skip, famN_out, stKeep_fam (show i + 1 ≤ 1000 by omega)]
      refine ⟨⟨by omega, by omega⟩, i + 1, ⟨_, Weak.refl' _, ?_⟩, by omega, by omega⟩
      rw [A0_s (by omega)]
      simp only [go_sem, Nat.reduceEqDiff, Nat.reduceBEq, Nat.reduceAdd, Nat.reduceMul, Nat.reduceSub, Nat.reduceLeDiff, Nat.reduceLT, reduceIte, reduceCtorEq, Int.reduceToNat, Int.reduceLE, Int.reduceLT, Int.reduceNeg, Bool.not_not, and_self, Bool.and_eq_false_iff, Int.cast_ofNat_Int, Int.reduceAdd, Int.reduceSub, Int.reduceMul, Int.reduceEq, Int.reduceNe, stKeep_skip, famN_out, stKeep_fam (show i + 1 ≤ 1000 by omega), apF]
      first | done | rfl
  · obtain rfl : i = d.next.length := by omega
    have h0 := A0_s (d := d) hn0
    rw [h0]
    simp only [go_sem, Nat.reduceEqDiff, Nat.reduceBEq, Nat.reduceAdd, Nat.reduceMul, Nat.reduceSub, Nat.reduceLeDiff, Nat.reduceLT, reduceIte, reduceCtorEq, Int.reduceToNat, Int.reduceLE, Int.reduceLT, Int.reduceNeg, Bool.not_not, and_self, Bool.and_eq_false_iff, Int.cast_ofNat_Int, Int.reduceAdd, Int.reduceSub, Int.reduceMul, Int.reduceEq, Int.reduceNe, B16_0, apF, apR, stKeep_skip, famN_out, stKeep_fam hn, show ¬ (d.next.length : Int) < (d.next.length : Int) by omega]
    exact h
end Go.Vc

namespace Go.Vc
open Go.Proofs
set_option linter.unusedSimpArgs false
set_option linter.unusedVariables false

/-! ## 'Apart': till no more are found -/
def GrT (d : DI) (L0 L : T2) (ag : Bool) (Q : Prop) : Prop := (ag = false ∧ L = L0 ∧ Q) ∨ (ag = true ∧ cntT d.next.length L0 < cntT d.next.length L)
theorem GrT.imp {d : DI} {L0 L : T2} {ag : Bool} {Q Q' : Prop} (h : GrT d L0 L ag Q) (f : L = L0 → Q → Q') : GrT d L0 L ag Q' := Or.imp (fun ⟨a, b, c⟩ => ⟨a, b, f b c⟩) id h
theorem GrT.set {d : DI} {L0 L : T2} {ag : Bool} {Q Q' : Prop} (h : GrT d L0 L ag Q) {i k : Nat} (hi : i < d.next.length) (hk : k < d.next.length) (hL : L i k = false) : GrT d L0 (setT L i k) true Q' := by
  have := cntT_set hi hk hL
  rcases h with ⟨_, rfl, _⟩ | ⟨_, h⟩
  · exact .inr ⟨rfl, by omega⟩
  · exact .inr ⟨rfl, by omega⟩
structure Q5 (d : DI) (L0 : T2) (i k s : Nat) : Prop where
  rows : ∀ a b, a < i → b < d.next.length → CloP d L0 a b (d.signs.length + 1)
  row : ∀ b, b < k → CloP d L0 i b (d.signs.length + 1)
  at_ : CloP d L0 i k s
structure Q4 (d : DI) (L0 : T2) (i k : Nat) : Prop where
  rows : ∀ a b, a < i → b < d.next.length → CloP d L0 a b (d.signs.length + 1)
  row : ∀ b, b < k → CloP d L0 i b (d.signs.length + 1)
theorem part_t (p q : Prop) [Decidable p] [Decidable q] (u v w : Bool) (h : ((decide p && u) == (decide q && v)) = false ∨ ((p ∧ u = true) ∧ q ∧ v = true) ∧ w = true) : ((decide p && u) != (decide q && v) || decide p && u && (decide q && v) && w) = true := by
  by_cases hp : p <;> by_cases hq : q <;> cases u <;> cases v <;> cases w <;> simp_all
theorem part_f (p q : Prop) [Decidable p] [Decidable q] (u v w : Bool) (h : ((decide p && u) == (decide q && v)) = true ∧ (((¬ p ∨ u = false) ∨ ¬ q ∨ v = false) ∨ w = false)) : ((decide p && u) != (decide q && v) || decide p && u && (decide q && v) && w) = false := by
  by_cases hp : p <;> by_cases hq : q <;> cases u <;> cases v <;> cases w <;> simp_all
theorem slotsT_eq {m n : Nat} (L L' : T2) : slots m (rowT n L) = slots m (rowT n L') := by
  unfold slots
  exact tb_ext fun q _ => by rw [rowT_len, rowT_len]
set_option maxHeartbeats 1000000 in
theorem apart_ways (d : DI) (hd : d.Ok) (hw : d.Wf) {L0 : T2} {i k : Nat} (hi : i < d.next.length) (hk : k < d.next.length) {R : Exit → St → Prop} {K : List KI}
    {L : T2} {ag : Bool} (hs : SndT d L) (hb : BasT d L) (hg : GrT d L0 L ag (Q4 d L0 i k))
    (h : ∀ L ag s, SndT d L → BasT d L → GrT d L0 L ag (Q4 d L0 i (k + 1)) → kont Tryd.prog R K .normal ⟨apF d (.row 29 0 d.next.length) ++ [(9, .pv (pB ag)), (10, .pv (pI i)), (11, .pv (pI k)), (12, .pv (pI s)), (81, .pv (.sc (.bool false)))], apR d L d.next.length⟩) :
    run Tryd.prog R (.loop B16_5) (.blk 10 :: K) ⟨apF d (.row 29 0 d.next.length) ++ [(9, .pv (pB ag)), (10, .pv (pI i)), (11, .pv (pI k)), (12, .pv (pI 0))], apR d L d.next.length⟩ := by
  have hn := hd.n
  have hsg := hd.signs
  refine run_loopX (T := Nat × T2 × Bool) [1, 2, 5, 6, 9, 10, 11, 12] (2 :: 29 :: famN) (fun t => ⟨apF d (.row 29 0 d.next.length) ++ [(9, .pv (pB t.2.2)), (10, .pv (pI i)), (11, .pv (pI k)), (12, .pv (pI t.1))], apR d t.2.1 d.next.length⟩)
    (fun t => t.1 ≤ d.signs.length + 1 ∧ SndT d t.2.1 ∧ BasT d t.2.1 ∧ GrT d L0 t.2.1 t.2.2 (Q5 d L0 i k t.1)) (fun t => d.signs.length + 1 - t.1) (0, L, ag) ?_ ⟨Nat.zero_le _, hs, hb, hg.imp fun _ q => ⟨q.rows, q.row, fun _ s hs => absurd hs (by omega)⟩⟩ ?_
  · refine ⟨_, Weak.refl' _, ?_⟩
    simp only [go_sem, Nat.reduceEqDiff, Nat.reduceBEq, Nat.reduceAdd, Nat.reduceMul, Nat.reduceSub, Nat.reduceLeDiff, Nat.reduceLT, reduceIte, reduceCtorEq, Int.reduceToNat, Int.reduceLE, Int.reduceLT, Int.reduceNeg, Bool.not_not, and_self, Bool.and_eq_false_iff, Int.cast_ofNat_Int, Int.reduceAdd, Int.reduceSub, Int.reduceMul, Int.reduceEq, Int.reduceNe, apF, famN_out, stKeep_skip, stKeep_fam hn]
  clear hs hb hg
  rintro ⟨s, L, ag⟩ ⟨hsl, hs, hb, hg⟩
  simp only at hsl hs hb hg
  obtain ⟨R1, hR1⟩ : ∃ R1, R1 = d.next.getD i [] := ⟨_, rfl⟩
  obtain ⟨R2, hR2⟩ : ∃ R2, R2 = d.next.getD k [] := ⟨_, rfl⟩
  have e1 : d.next[i] = R1 := by rw [hR1, getD_at hi]
  have e2 : d.next[k] = R2 := by rw [hR2, getD_at hk]
  have l1 : R1.length = d.signs.length + 1 := by rw [hR1]; exact hw.width i hi
  have l2 : R2.length = d.signs.length + 1 := by rw [hR2]; exact hw.width k hk
  obtain ⟨ri, hri⟩ : ∃ r, r = 100000 + i := ⟨_, rfl⟩
  have gi1 := slotsT_get (m := d.next.length) (n := d.next.length) (k := i) (L := L) hi
  have gi2 := stGet_fam (n := d.next.length) (L := rowT d.next.length L) (k := i) hi
  rw [← hri] at gi1 gi2
  by_cases hlt : s < R1.length
  · by_cases hL : L i k = true
    · simp only [go_sem, Nat.reduceEqDiff, Nat.reduceBEq, Nat.reduceAdd, Nat.reduceMul, Nat.reduceSub, Nat.reduceLeDiff, Nat.reduceLT, reduceIte, reduceCtorEq, Int.reduceToNat, Int.reduceLE, Int.reduceLT, Int.reduceNeg, Bool.not_not, and_self, Bool.and_eq_false_iff, Int.cast_ofNat_Int, Int.reduceAdd, Int.reduceSub, Int.reduceMul, Int.reduceEq, Int.reduceNe, B16_5, apF, apR, stKeep_skip, famN_out, stKeep_fam hn, getD_map hi, e1, wf_intss, show (s : Int) < (R1.length : Int) by omega, gi1, gi2, slots_len, show ¬ 2 = ri by omega, show ¬ 29 = ri by omega, show ¬ ri = 2 by omega, show ¬ ri = 29 by omega, rowT_get hk, hL, rowT_len]
      exact ⟨by omega, by omega, hi, by omega, hk, h L ag s hs hb (hg.imp fun e q => ⟨q.rows, fun b' hb' => if hbk : b' < k then q.row b' hbk else by
        obtain rfl : b' = k := by omega
        intro hf; rw [← e, hL] at hf; cases hf⟩)⟩
    · have hL : L i k = false := by simpa using hL
      have hs2 : s < R2.length := by omega
      obtain ⟨a, ha⟩ : ∃ a, a = stI d i s := ⟨_, rfl⟩
      obtain ⟨b, hb2⟩ : ∃ b, b = stI d k s := ⟨_, rfl⟩
      have ea : R1[s] = a := by rw [ha, stI, ← hR1, getD_at hlt]
      have eb : R2[s] = b := by rw [hb2, stI, ← hR2, getD_at hs2]
      have ra := stI_range hw i s
      have rb := stI_range hw k s
      rw [← ha] at ra
      rw [← hb2] at rb
      have na : a.toNat < d.next.length := by omega
      have nb : b.toNat < d.next.length := by omega
      have la : a.toNat < (liveL d).length := by rw [liveL_len]; exact na
      have lb : b.toNat < (liveL d).length := by rw [liveL_len]; exact nb
      obtain ⟨rz, hrz⟩ : ∃ r, r = 100000 + a.toNat := ⟨_, rfl⟩
      have ga1 := slotsT_get (m := d.next.length) (n := d.next.length) (k := a.toNat) (L := L) na
      have ga2 := stGet_fam (n := d.next.length) (L := rowT d.next.length L) (k := a.toNat) na
      rw [← hrz] at ga1 ga2
      simp only [go_sem, Nat.reduceEqDiff, Nat.reduceBEq, Nat.reduceAdd, Nat.reduceMul, Nat.reduceSub, Nat.reduceLeDiff, Nat.reduceLT, reduceIte, reduceCtorEq, Int.reduceToNat, Int.reduceLE, Int.reduceLT, Int.reduceNeg, Bool.not_not, and_self, Bool.and_eq_false_iff, Int.cast_ofNat_Int, Int.reduceAdd, Int.reduceSub, Int.reduceMul, Int.reduceEq, Int.reduceNe, B16_5, apF, apR, stKeep_skip, famN_out, stKeep_fam hn, getD_map hi, getD_map hk, getD_map hlt, getD_map hs2, e1, e2, ea, eb, wf_intss, wf_ints, show (s : Int) < (R1.length : Int) by omega, gi1, gi2, slots_len, show ¬ 2 = ri by omega, show ¬ 29 = ri by omega, show ¬ ri = 2 by omega, show ¬ ri = 29 by omega, rowT_get hk, hL, rowT_len,
        bool_at la, bool_at lb, ga1, ga2, show ¬ 2 = rz by omega, show ¬ 29 = rz by omega, show ¬ rz = 2 by omega, show ¬ rz = 29 by omega, rowT_get nb, List.length_map]
      refine ⟨by omega, by omega, hi, by omega, hk, by omega, by omega, by omega, fun h => ⟨h, h, by omega, wf_bls _⟩, fun h => ⟨h, h, by omega, wf_bls _⟩, fun h => ⟨h, ?_⟩, fun h => ⟨h, by omega, by omega⟩, fun h => ⟨h, na⟩, fun h => ⟨h, by omega, by omega⟩, fun h => ⟨h, nb⟩, fun h => ⟨h, ?_⟩, fun hp => ?_, fun hp => ?_⟩
      · rw [h]; cases (decide (0 ≤ a) && (liveL d).getD a.toNat false) <;> rfl
      · rw [h]; cases (decide (0 ≤ a) && (liveL d).getD a.toNat false) <;> cases (decide (0 ≤ b) && (liveL d).getD b.toNat false) <;> rfl
      · have hpt : parted d L i k s = true := by
          unfold parted onB
          rw [← ha, ← hb2]
          exact part_t _ _ _ _ _ hp
        refine ⟨by omega, hi, by omega, hk, ⟨by omega, by omega⟩, (s + 1, setT L i k, true), ⟨_, Weak.refl' _, ?_⟩, ⟨by show s + 1 ≤ _; omega, hs.set hw hi hk hpt, hb.set, hg.set hi hk hL⟩, by show d.signs.length + 1 - (s + 1) < _; omega⟩
        rw [hri, keep_set hn hi, rowT_set hk, stKeep_fam hn, stKeep_fam hn, slotsT_eq L (setT L i k)]
        simp only [go_sem, Nat.reduceEqDiff, Nat.reduceBEq, Nat.reduceAdd, Nat.reduceMul, Nat.reduceSub, Nat.reduceLeDiff, Nat.reduceLT, reduceIte, reduceCtorEq, Int.reduceToNat, Int.reduceLE, Int.reduceLT, Int.reduceNeg, Bool.not_not, and_self, Bool.and_eq_false_iff, Int.cast_ofNat_Int, Int.reduceAdd, Int.reduceSub, Int.reduceMul, Int.reduceEq, Int.reduceNe, stKeep_skip, famN_out, stKeep_fam hn]
        first | done | rfl
      · have hpf : parted d L i k s = false := by
          unfold parted onB
          rw [← ha, ← hb2]
          exact part_f _ _ _ _ _ hp
        refine ⟨⟨by omega, by omega⟩, (s + 1, L, ag), ⟨_, Weak.refl' _, ?_⟩, ⟨by show s + 1 ≤ _; omega, hs, hb, hg.imp fun e q => ⟨q.rows, q.row, fun hf s' hs' => ?_⟩⟩, by show d.signs.length + 1 - (s + 1) < _; omega⟩
        · simp only [go_sem, Nat.reduceEqDiff, Nat.reduceBEq, Nat.reduceAdd, Nat.reduceMul, Nat.reduceSub, Nat.reduceLeDiff, Nat.reduceLT, reduceIte, reduceCtorEq, Int.reduceToNat, Int.reduceLE, Int.reduceLT, Int.reduceNeg, Bool.not_not, and_self, Bool.and_eq_false_iff, Int.cast_ofNat_Int, Int.reduceAdd, Int.reduceSub, Int.reduceMul, Int.reduceEq, Int.reduceNe, stKeep_skip, famN_out, stKeep_fam hn]
          first | done | rfl
        · by_cases he : s' = s
          · subst he; rw [← e]; exact hpf
          · exact q.at_ hf s' (by omega)
  · simp only [go_sem, Nat.reduceEqDiff, Nat.reduceBEq, Nat.reduceAdd, Nat.reduceMul, Nat.reduceSub, Nat.reduceLeDiff, Nat.reduceLT, reduceIte, reduceCtorEq, Int.reduceToNat, Int.reduceLE, Int.reduceLT, Int.reduceNeg, Bool.not_not, and_self, Bool.and_eq_false_iff, Int.cast_ofNat_Int, Int.reduceAdd, Int.reduceSub, Int.reduceMul, Int.reduceEq, Int.reduceNe, B16_5, apF, apR, stKeep_skip, famN_out, stKeep_fam hn, getD_map hi, e1, wf_intss, show ¬ (s : Int) < (R1.length : Int) by omega, gi1, gi2, slots_len, show ¬ 2 = ri by omega, show ¬ 29 = ri by omega, show ¬ ri = 2 by omega, show ¬ ri = 29 by omega, rowT_get hk, rowT_len]
    exact ⟨by omega, h L ag s hs hb (hg.imp fun e q => ⟨q.rows, fun b' hb' => if hbk : b' < k then q.row b' hbk else by
      obtain rfl : b' = k := by omega
      obtain rfl : s = d.signs.length + 1 := by omega
      exact q.at_⟩)⟩
end Go.Vc

namespace Go.Vc
open Go.Proofs
set_option linter.unusedSimpArgs false
set_option linter.unusedVariables false

/-! ## 'Apart': a round -/
set_option maxHeartbeats 1000000 in
theorem apart_row4 (d : DI) (hd : d.Ok) (hw : d.Wf) {L0 : T2} {i : Nat} (hi : i < d.next.length) {R : Exit → St → Prop} {K : List KI}
    {L : T2} {ag : Bool} (hs : SndT d L) (hb : BasT d L) (hg : GrT d L0 L ag (Q4 d L0 i 0))
    (h : ∀ L ag, SndT d L → BasT d L → GrT d L0 L ag (Q4 d L0 (i + 1) 0) → kont Tryd.prog R K .normal ⟨apF d (.row 29 0 d.next.length) ++ [(9, .pv (pB ag)), (10, .pv (pI i)), (11, .pv (pI d.next.length)), (61, .pv (.sc (.bool false)))], apR d L d.next.length⟩) :
    run Tryd.prog R (.loop B16_4) (.blk 8 :: K) ⟨apF d (.row 29 0 d.next.length) ++ [(9, .pv (pB ag)), (10, .pv (pI i)), (11, .pv (pI 0))], apR d L d.next.length⟩ := by
  have hn := hd.n
  refine run_loopX (T := Nat × T2 × Bool) [1, 2, 5, 6, 9, 10, 11] (2 :: 29 :: famN) (fun t => ⟨apF d (.row 29 0 d.next.length) ++ [(9, .pv (pB t.2.2)), (10, .pv (pI i)), (11, .pv (pI t.1))], apR d t.2.1 d.next.length⟩)
    (fun t => t.1 ≤ d.next.length ∧ SndT d t.2.1 ∧ BasT d t.2.1 ∧ GrT d L0 t.2.1 t.2.2 (Q4 d L0 i t.1)) (fun t => d.next.length - t.1) (0, L, ag) ?_ ⟨Nat.zero_le _, hs, hb, hg⟩ ?_
  · refine ⟨_, Weak.refl' _, ?_⟩
    simp only [go_sem, Nat.reduceEqDiff, Nat.reduceBEq, Nat.reduceAdd, Nat.reduceMul, Nat.reduceSub, Nat.reduceLeDiff, Nat.reduceLT, reduceIte, reduceCtorEq, Int.reduceToNat, Int.reduceLE, Int.reduceLT, Int.reduceNeg, Bool.not_not, and_self, Bool.and_eq_false_iff, Int.cast_ofNat_Int, Int.reduceAdd, Int.reduceSub, Int.reduceMul, Int.reduceEq, Int.reduceNe, apF, famN_out, stKeep_skip, stKeep_fam hn]
  clear hs hb hg
  rintro ⟨k, L, ag⟩ ⟨hkl, hs, hb, hg⟩
  simp only at hkl hs hb hg
  by_cases hk : k < d.next.length
  · simp only [go_sem, Nat.reduceEqDiff, Nat.reduceBEq, Nat.reduceAdd, Nat.reduceMul, Nat.reduceSub, Nat.reduceLeDiff, Nat.reduceLT, reduceIte, reduceCtorEq, Int.reduceToNat, Int.reduceLE, Int.reduceLT, Int.reduceNeg, Bool.not_not, and_self, Bool.and_eq_false_iff, Int.cast_ofNat_Int, Int.reduceAdd, Int.reduceSub, Int.reduceMul, Int.reduceEq, Int.reduceNe, B16_4, apF, apR, stKeep_skip, famN_out, stKeep_fam hn, show (k : Int) < (d.next.length : Int) by omega]
    refine apart_ways d hd hw hi hk hs hb hg fun L ag s hs hb hg => ?_
    simp only [go_sem, Nat.reduceEqDiff, Nat.reduceBEq, Nat.reduceAdd, Nat.reduceMul, Nat.reduceSub, Nat.reduceLeDiff, Nat.reduceLT, reduceIte, reduceCtorEq, Int.reduceToNat, Int.reduceLE, Int.reduceLT, Int.reduceNeg, Bool.not_not, and_self, Bool.and_eq_false_iff, Int.cast_ofNat_Int, Int.reduceAdd, Int.reduceSub, Int.reduceMul, Int.reduceEq, Int.reduceNe, apF, apR, stKeep_skip, famN_out, stKeep_fam hn]
    refine ⟨⟨by omega, by omega⟩, (k + 1, L, ag), ⟨_, Weak.refl' _, ?_⟩, ⟨hk, hs, hb, hg⟩, by show d.next.length - (k + 1) < _; omega⟩
    simp only [go_sem, Nat.reduceEqDiff, Nat.reduceBEq, Nat.reduceAdd, Nat.reduceMul, Nat.reduceSub, Nat.reduceLeDiff, Nat.reduceLT, reduceIte, reduceCtorEq, Int.reduceToNat, Int.reduceLE, Int.reduceLT, Int.reduceNeg, Bool.not_not, and_self, Bool.and_eq_false_iff, Int.cast_ofNat_Int, Int.reduceAdd, Int.reduceSub, Int.reduceMul, Int.reduceEq, Int.reduceNe, stKeep_skip, famN_out, stKeep_fam hn]
    first | done | rfl
  · obtain rfl : k = d.next.length := by omega
    simp only [go_sem, Nat.reduceEqDiff, Nat.reduceBEq, Nat.reduceAdd, Nat.reduceMul, Nat.reduceSub, Nat.reduceLeDiff, Nat.reduceLT, reduceIte, reduceCtorEq, Int.reduceToNat, Int.reduceLE, Int.reduceLT, Int.reduceNeg, Bool.not_not, and_self, Bool.and_eq_false_iff, Int.cast_ofNat_Int, Int.reduceAdd, Int.reduceSub, Int.reduceMul, Int.reduceEq, Int.reduceNe, B16_4, apF, apR, stKeep_skip, famN_out, stKeep_fam hn, show ¬ (d.next.length : Int) < (d.next.length : Int) by omega]
    exact h L ag hs hb (hg.imp fun _ q => ⟨fun a b ha hb' => if hai : a < i then q.rows a b hai hb' else by
      obtain rfl : a = i := by omega
      exact q.row b hb', fun b hb' => absurd hb' (by omega)⟩)
set_option maxHeartbeats 1000000 in
theorem apart_row3 (d : DI) (hd : d.Ok) (hw : d.Wf) {L0 : T2} {R : Exit → St → Prop} {K : List KI}
    (hs : SndT d L0) (hb : BasT d L0)
    (h : ∀ L ag, SndT d L → BasT d L → GrT d L0 L ag (Q4 d L0 d.next.length 0) → kont Tryd.prog R K .normal ⟨apF d (.row 29 0 d.next.length) ++ [(9, .pv (pB ag)), (10, .pv (pI d.next.length)), (56, .pv (.sc (.bool false)))], apR d L d.next.length⟩) :
    run Tryd.prog R (.loop B16_3) (.blk 6 :: K) ⟨apF d (.row 29 0 d.next.length) ++ [(9, .pv (pB false)), (10, .pv (pI 0))], apR d L0 d.next.length⟩ := by
  have hn := hd.n
  refine run_loopX (T := Nat × T2 × Bool) [1, 2, 5, 6, 9, 10] (2 :: 29 :: famN) (fun t => ⟨apF d (.row 29 0 d.next.length) ++ [(9, .pv (pB t.2.2)), (10, .pv (pI t.1))], apR d t.2.1 d.next.length⟩)
    (fun t => t.1 ≤ d.next.length ∧ SndT d t.2.1 ∧ BasT d t.2.1 ∧ GrT d L0 t.2.1 t.2.2 (Q4 d L0 t.1 0)) (fun t => d.next.length - t.1) (0, L0, false) ?_ ⟨Nat.zero_le _, hs, hb, .inl ⟨rfl, rfl, ⟨fun a b ha => absurd ha (by omega), fun b hb => absurd hb (by omega)⟩⟩⟩ ?_
  · refine ⟨_, Weak.refl' _, ?_⟩
    simp only [go_sem, Nat.reduceEqDiff, Nat.reduceBEq, Nat.reduceAdd, Nat.reduceMul, Nat.reduceSub, Nat.reduceLeDiff, Nat.reduceLT, reduceIte, reduceCtorEq, Int.reduceToNat, Int.reduceLE, Int.reduceLT, Int.reduceNeg, Bool.not_not, and_self, Bool.and_eq_false_iff, Int.cast_ofNat_Int, Int.reduceAdd, Int.reduceSub, Int.reduceMul, Int.reduceEq, Int.reduceNe, apF, famN_out, stKeep_skip, stKeep_fam hn]
  clear hs hb
  rintro ⟨i, L, ag⟩ ⟨hil, hs, hb, hg⟩
  simp only at hil hs hb hg
  by_cases hi : i < d.next.length
  · simp only [go_sem, Nat.reduceEqDiff, Nat.reduceBEq, Nat.reduceAdd, Nat.reduceMul, Nat.reduceSub, Nat.reduceLeDiff, Nat.reduceLT, reduceIte, reduceCtorEq, Int.reduceToNat, Int.reduceLE, Int.reduceLT, Int.reduceNeg, Bool.not_not, and_self, Bool.and_eq_false_iff, Int.cast_ofNat_Int, Int.reduceAdd, Int.reduceSub, Int.reduceMul, Int.reduceEq, Int.reduceNe, B16_3, apF, apR, stKeep_skip, famN_out, stKeep_fam hn, show (i : Int) < (d.next.length : Int) by omega]
    refine apart_row4 d hd hw hi hs hb hg fun L ag hs hb hg => ?_
    simp only [go_sem, Nat.reduceEqDiff, Nat.reduceBEq, Nat.reduceAdd, Nat.reduceMul, Nat.reduceSub, Nat.reduceLeDiff, Nat.reduceLT, reduceIte, reduceCtorEq, Int.reduceToNat, Int.reduceLE, Int.reduceLT, Int.reduceNeg, Bool.not_not, and_self, Bool.and_eq_false_iff, Int.cast_ofNat_Int, Int.reduceAdd, Int.reduceSub, Int.reduceMul, Int.reduceEq, Int.reduceNe, apF, apR, stKeep_skip, famN_out, stKeep_fam hn]
    refine ⟨⟨by omega, by omega⟩, (i + 1, L, ag), ⟨_, Weak.refl' _, ?_⟩, ⟨hi, hs, hb, hg⟩, by show d.next.length - (i + 1) < _; omega⟩
    simp only [go_sem, Nat.reduceEqDiff, Nat.reduceBEq, Nat.reduceAdd, Nat.reduceMul, Nat.reduceSub, Nat.reduceLeDiff, Nat.reduceLT, reduceIte, reduceCtorEq, Int.reduceToNat, Int.reduceLE, Int.reduceLT, Int.reduceNeg, Bool.not_not, and_self, Bool.and_eq_false_iff, Int.cast_ofNat_Int, Int.reduceAdd, Int.reduceSub, Int.reduceMul, Int.reduceEq, Int.reduceNe, stKeep_skip, famN_out, stKeep_fam hn]
    first | done | rfl
  · obtain rfl : i = d.next.length := by omega
    simp only [go_sem, Nat.reduceEqDiff, Nat.reduceBEq, Nat.reduceAdd, Nat.reduceMul, Nat.reduceSub, Nat.reduceLeDiff, Nat.reduceLT, reduceIte, reduceCtorEq, Int.reduceToNat, Int.reduceLE, Int.reduceLT, Int.reduceNeg, Bool.not_not, and_self, Bool.and_eq_false_iff, Int.cast_ofNat_Int, Int.reduceAdd, Int.reduceSub, Int.reduceMul, Int.reduceEq, Int.reduceNe, B16_3, apF, apR, stKeep_skip, famN_out, stKeep_fam hn, show ¬ (d.next.length : Int) < (d.next.length : Int) by omega]
    exact h L ag hs hb hg
/-! ### the whole, as a value -/
theorem Weak.unfanB1 {fr : List (Nat × AV)} {A : Row} {L : Nat → List PV} {n k m : Nat} (hkm : k + (m + 1) = n) (hfr : ∀ row, frFrz (100000 + k) row fr = fr) (hA : ∀ row, A.frz (100000 + k) row = A) :
    Weak ⟨fr, (2, A) :: (29, .bxs (cellsV L n k)) :: famF L k (m + 1)⟩ ⟨fr, (2, A) :: (29, .bxs (cellsV L n (k + 1))) :: famF L (k + 1) m⟩ := fun e x a h => by
  have h1 := h.frz1 (100000 + k)
  have he : St.frz1 ⟨fr, (2, A) :: (29, .bxs (cellsV L n k)) :: famF L k (m + 1)⟩ (100000 + k) = ⟨fr, (2, A) :: (29, .bxs (cellsV L n (k + 1))) :: famF L (k + 1) m⟩ := by
    have hg : stGet ((2, A) :: (29, Row.bxs (cellsV L n k)) :: famF L k (m + 1)) (100000 + k) = some (.sl 1 (L k)) := by
      simp only [stGet, if_neg (show ¬ 2 = 100000 + k by omega), if_neg (show ¬ 29 = 100000 + k by omega)]
      rw [stGet_famF, if_pos (by omega)]
    have hd : stDel ((2, A) :: (29, Row.bxs (cellsV L n k)) :: famF L k (m + 1)) (100000 + k) = (2, A) :: (29, .bxs (cellsV L n k)) :: famF L (k + 1) m := by
      have hz := stDel_famF (L := L) (k := k + 1) (m := m) (a := 100000 + k) (.inl (by omega))
      simp only [stDel, if_neg (show ¬ 2 = 100000 + k by omega), if_neg (show ¬ 29 = 100000 + k by omega), famF, List.range'_succ, List.map_cons, if_true] at hz ⊢
      rw [hz]
    have : AV.frzs (100000 + k) (.sl 1 (L k)) (cellsV L n k) = cellsV L n (k + 1) := by
      rw [frzs_eq, tb_map]
      refine tb_ext fun j hj => ?_
      by_cases hjk : j < k
      · simp only [if_pos hjk, if_pos (show j < k + 1 by omega), AV.frz]
      · by_cases hje : j = k
        · subst hje
          simp only [if_neg hjk, if_pos (show j < j + 1 by omega), AV.frz, if_true, frzRow, List.drop_zero, List.take_length]
        · simp only [if_neg hjk, if_neg (show ¬ j < k + 1 by omega), AV.frz, if_neg (show ¬ 100000 + j = 100000 + k by omega)]
    have hbx : Row.frz (.bxs (cellsV L n k)) (100000 + k) (.sl 1 (L k)) = .bxs (cellsV L n (k + 1)) := by simp only [Row.frz, this]
    unfold St.frz1
    simp only [hg, hd, hfr, stFrz, hA, hbx, stFrz_famF]
  rw [he] at h1
  exact h1
theorem Weak.unfanB {fr : List (Nat × AV)} {A : Row} {L : Nat → List PV} {n : Nat} (hfr : ∀ k row, frFrz (100000 + k) row fr = fr) (hA : ∀ k row, A.frz (100000 + k) row = A) :
    ∀ m k, k + m = n → Weak ⟨fr, (2, A) :: (29, .bxs (cellsV L n k)) :: famF L k m⟩ ⟨fr, [(2, A), (29, .bxs (cellsV L n n))]⟩
  | 0, k, h => fun e x a hs => by
    obtain rfl : k = n := by omega
    exact ⟨x, rfl, hs⟩
  | m + 1, k, h => (Weak.unfanB1 h (hfr k) (hA k)).trans (Weak.unfanB hfr hA m (k + 1) (by omega))
abbrev tabP (n : Nat) (L : T2) : PV := .lst (tb n fun a => .lst (rowT n L a))
noncomputable def A2 (d : DI) (L : T2) (ag : Bool) : St := if ag = true then ⟨apF d (.row 29 0 d.next.length) ++ [(9, .pv (pB true))], apR d L d.next.length⟩ else ⟨apF d (.pv (tabP d.next.length L)) ++ [(9, .pv (pB false))], [(2, .box (dBox d))]⟩
theorem A2_t {d : DI} {L : T2} : A2 d L true = ⟨apF d (.row 29 0 d.next.length) ++ [(9, .pv (pB true))], apR d L d.next.length⟩ := rfl
theorem A2_f {d : DI} {L : T2} : A2 d L false = ⟨apF d (.pv (tabP d.next.length L)) ++ [(9, .pv (pB false))], [(2, .box (dBox d))]⟩ := rfl
theorem apart_done (d : DI) (L : T2) : Weak ⟨apF d (.row 29 0 d.next.length) ++ [(9, .pv (pB false))], apR d L d.next.length⟩ (A2 d L false) := by
  have h := Weak.unfanB (fr := apF d (.row 29 0 d.next.length) ++ [(9, .pv (pB false))]) (A := .box (dBox d)) (L := rowT d.next.length L) (n := d.next.length) (fun k row => by
    simp only [List.cons_append, List.nil_append, frFrz, AV.frz, if_neg (show ¬ 29 = 100000 + k by omega), if_neg (show ¬ 2 = 100000 + k by omega)]) (fun k row => rfl) d.next.length 0 (by omega)
  rw [← slots_cells] at h
  have h2 := h.trans (Weak.virts _ [(29, 29, 0)])
  refine h2.trans ?_
  rw [A2_f, cellsV_all]
  have ho : onesP (tb d.next.length fun j => PV.lst (rowT d.next.length L j)) = true := ones_lst (fun j => rowT d.next.length L j) (List.range d.next.length)
  have hl : (tb d.next.length fun j => PV.lst (rowT d.next.length L j)).length = d.next.length := tb_len _ _
  have ht : (tb d.next.length fun j => PV.lst (rowT d.next.length L j)).take d.next.length = tb d.next.length fun j => PV.lst (rowT d.next.length L j) := List.take_of_length_le (by omega)
  simp only [go_sem, Nat.reduceEqDiff, Nat.reduceBEq, Nat.reduceAdd, Nat.reduceMul, Nat.reduceSub, Nat.reduceLeDiff, Nat.reduceLT, reduceIte, reduceCtorEq, Int.reduceToNat, Int.reduceLE, Int.reduceLT, Int.reduceNeg, Bool.not_not, and_self, Bool.and_eq_false_iff, Int.cast_ofNat_Int, Int.reduceAdd, Int.reduceSub, Int.reduceMul, Int.reduceEq, Int.reduceNe, apF, allPv_pvs, ho, ht]
  exact Weak.refl' _
end Go.Vc

namespace Go.Vc
open Go.Proofs
set_option linter.unusedSimpArgs false
set_option linter.unusedVariables false

/-! ## 'Apart' -/
theorem base_snd (d : DI) : SndT d (baseT d) := fun i k hi hk h he => by
  have := he []
  simp only [outI] at this
  unfold baseT at h
  rw [this] at h
  simp at h
theorem base_bas (d : DI) : BasT d (baseT d) := fun i k hi hk h => by
  unfold baseT at h
  simpa using h
set_option maxHeartbeats 1000000 in
theorem fn16 (d : DI) (hd : d.Ok) (hw : d.Wf) (hds : ∀ i, (d.done.getD i []).length ≤ 1000) : Fn Tryd.prog 16 [pDi d, bools (liveL d)] (.pv (tabP d.next.length (apT d))) [] := by
  have hn := hd.n
  have hn0 := hd.n0
  refine Run16 [] (by simp) ?_
  simp only [go_sem, Nat.reduceEqDiff, Nat.reduceBEq, Nat.reduceAdd, Nat.reduceMul, Nat.reduceSub, Nat.reduceLeDiff, Nat.reduceLT, reduceIte, reduceCtorEq, Int.reduceToNat, Int.reduceLE, Int.reduceLT, Int.reduceNeg, Bool.not_not, and_self, Bool.and_eq_false_iff, Int.cast_ofNat_Int, Int.reduceAdd, Int.reduceSub, Int.reduceMul, Int.reduceEq, Int.reduceNe, M16, famN_out, stKeep_skip, stKeep_none]
  have h0 := apart_base d hd hds (R := retK [RV.tmp 4] [] (.pv (tabP d.next.length (apT d))) []) (K := []) ?_
  · rw [A0_z] at h0
    exact h0
  simp only [go_sem, Nat.reduceEqDiff, Nat.reduceBEq, Nat.reduceAdd, Nat.reduceMul, Nat.reduceSub, Nat.reduceLeDiff, Nat.reduceLT, reduceIte, reduceCtorEq, Int.reduceToNat, Int.reduceLE, Int.reduceLT, Int.reduceNeg, Bool.not_not, and_self, Bool.and_eq_false_iff, Int.cast_ofNat_Int, Int.reduceAdd, Int.reduceSub, Int.reduceMul, Int.reduceEq, Int.reduceNe, R16_0, apF, apR, famN_out, stKeep_skip, stKeep_fam hn]
  refine run_loopX (T := T2 × Bool) [1, 2, 5, 6, 9] (2 :: 29 :: famN) (fun t => A2 d t.1 t.2)
    (fun t => SndT d t.1 ∧ BasT d t.1 ∧ (t.2 = false → ∀ i k, i < d.next.length → k < d.next.length → CloP d t.1 i k (d.signs.length + 1))) (fun t => if t.2 = true then d.next.length * d.next.length - cntT d.next.length t.1 + 1 else 0) (baseT d, true) ?_ ⟨base_snd d, base_bas d, fun h => by cases h⟩ ?_
  · refine ⟨_, Weak.refl' _, ?_⟩
    rw [A2_t]
    simp only [go_sem, Nat.reduceEqDiff, Nat.reduceBEq, Nat.reduceAdd, Nat.reduceMul, Nat.reduceSub, Nat.reduceLeDiff, Nat.reduceLT, reduceIte, reduceCtorEq, Int.reduceToNat, Int.reduceLE, Int.reduceLT, Int.reduceNeg, Bool.not_not, and_self, Bool.and_eq_false_iff, Int.cast_ofNat_Int, Int.reduceAdd, Int.reduceSub, Int.reduceMul, Int.reduceEq, Int.reduceNe, apF, famN_out, stKeep_skip, stKeep_fam hn]
    first | done | rfl
  rintro ⟨L, ag⟩ ⟨hs, hb, hc⟩
  simp only at hs hb hc
  cases ag with
  | true =>
    rw [A2_t]
    simp only [go_sem, Nat.reduceEqDiff, Nat.reduceBEq, Nat.reduceAdd, Nat.reduceMul, Nat.reduceSub, Nat.reduceLeDiff, Nat.reduceLT, reduceIte, reduceCtorEq, Int.reduceToNat, Int.reduceLE, Int.reduceLT, Int.reduceNeg, Bool.not_not, and_self, Bool.and_eq_false_iff, Int.cast_ofNat_Int, Int.reduceAdd, Int.reduceSub, Int.reduceMul, Int.reduceEq, Int.reduceNe, B16_2, apF, apR, famN_out, stKeep_skip, stKeep_fam hn]
    refine apart_row3 d hd hw hs hb fun L' ag hs' hb' hg => ?_
    simp only [go_sem, Nat.reduceEqDiff, Nat.reduceBEq, Nat.reduceAdd, Nat.reduceMul, Nat.reduceSub, Nat.reduceLeDiff, Nat.reduceLT, reduceIte, reduceCtorEq, Int.reduceToNat, Int.reduceLE, Int.reduceLT, Int.reduceNeg, Bool.not_not, and_self, Bool.and_eq_false_iff, Int.cast_ofNat_Int, Int.reduceAdd, Int.reduceSub, Int.reduceMul, Int.reduceEq, Int.reduceNe, apF, apR, famN_out, stKeep_skip, stKeep_fam hn]
    refine ⟨(L', ag), ?_, ⟨hs', hb', fun hf => ?_⟩, ?_⟩
    · cases ag with
      | true =>
        refine ⟨_, Weak.refl' _, ?_⟩
        rw [A2_t]
        simp only [go_sem, Nat.reduceEqDiff, Nat.reduceBEq, Nat.reduceAdd, Nat.reduceMul, Nat.reduceSub, Nat.reduceLeDiff, Nat.reduceLT, reduceIte, reduceCtorEq, Int.reduceToNat, Int.reduceLE, Int.reduceLT, Int.reduceNeg, Bool.not_not, and_self, Bool.and_eq_false_iff, Int.cast_ofNat_Int, Int.reduceAdd, Int.reduceSub, Int.reduceMul, Int.reduceEq, Int.reduceNe, apF, famN_out, stKeep_skip, stKeep_fam hn]
        first | done | rfl
      | false =>
        refine ⟨A2 d L' false, (Weak.norm _ [1, 2, 5, 6, 9] (2 :: 29 :: famN)).trans ?_, ?_⟩
        · simp only [go_sem, Nat.reduceEqDiff, Nat.reduceBEq, Nat.reduceAdd, Nat.reduceMul, Nat.reduceSub, Nat.reduceLeDiff, Nat.reduceLT, reduceIte, reduceCtorEq, Int.reduceToNat, Int.reduceLE, Int.reduceLT, Int.reduceNeg, Bool.not_not, and_self, Bool.and_eq_false_iff, Int.cast_ofNat_Int, Int.reduceAdd, Int.reduceSub, Int.reduceMul, Int.reduceEq, Int.reduceNe, apF, famN_out, stKeep_skip, stKeep_fam hn]
          exact apart_done d L'
        · rw [A2_f]
          simp only [go_sem, Nat.reduceEqDiff, Nat.reduceBEq, Nat.reduceAdd, Nat.reduceMul, Nat.reduceSub, Nat.reduceLeDiff, Nat.reduceLT, reduceIte, reduceCtorEq, Int.reduceToNat, Int.reduceLE, Int.reduceLT, Int.reduceNeg, Bool.not_not, and_self, Bool.and_eq_false_iff, Int.cast_ofNat_Int, Int.reduceAdd, Int.reduceSub, Int.reduceMul, Int.reduceEq, Int.reduceNe, apF, famN_out, stKeep_skip, stKeep_none]
    · rcases hg with ⟨_, rfl, q⟩ | ⟨h1, _⟩
      · exact fun i k hi hk => q.rows i k hi hk
      · simp only at hf; rw [hf] at h1; cases h1
    · simp only
      have h1 := cntT_le d.next.length L'
      cases ag with
      | false => simp
      | true =>
        rcases hg with ⟨h, _⟩ | ⟨_, h⟩
        · cases h
        · simp only [if_true]; omega
  | false =>
    rw [A2_f]
    have ht : tabP d.next.length L = tabP d.next.length (apT d) := by
      unfold tabP
      congr 1
      exact tb_ext fun i hi => by
        congr 1
        exact tb_ext fun k hk => by rw [apT_of hw hs hb (hc rfl) hi hk]
    simp only [go_sem, Nat.reduceEqDiff, Nat.reduceBEq, Nat.reduceAdd, Nat.reduceMul, Nat.reduceSub, Nat.reduceLeDiff, Nat.reduceLT, reduceIte, reduceCtorEq, Int.reduceToNat, Int.reduceLE, Int.reduceLT, Int.reduceNeg, Bool.not_not, and_self, Bool.and_eq_false_iff, Int.cast_ofNat_Int, Int.reduceAdd, Int.reduceSub, Int.reduceMul, Int.reduceEq, Int.reduceNe, B16_2, apF, famN_out, stKeep_skip, stKeep_none, R16_2, ht]
    done
end Go.Vc

namespace Go.Vc
open Go.Proofs
set_option linter.unusedSimpArgs false
set_option linter.unusedVariables false

/-! ## MiniNone -/
theorem least_I64 {d : DI} (h : ∀ i, ∀ n ∈ d.done.getD i [], I64 n) : ∀ i, ∀ n ∈ (leastR d).done.getD i [], I64 n := I64_of fun l hl n hn => by
  obtain ⟨j, hj, rfl⟩ := List.mem_map.1 hl
  exact h _ n hn
theorem apT_t {d : DI} (hd : d.Wf) {i k : Nat} (hi : i < (leastR d).next.length) (hk : k < (leastR d).next.length) (h : i ≠ k) : apT (leastR d) i k = true := by
  classical
  unfold apT
  exact decide_eq_true (least_apart hd hi hk h)
set_option maxHeartbeats 4000000 in
theorem law3 (d : DI) (hI : ∀ l ∈ d.done, ∀ n ∈ l, I64 n) : Fn Tryd.prog 3 [pDi d] (.pv (pB true)) [] := by
  refine Run3 [] (by simp) ?_
  have r10 := fn10 d
  have hsm := few_sm d
  have hI2 := I64_of (few_I64 hI)
  have r11 := fn11 _ hsm hI2
  generalize fewD d = D at r10 r11 hsm hI2
  have r12 := fn12
  simp only [go_sem, Nat.reduceEqDiff, Nat.reduceBEq, Nat.reduceAdd, Nat.reduceMul, Nat.reduceSub, Nat.reduceLeDiff, Nat.reduceLT, reduceIte, reduceCtorEq, Int.reduceToNat, Int.reduceLE, Int.reduceLT, Int.reduceNeg, Bool.not_not, and_self, Bool.and_eq_false_iff, Int.cast_ofNat_Int, Int.reduceAdd, Int.reduceSub, Int.reduceMul, Int.reduceEq, Int.reduceNe, M3]
  refine runR_call (by simp only [go_sem, Nat.reduceEqDiff, Nat.reduceBEq, Nat.reduceAdd, Nat.reduceMul, Nat.reduceSub, Nat.reduceLeDiff, Nat.reduceLT, reduceIte, reduceCtorEq, Int.reduceToNat, Int.reduceLE, Int.reduceLT, Int.reduceNeg, Bool.not_not, and_self, Bool.and_eq_false_iff, Int.cast_ofNat_Int, Int.reduceAdd, Int.reduceSub, Int.reduceMul, Int.reduceEq, Int.reduceNe]) rfl (r10) (.inl rfl) trivial ?_
  simp only [go_sem, Nat.reduceEqDiff, Nat.reduceBEq, Nat.reduceAdd, Nat.reduceMul, Nat.reduceSub, Nat.reduceLeDiff, Nat.reduceLT, reduceIte, reduceCtorEq, Int.reduceToNat, Int.reduceLE, Int.reduceLT, Int.reduceNeg, Bool.not_not, and_self, Bool.and_eq_false_iff, Int.cast_ofNat_Int, Int.reduceAdd, Int.reduceSub, Int.reduceMul, Int.reduceEq, Int.reduceNe]
  refine runR_call (by simp only [go_sem, Nat.reduceEqDiff, Nat.reduceBEq, Nat.reduceAdd, Nat.reduceMul, Nat.reduceSub, Nat.reduceLeDiff, Nat.reduceLT, reduceIte, reduceCtorEq, Int.reduceToNat, Int.reduceLE, Int.reduceLT, Int.reduceNeg, Bool.not_not, and_self, Bool.and_eq_false_iff, Int.cast_ofNat_Int, Int.reduceAdd, Int.reduceSub, Int.reduceMul, Int.reduceEq, Int.reduceNe]) rfl (r11) (.inl rfl) trivial ?_
  cases hm : mayB D with
  | false =>
    simp only [go_sem, Nat.reduceEqDiff, Nat.reduceBEq, Nat.reduceAdd, Nat.reduceMul, Nat.reduceSub, Nat.reduceLeDiff, Nat.reduceLT, reduceIte, reduceCtorEq, Int.reduceToNat, Int.reduceLE, Int.reduceLT, Int.reduceNeg, Bool.not_not, and_self, Bool.and_eq_false_iff, Int.cast_ofNat_Int, Int.reduceAdd, Int.reduceSub, Int.reduceMul, Int.reduceEq, Int.reduceNe, hm, zDi]
    refine runR_callgf (by simp only [go_sem, Nat.reduceEqDiff, Nat.reduceBEq, Nat.reduceAdd, Nat.reduceMul, Nat.reduceSub, Nat.reduceLeDiff, Nat.reduceLT, reduceIte, reduceCtorEq, Int.reduceToNat, Int.reduceLE, Int.reduceLT, Int.reduceNeg, Bool.not_not, and_self, Bool.and_eq_false_iff, Int.cast_ofNat_Int, Int.reduceAdd, Int.reduceSub, Int.reduceMul, Int.reduceEq, Int.reduceNe]) (by simp only [go_sem, Nat.reduceEqDiff, Nat.reduceBEq, Nat.reduceAdd, Nat.reduceMul, Nat.reduceSub, Nat.reduceLeDiff, Nat.reduceLT, reduceIte, reduceCtorEq, Int.reduceToNat, Int.reduceLE, Int.reduceLT, Int.reduceNeg, Bool.not_not, and_self, Bool.and_eq_false_iff, Int.cast_ofNat_Int, Int.reduceAdd, Int.reduceSub, Int.reduceMul, Int.reduceEq, Int.reduceNe]) (by simp only [go_sem, Nat.reduceEqDiff, Nat.reduceBEq, Nat.reduceAdd, Nat.reduceMul, Nat.reduceSub, Nat.reduceLeDiff, Nat.reduceLT, reduceIte, reduceCtorEq, Int.reduceToNat, Int.reduceLE, Int.reduceLT, Int.reduceNeg, Bool.not_not, and_self, Bool.and_eq_false_iff, Int.cast_ofNat_Int, Int.reduceAdd, Int.reduceSub, Int.reduceMul, Int.reduceEq, Int.reduceNe] <;> rfl) (fun _ => r12) rfl ?_
    simp only [go_sem, Nat.reduceEqDiff, Nat.reduceBEq, Nat.reduceAdd, Nat.reduceMul, Nat.reduceSub, Nat.reduceLeDiff, Nat.reduceLT, reduceIte, reduceCtorEq, Int.reduceToNat, Int.reduceLE, Int.reduceLT, Int.reduceNeg, Bool.not_not, and_self, Bool.and_eq_false_iff, Int.cast_ofNat_Int, Int.reduceAdd, Int.reduceSub, Int.reduceMul, Int.reduceEq, Int.reduceNe]
    done
  | true =>
    have hok := may_ok hsm hI2 hm
    have hw := wf_may hm
    have hsx := sm_least hok
    have hIx := least_I64 hI2
    have hmx := may_least hm
    obtain ⟨hwx, _, _, hle⟩ := least_out hw
    have hokx := may_ok hsx hIx hmx
    have r11x := fn11 _ hsx hIx
    rw [if_pos hmx, if_pos hmx, least_least hw] at r11x
    have r13 := fn13t _ hsx
    have r14 := fn14 _ hsx
    rw [hmx] at r14
    have r15 := fn15 _ hsx hmx
    have r16 := fn16 _ hokx hwx hsx.dones
    have hlive : ∀ i, 0 < i → i < (leastR D).next.length → (liveL (leastR D)).getD i false = true := fun i h0 hi => least_live hw hi h0
    have hap : ∀ i k, i < (leastR D).next.length → k < i → apT (leastR D) i k = true := fun i k hi hk => apT_t hw hi (by omega) (by omega)
    generalize leastR D = X at *
    have hn := hokx.n
    simp only [go_sem, Nat.reduceEqDiff, Nat.reduceBEq, Nat.reduceAdd, Nat.reduceMul, Nat.reduceSub, Nat.reduceLeDiff, Nat.reduceLT, reduceIte, reduceCtorEq, Int.reduceToNat, Int.reduceLE, Int.reduceLT, Int.reduceNeg, Bool.not_not, and_self, Bool.and_eq_false_iff, Int.cast_ofNat_Int, Int.reduceAdd, Int.reduceSub, Int.reduceMul, Int.reduceEq, Int.reduceNe, hm]
    refine runR_call (by simp only [go_sem, Nat.reduceEqDiff, Nat.reduceBEq, Nat.reduceAdd, Nat.reduceMul, Nat.reduceSub, Nat.reduceLeDiff, Nat.reduceLT, reduceIte, reduceCtorEq, Int.reduceToNat, Int.reduceLE, Int.reduceLT, Int.reduceNeg, Bool.not_not, and_self, Bool.and_eq_false_iff, Int.cast_ofNat_Int, Int.reduceAdd, Int.reduceSub, Int.reduceMul, Int.reduceEq, Int.reduceNe]) rfl (r11x) (.inl rfl) trivial ?_
    simp only [go_sem, Nat.reduceEqDiff, Nat.reduceBEq, Nat.reduceAdd, Nat.reduceMul, Nat.reduceSub, Nat.reduceLeDiff, Nat.reduceLT, reduceIte, reduceCtorEq, Int.reduceToNat, Int.reduceLE, Int.reduceLT, Int.reduceNeg, Bool.not_not, and_self, Bool.and_eq_false_iff, Int.cast_ofNat_Int, Int.reduceAdd, Int.reduceSub, Int.reduceMul, Int.reduceEq, Int.reduceNe]
    refine runR_call (by simp only [go_sem, Nat.reduceEqDiff, Nat.reduceBEq, Nat.reduceAdd, Nat.reduceMul, Nat.reduceSub, Nat.reduceLeDiff, Nat.reduceLT, reduceIte, reduceCtorEq, Int.reduceToNat, Int.reduceLE, Int.reduceLT, Int.reduceNeg, Bool.not_not, and_self, Bool.and_eq_false_iff, Int.cast_ofNat_Int, Int.reduceAdd, Int.reduceSub, Int.reduceMul, Int.reduceEq, Int.reduceNe]) rfl (r13) (.inl rfl) trivial ?_
    simp only [go_sem, Nat.reduceEqDiff, Nat.reduceBEq, Nat.reduceAdd, Nat.reduceMul, Nat.reduceSub, Nat.reduceLeDiff, Nat.reduceLT, reduceIte, reduceCtorEq, Int.reduceToNat, Int.reduceLE, Int.reduceLT, Int.reduceNeg, Bool.not_not, and_self, Bool.and_eq_false_iff, Int.cast_ofNat_Int, Int.reduceAdd, Int.reduceSub, Int.reduceMul, Int.reduceEq, Int.reduceNe, show ¬ (D.next.length : Int) < (X.next.length : Int) by omega]
    refine runR_callgf (by simp only [go_sem, Nat.reduceEqDiff, Nat.reduceBEq, Nat.reduceAdd, Nat.reduceMul, Nat.reduceSub, Nat.reduceLeDiff, Nat.reduceLT, reduceIte, reduceCtorEq, Int.reduceToNat, Int.reduceLE, Int.reduceLT, Int.reduceNeg, Bool.not_not, and_self, Bool.and_eq_false_iff, Int.cast_ofNat_Int, Int.reduceAdd, Int.reduceSub, Int.reduceMul, Int.reduceEq, Int.reduceNe]) (by simp only [go_sem, Nat.reduceEqDiff, Nat.reduceBEq, Nat.reduceAdd, Nat.reduceMul, Nat.reduceSub, Nat.reduceLeDiff, Nat.reduceLT, reduceIte, reduceCtorEq, Int.reduceToNat, Int.reduceLE, Int.reduceLT, Int.reduceNeg, Bool.not_not, and_self, Bool.and_eq_false_iff, Int.cast_ofNat_Int, Int.reduceAdd, Int.reduceSub, Int.reduceMul, Int.reduceEq, Int.reduceNe]) (by simp only [go_sem, Nat.reduceEqDiff, Nat.reduceBEq, Nat.reduceAdd, Nat.reduceMul, Nat.reduceSub, Nat.reduceLeDiff, Nat.reduceLT, reduceIte, reduceCtorEq, Int.reduceToNat, Int.reduceLE, Int.reduceLT, Int.reduceNeg, Bool.not_not, and_self, Bool.and_eq_false_iff, Int.cast_ofNat_Int, Int.reduceAdd, Int.reduceSub, Int.reduceMul, Int.reduceEq, Int.reduceNe] <;> rfl) (fun _ => r14) rfl ?_
    simp only [go_sem, Nat.reduceEqDiff, Nat.reduceBEq, Nat.reduceAdd, Nat.reduceMul, Nat.reduceSub, Nat.reduceLeDiff, Nat.reduceLT, reduceIte, reduceCtorEq, Int.reduceToNat, Int.reduceLE, Int.reduceLT, Int.reduceNeg, Bool.not_not, and_self, Bool.and_eq_false_iff, Int.cast_ofNat_Int, Int.reduceAdd, Int.reduceSub, Int.reduceMul, Int.reduceEq, Int.reduceNe]
    refine runR_call (by simp only [go_sem, Nat.reduceEqDiff, Nat.reduceBEq, Nat.reduceAdd, Nat.reduceMul, Nat.reduceSub, Nat.reduceLeDiff, Nat.reduceLT, reduceIte, reduceCtorEq, Int.reduceToNat, Int.reduceLE, Int.reduceLT, Int.reduceNeg, Bool.not_not, and_self, Bool.and_eq_false_iff, Int.cast_ofNat_Int, Int.reduceAdd, Int.reduceSub, Int.reduceMul, Int.reduceEq, Int.reduceNe]) rfl (r15) (.inl rfl) trivial ?_
    simp only [go_sem, Nat.reduceEqDiff, Nat.reduceBEq, Nat.reduceAdd, Nat.reduceMul, Nat.reduceSub, Nat.reduceLeDiff, Nat.reduceLT, reduceIte, reduceCtorEq, Int.reduceToNat, Int.reduceLE, Int.reduceLT, Int.reduceNeg, Bool.not_not, and_self, Bool.and_eq_false_iff, Int.cast_ofNat_Int, Int.reduceAdd, Int.reduceSub, Int.reduceMul, Int.reduceEq, Int.reduceNe]
    refine runR_call (by simp only [go_sem, Nat.reduceEqDiff, Nat.reduceBEq, Nat.reduceAdd, Nat.reduceMul, Nat.reduceSub, Nat.reduceLeDiff, Nat.reduceLT, reduceIte, reduceCtorEq, Int.reduceToNat, Int.reduceLE, Int.reduceLT, Int.reduceNeg, Bool.not_not, and_self, Bool.and_eq_false_iff, Int.cast_ofNat_Int, Int.reduceAdd, Int.reduceSub, Int.reduceMul, Int.reduceEq, Int.reduceNe]) rfl (r16) (.inl rfl) trivial ?_
    simp only [go_sem, Nat.reduceEqDiff, Nat.reduceBEq, Nat.reduceAdd, Nat.reduceMul, Nat.reduceSub, Nat.reduceLeDiff, Nat.reduceLT, reduceIte, reduceCtorEq, Int.reduceToNat, Int.reduceLE, Int.reduceLT, Int.reduceNeg, Bool.not_not, and_self, Bool.and_eq_false_iff, Int.cast_ofNat_Int, Int.reduceAdd, Int.reduceSub, Int.reduceMul, Int.reduceEq, Int.reduceNe]
    refine run_loopX (T := Nat) [3, 7, 8, 9] [3] (fun i => ⟨[(3, .ptr 3 0), (7, .pv (bools (liveL X))), (8, .pv (tabP X.next.length (apT X))), (9, .pv (pI i))], [(3, .box (dBox X))]⟩) (fun i => i ≤ X.next.length) (fun i => X.next.length - i) 0 ?_ (Nat.zero_le _) ?_
    · refine ⟨_, Weak.refl' _, ?_⟩
      simp only [go_sem, Nat.reduceEqDiff, Nat.reduceBEq, Nat.reduceAdd, Nat.reduceMul, Nat.reduceSub, Nat.reduceLeDiff, Nat.reduceLT, reduceIte, reduceCtorEq, Int.reduceToNat, Int.reduceLE, Int.reduceLT, Int.reduceNeg, Bool.not_not, and_self, Bool.and_eq_false_iff, Int.cast_ofNat_Int, Int.reduceAdd, Int.reduceSub, Int.reduceMul, Int.reduceEq, Int.reduceNe]
    intro i hi
    by_cases hil : i < X.next.length
    · have hll : i < (liveL X).length := by rw [liveL_len]; exact hil
      have fin : ∀ {K : List KI}, kont Tryd.prog (retK [RV.tmp 2] [] (AV.pv (pB true)) []) K .normal ⟨[(3, .ptr 3 0), (7, .pv (bools (liveL X))), (8, .pv (tabP X.next.length (apT X))), (9, .pv (pI i)), (10, .pv (pI i)), (77, .pv (.sc (.bool false)))], [(3, .box (dBox X))]⟩ →
          run Tryd.prog (retK [RV.tmp 2] [] (AV.pv (pB true)) []) (.loop B3_1) (.blk 2 :: K) ⟨[(3, .ptr 3 0), (7, .pv (bools (liveL X))), (8, .pv (tabP X.next.length (apT X))), (9, .pv (pI i)), (10, .pv (pI 0))], [(3, .box (dBox X))]⟩ := fun {K} hk => by
        refine run_loopX (T := Nat) [3, 7, 8, 9, 10] [3] (fun k => ⟨[(3, .ptr 3 0), (7, .pv (bools (liveL X))), (8, .pv (tabP X.next.length (apT X))), (9, .pv (pI i)), (10, .pv (pI k))], [(3, .box (dBox X))]⟩) (fun k => k ≤ i) (fun k => i - k) 0 ?_ (Nat.zero_le _) ?_
        · refine ⟨_, Weak.refl' _, ?_⟩
          simp only [go_sem, Nat.reduceEqDiff, Nat.reduceBEq, Nat.reduceAdd, Nat.reduceMul, Nat.reduceSub, Nat.reduceLeDiff, Nat.reduceLT, reduceIte, reduceCtorEq, Int.reduceToNat, Int.reduceLE, Int.reduceLT, Int.reduceNeg, Bool.not_not, and_self, Bool.and_eq_false_iff, Int.cast_ofNat_Int, Int.reduceAdd, Int.reduceSub, Int.reduceMul, Int.reduceEq, Int.reduceNe]
        intro k hki
        by_cases hkl : k < i
        · have ha := hap i k hil hkl
          simp only [go_sem, Nat.reduceEqDiff, Nat.reduceBEq, Nat.reduceAdd, Nat.reduceMul, Nat.reduceSub, Nat.reduceLeDiff, Nat.reduceLT, reduceIte, reduceCtorEq, Int.reduceToNat, Int.reduceLE, Int.reduceLT, Int.reduceNeg, Bool.not_not, and_self, Bool.and_eq_false_iff, Int.cast_ofNat_Int, Int.reduceAdd, Int.reduceSub, Int.reduceMul, Int.reduceEq, Int.reduceNe, B3_1, show (k : Int) < (i : Int) by omega, tb_get hil, rowT_get (show k < X.next.length by omega), ha]
          have l1 : (tb X.next.length fun a => PV.lst (rowT X.next.length (apT X) a)).length = X.next.length := tb_len _ _
          have l2 := rowT_len X.next.length (apT X) i
          refine ⟨⟨by omega, wf_lsts _ _⟩, ⟨by omega, wf_map (f := fun q => pB (apT X i q)) (s := 1) (fun q => ⟨rfl, fun c hc => by
            simp only [PV.cells, List.mem_cons, List.not_mem_nil, or_false] at hc
            subst hc; rfl⟩) _⟩, ⟨by omega, by omega⟩, k + 1, ⟨_, Weak.refl' _, ?_⟩, hkl, by omega⟩
          simp only [go_sem, Nat.reduceEqDiff, Nat.reduceBEq, Nat.reduceAdd, Nat.reduceMul, Nat.reduceSub, Nat.reduceLeDiff, Nat.reduceLT, reduceIte, reduceCtorEq, Int.reduceToNat, Int.reduceLE, Int.reduceLT, Int.reduceNeg, Bool.not_not, and_self, Bool.and_eq_false_iff, Int.cast_ofNat_Int, Int.reduceAdd, Int.reduceSub, Int.reduceMul, Int.reduceEq, Int.reduceNe]
          first | done | rfl
        · obtain rfl : k = i := by omega
          simp only [go_sem, Nat.reduceEqDiff, Nat.reduceBEq, Nat.reduceAdd, Nat.reduceMul, Nat.reduceSub, Nat.reduceLeDiff, Nat.reduceLT, reduceIte, reduceCtorEq, Int.reduceToNat, Int.reduceLE, Int.reduceLT, Int.reduceNeg, Bool.not_not, and_self, Bool.and_eq_false_iff, Int.cast_ofNat_Int, Int.reduceAdd, Int.reduceSub, Int.reduceMul, Int.reduceEq, Int.reduceNe, B3_1, show ¬ (k : Int) < (k : Int) by omega]
          exact hk
      by_cases h0 : 0 < i
      · have hl := hlive i h0 hil
        simp only [go_sem, Nat.reduceEqDiff, Nat.reduceBEq, Nat.reduceAdd, Nat.reduceMul, Nat.reduceSub, Nat.reduceLeDiff, Nat.reduceLT, reduceIte, reduceCtorEq, Int.reduceToNat, Int.reduceLE, Int.reduceLT, Int.reduceNeg, Bool.not_not, and_self, Bool.and_eq_false_iff, Int.cast_ofNat_Int, Int.reduceAdd, Int.reduceSub, Int.reduceMul, Int.reduceEq, Int.reduceNe, B3_0, show (i : Int) < (X.next.length : Int) by omega, show (0 : Int) < (i : Int) by omega, bool_at hll, hl]
        refine ⟨⟨by omega, wf_bls _⟩, ?_⟩
        refine fin ?_
        simp only [go_sem, Nat.reduceEqDiff, Nat.reduceBEq, Nat.reduceAdd, Nat.reduceMul, Nat.reduceSub, Nat.reduceLeDiff, Nat.reduceLT, reduceIte, reduceCtorEq, Int.reduceToNat, Int.reduceLE, Int.reduceLT, Int.reduceNeg, Bool.not_not, and_self, Bool.and_eq_false_iff, Int.cast_ofNat_Int, Int.reduceAdd, Int.reduceSub, Int.reduceMul, Int.reduceEq, Int.reduceNe]
        refine ⟨⟨by omega, by omega⟩, i + 1, ⟨_, Weak.refl' _, ?_⟩, by omega, by omega⟩
        simp only [go_sem, Nat.reduceEqDiff, Nat.reduceBEq, Nat.reduceAdd, Nat.reduceMul, Nat.reduceSub, Nat.reduceLeDiff, Nat.reduceLT, reduceIte, reduceCtorEq, Int.reduceToNat, Int.reduceLE, Int.reduceLT, Int.reduceNeg, Bool.not_not, and_self, Bool.and_eq_false_iff, Int.cast_ofNat_Int, Int.reduceAdd, Int.reduceSub, Int.reduceMul, Int.reduceEq, Int.reduceNe]
        first | done | rfl
      · obtain rfl : i = 0 := by omega
        simp only [go_sem, Nat.reduceEqDiff, Nat.reduceBEq, Nat.reduceAdd, Nat.reduceMul, Nat.reduceSub, Nat.reduceLeDiff, Nat.reduceLT, reduceIte, reduceCtorEq, Int.reduceToNat, Int.reduceLE, Int.reduceLT, Int.reduceNeg, Bool.not_not, and_self, Bool.and_eq_false_iff, Int.cast_ofNat_Int, Int.reduceAdd, Int.reduceSub, Int.reduceMul, Int.reduceEq, Int.reduceNe, B3_0, show (0 : Int) < (X.next.length : Int) by omega]
        refine fin ?_
        simp only [go_sem, Nat.reduceEqDiff, Nat.reduceBEq, Nat.reduceAdd, Nat.reduceMul, Nat.reduceSub, Nat.reduceLeDiff, Nat.reduceLT, reduceIte, reduceCtorEq, Int.reduceToNat, Int.reduceLE, Int.reduceLT, Int.reduceNeg, Bool.not_not, and_self, Bool.and_eq_false_iff, Int.cast_ofNat_Int, Int.reduceAdd, Int.reduceSub, Int.reduceMul, Int.reduceEq, Int.reduceNe]
        refine ⟨1, ⟨_, Weak.refl' _, ?_⟩, by omega, by omega⟩
        simp only [go_sem, Nat.reduceEqDiff, Nat.reduceBEq, Nat.reduceAdd, Nat.reduceMul, Nat.reduceSub, Nat.reduceLeDiff, Nat.reduceLT, reduceIte, reduceCtorEq, Int.reduceToNat, Int.reduceLE, Int.reduceLT, Int.reduceNeg, Bool.not_not, and_self, Bool.and_eq_false_iff, Int.cast_ofNat_Int, Int.reduceAdd, Int.reduceSub, Int.reduceMul, Int.reduceEq, Int.reduceNe]
        first | done | rfl
    · obtain rfl : i = X.next.length := by omega
      simp only [go_sem, Nat.reduceEqDiff, Nat.reduceBEq, Nat.reduceAdd, Nat.reduceMul, Nat.reduceSub, Nat.reduceLeDiff, Nat.reduceLT, reduceIte, reduceCtorEq, Int.reduceToNat, Int.reduceLE, Int.reduceLT, Int.reduceNeg, Bool.not_not, and_self, Bool.and_eq_false_iff, Int.cast_ofNat_Int, Int.reduceAdd, Int.reduceSub, Int.reduceMul, Int.reduceEq, Int.reduceNe, B3_0, show ¬ (X.next.length : Int) < (X.next.length : Int) by omega, R3_0]
      refine runR_call (by simp only [go_sem, Nat.reduceEqDiff, Nat.reduceBEq, Nat.reduceAdd, Nat.reduceMul, Nat.reduceSub, Nat.reduceLeDiff, Nat.reduceLT, reduceIte, reduceCtorEq, Int.reduceToNat, Int.reduceLE, Int.reduceLT, Int.reduceNeg, Bool.not_not, and_self, Bool.and_eq_false_iff, Int.cast_ofNat_Int, Int.reduceAdd, Int.reduceSub, Int.reduceMul, Int.reduceEq, Int.reduceNe]) rfl (r12) (.inl rfl) trivial ?_
      simp only [go_sem, Nat.reduceEqDiff, Nat.reduceBEq, Nat.reduceAdd, Nat.reduceMul, Nat.reduceSub, Nat.reduceLeDiff, Nat.reduceLT, reduceIte, reduceCtorEq, Int.reduceToNat, Int.reduceLE, Int.reduceLT, Int.reduceNeg, Bool.not_not, and_self, Bool.and_eq_false_iff, Int.cast_ofNat_Int, Int.reduceAdd, Int.reduceSub, Int.reduceMul, Int.reduceEq, Int.reduceNe]
      done
end Go.Vc
