/- A part of the proofs of the seat YtmgbbmhljopepaaGreatDoor: the contracts of functions, each proved out of its code. -/
import Derived.Test.YtmgbbmhljopepaaGreatDoorVh
import Derived.Test.YtmgbbmhljopepaaGreatDoorProg
import Derived.Test.YtmgbbmhljopepaaGreatDoorDj
import Derived.Test.YtmgbbmhljopepaaGreatDoorDz
import Derived.Test.YtmgbbmhljopepaaGreatDoorDk
import Derived.Test.YtmgbbmhljopepaaGreatDoorDy
namespace Go.Vc
open Go.Proofs
set_option maxRecDepth 100000

/-- 'trystref07.Build' -/
def B12_2 : MC := (.seq (.seq (.reg [⟨(some 57), none, (.q (.mv (.t 12)))⟩, ⟨(some 58), none, (.q (.mv (.t 7)))⟩, ⟨(some 59), none, (.q (.len (.t 58) false))⟩, ⟨(some 60), none, (.q (.bin .lss (.t 57)
  (.t 59)))⟩, ⟨(some 61), none, (.q (.mv (.t 60)))⟩, ⟨(some 62), (some (61, true)), (.q (.mv (.t 7)))⟩, ⟨(some 63), (some (61, true)), (.q (.mv (.t 12)))⟩, ⟨(some 64), (some (61, true)),
  (.q (.ia (.t 62) (.t 63) 1))⟩, ⟨(some 65), (some (61, true)), (.q (.ld (.t 64) 1 false))⟩, ⟨(some 66), (some (61, true)), (.q (.mv (.t 11)))⟩, ⟨(some 67), (some (61, true)), (.call (.f 26) [(.t 65),
  (.t 66)])⟩, ⟨(some 68), (some (61, true)), (.q (.not (.t 67)))⟩, ⟨(some 69), none, (.q (.pick (.t 61) (.t 68) (.c (.bool false))))⟩] [] [1, 2, 4, 6, 7, 8, 9, 10, 11, 12, 69] [2, 4, 6, 27, 79, 83,
  126, 132, 1053, 1067, 2009]) (.cond (.t 69) .skip (.exit 4))) (.block 5 (.reg [⟨(some 70), none, (.q (.mv (.t 12)))⟩, ⟨(some 71), none, (.q (.bin .add (.t 70) (.c (.int .i64 1))))⟩, ⟨(some 12),
  none, (.q (.mv (.t 71)))⟩] [] [1, 2, 4, 6, 7, 8, 9, 10, 11, 12] [2, 4, 6, 27, 79, 83, 126, 132, 1053, 2009])))
def R12_2 : MC := (.seq (.reg [⟨(some 72), none, (.q (.mv (.t 12)))⟩, ⟨(some 73), none, (.q (.mv (.t 7)))⟩, ⟨(some 74), none, (.q (.len (.t 73) false))⟩, ⟨(some 75), none, (.q (.bin .eql (.t 72)
  (.t 74)))⟩] [] [1, 2, 4, 6, 7, 8, 9, 10, 11, 12, 75] [2, 4, 6, 27, 79, 83, 126, 132, 1053, 2009]) (.cond (.t 75) (.reg [⟨(some 76), none, (.q (.mv (.t 7)))⟩, ⟨(some 77), none, (.q (.mv (.t 11)))⟩,
  ⟨(some 78), none, (.lits [(.t 77)] 1)⟩, ⟨(some 79), none, (.app (.t 76) (.t 78) 1 24)⟩, ⟨(some 7), none, (.q (.mv (.t 79)))⟩] [] [1, 2, 4, 6, 7, 8, 9, 10, 12] [2, 4, 6, 27, 79, 83, 126, 132, 2009])
  .skip))
def B12_1 : MC := (.seq (.seq (.reg [⟨(some 40), none, (.q (.mv (.t 10)))⟩, ⟨(some 41), none, (.q (.fa (.t 2) 0))⟩, ⟨(some 42), none, (.q (.ld (.t 41) 1 false))⟩, ⟨(some 43), none, (.q (.len (.t 42)
  false))⟩, ⟨(some 44), none, (.q (.bin .leq (.t 40) (.t 43)))⟩] [] [1, 2, 4, 6, 7, 8, 9, 10, 44] [2, 4, 6, 27, 79, 83, 126, 132, 2009]) (.cond (.t 44) .skip (.exit 2)))
  (.seq (.block 3 (.seq (.reg [⟨(some 47), none, (.q (.ld (.t 2) 4 true))⟩, ⟨(some 48), none, (.q (.mv (.t 7)))⟩, ⟨(some 49), none, (.q (.mv (.t 8)))⟩, ⟨(some 50), none, (.q (.ia (.t 48) (.t 49) 1))⟩,
  ⟨(some 51), none, (.q (.ld (.t 50) 1 false))⟩, ⟨(some 52), none, (.q (.mv (.t 10)))⟩, ⟨(some 53), none, (.call (.f 38) [(.t 47), (.t 51), (.t 52)])⟩, ⟨(some 11), none, (.q (.mv (.t 53)))⟩] [] [1, 2,
  4, 6, 7, 8, 9, 10, 11] [2, 4, 6, 27, 79, 83, 126, 132, 1053, 2009]) (.seq (.reg [⟨(some 12), none, (.q (.mv (.c (.int .i64 (-1)))))⟩] [] [1, 2, 4, 6, 7, 8, 9, 10, 11, 12] [2, 4, 6, 27, 79, 83, 126,
  132, 1053, 2009]) (.seq (.seq (.reg [⟨(some 54), none, (.q (.mv (.t 11)))⟩, ⟨(some 55), none, (.q (.len (.t 54) false))⟩, ⟨(some 56), none, (.q (.bin .gtr (.t 55) (.c (.int .i64 0))))⟩] [] [1, 2, 4,
  6, 7, 8, 9, 10, 11, 12, 56] [2, 4, 6, 27, 79, 83, 126, 132, 1053, 2009]) (.cond (.t 56) (.seq (.reg [⟨(some 12), none, (.q (.mv (.c (.int .i64 0))))⟩] [] [1, 2, 4, 6, 7, 8, 9, 10, 11, 12] [2, 4, 6,
  27, 79, 83, 126, 132, 1053, 2009]) (.seq (.block 4 (.loop B12_2)) R12_2)) .skip)) (.reg [⟨(some 80), none, (.q (.mv (.t 9)))⟩, ⟨(some 81), none, (.q (.mv (.t 12)))⟩, ⟨(some 82), none,
  (.lits [(.t 81)] 1)⟩, ⟨(some 83), none, (.app (.t 80) (.t 82) 1 8)⟩, ⟨(some 9), none, (.q (.mv (.t 83)))⟩] [] [1, 2, 4, 6, 7, 8, 9, 10] [2, 4, 6, 27, 79, 83, 126, 132, 2009]))))) (.reg [⟨(some 45),
  none, (.q (.mv (.t 10)))⟩, ⟨(some 46), none, (.q (.bin .add (.t 45) (.c (.int .i64 1))))⟩, ⟨(some 10), none, (.q (.mv (.t 46)))⟩] [] [1, 2, 4, 6, 7, 8, 9, 10] [2, 4, 6, 27, 79, 83, 126, 132,
  2009])))
def B12_4 : MC := (.seq (.seq (.reg [⟨(some 91), none, (.q (.mv (.t 16)))⟩, ⟨(some 92), none, (.q (.mv (.t 7)))⟩, ⟨(some 93), none, (.q (.mv (.t 8)))⟩, ⟨(some 94), none, (.q (.ia (.t 92) (.t 93) 1))⟩,
  ⟨(some 95), none, (.q (.ld (.t 94) 1 false))⟩, ⟨(some 96), none, (.q (.len (.t 95) false))⟩, ⟨(some 97), none, (.q (.bin .lss (.t 91) (.t 96)))⟩] [] [1, 2, 4, 6, 7, 8, 9, 13, 14, 15, 16, 97] [2, 4,
  6, 27, 79, 83, 121, 126, 132, 1115, 2009, 2013]) (.cond (.t 97) .skip (.exit 8))) (.seq (.block 9 (.reg [⟨(some 100), none, (.q (.mv (.t 15)))⟩, ⟨(some 101), none, (.q (.mv (.t 100)))⟩, ⟨(some 102),
  (some (101, false)), (.q (.fa (.t 2) 2))⟩, ⟨(some 103), (some (101, false)), (.q (.ld (.t 102) 1 false))⟩, ⟨(some 104), (some (101, false)), (.q (.mv (.t 7)))⟩, ⟨(some 105), (some (101, false)),
  (.q (.mv (.t 8)))⟩, ⟨(some 106), (some (101, false)), (.q (.ia (.t 104) (.t 105) 1))⟩, ⟨(some 107), (some (101, false)), (.q (.ld (.t 106) 1 false))⟩, ⟨(some 108), (some (101, false)),
  (.q (.mv (.t 16)))⟩, ⟨(some 109), (some (101, false)), (.q (.ia (.t 107) (.t 108) 1))⟩, ⟨(some 110), (some (101, false)), (.q (.ld (.t 109) 1 false))⟩, ⟨(some 111), (some (101, false)),
  (.q (.ia (.t 103) (.t 110) 1))⟩, ⟨(some 112), (some (101, false)), (.q (.ld (.t 111) 1 false))⟩, ⟨(some 113), (some (101, false)), (.q (.mv (.t 14)))⟩, ⟨(some 114), (some (101, false)),
  (.lits [(.t 113)] 1)⟩, ⟨(some 115), (some (101, false)), (.call (.f 26) [(.t 112), (.t 114)])⟩, ⟨(some 116), none, (.q (.pick (.t 101) (.c (.bool true)) (.t 115)))⟩, ⟨(some 15), none,
  (.q (.mv (.t 116)))⟩] [] [1, 2, 4, 6, 7, 8, 9, 13, 14, 15, 16] [2, 4, 6, 27, 79, 83, 121, 126, 132, 1115, 2009, 2013])) (.reg [⟨(some 98), none, (.q (.mv (.t 16)))⟩, ⟨(some 99), none,
  (.q (.bin .add (.t 98) (.c (.int .i64 1))))⟩, ⟨(some 16), none, (.q (.mv (.t 99)))⟩] [] [1, 2, 4, 6, 7, 8, 9, 13, 14, 15, 16] [2, 4, 6, 27, 79, 83, 121, 126, 132, 1115, 2009, 2013])))
def R12_4 : MC := (.seq (.reg [⟨(some 117), none, (.q (.mv (.t 15)))⟩] [] [1, 2, 4, 6, 7, 8, 9, 13, 14, 117] [2, 4, 6, 27, 79, 83, 121, 126, 132, 1115, 2009, 2013]) (.cond (.t 117) (.reg [⟨(some 118),
  none, (.q (.mv (.t 13)))⟩, ⟨(some 119), none, (.q (.mv (.t 14)))⟩, ⟨(some 120), none, (.lits [(.t 119)] 1)⟩, ⟨(some 121), none, (.app (.t 118) (.t 120) 1 8)⟩, ⟨(some 13), none,
  (.q (.mv (.t 121)))⟩] [] [1, 2, 4, 6, 7, 8, 9, 13, 14] [2, 4, 6, 27, 79, 83, 121, 126, 132, 2009, 2013]) .skip))
def B12_3 : MC := (.seq (.seq (.reg [⟨(some 84), none, (.q (.mv (.t 14)))⟩, ⟨(some 85), none, (.q (.fa (.t 2) 3))⟩, ⟨(some 86), none, (.q (.ld (.t 85) 1 false))⟩, ⟨(some 87), none, (.q (.len (.t 86)
  false))⟩, ⟨(some 88), none, (.q (.bin .lss (.t 84) (.t 87)))⟩] [] [1, 2, 4, 6, 7, 8, 9, 13, 14, 88] [2, 4, 6, 27, 79, 83, 121, 126, 132, 2009, 2013]) (.cond (.t 88) .skip (.exit 6)))
  (.seq (.block 7 (.seq (.reg [⟨(some 15), none, (.q (.mv (.c (.bool false))))⟩] [] [1, 2, 4, 6, 7, 8, 9, 13, 14, 15] [2, 4, 6, 27, 79, 83, 121, 126, 132, 1115, 2009, 2013])
  (.seq (.seq (.reg [⟨(some 16), none, (.q (.mv (.c (.int .i64 0))))⟩] [] [1, 2, 4, 6, 7, 8, 9, 13, 14, 15, 16] [2, 4, 6, 27, 79, 83, 121, 126, 132, 1115, 2009, 2013]) (.block 8 (.loop B12_4)))
  R12_4))) (.reg [⟨(some 89), none, (.q (.mv (.t 14)))⟩, ⟨(some 90), none, (.q (.bin .add (.t 89) (.c (.int .i64 1))))⟩, ⟨(some 14), none, (.q (.mv (.t 90)))⟩] [] [1, 2, 4, 6, 7, 8, 9, 13, 14] [2, 4,
  6, 27, 79, 83, 121, 126, 132, 2009, 2013])))
def R12_3 : MC := (.seq (.reg [⟨(some 122), none, (.q (.fa (.t 6) 1))⟩, ⟨(some 123), none, (.q (.ld (.t 122) 1 false))⟩, ⟨(some 124), none, (.q (.mv (.t 9)))⟩, ⟨(some 125), none,
  (.lits [(.t 124)] 1)⟩, ⟨(some 126), none, (.app (.t 123) (.t 125) 1 24)⟩, ⟨(some 127), none, (.q (.fa (.t 6) 1))⟩, ⟨none, none, (.st (.t 127) (.t 126) 1)⟩] [(2013, 2013, 0)] [1, 2, 4, 6, 7, 8,
  13] [2, 4, 6, 27, 79, 121, 126, 132, 2013]) (.reg [⟨(some 128), none, (.q (.fa (.t 6) 2))⟩, ⟨(some 129), none, (.q (.ld (.t 128) 1 false))⟩, ⟨(some 130), none, (.q (.mv (.t 13)))⟩, ⟨(some 131),
  none, (.lits [(.t 130)] 1)⟩, ⟨(some 132), none, (.app (.t 129) (.t 131) 1 24)⟩, ⟨(some 133), none, (.q (.fa (.t 6) 2))⟩, ⟨none, none, (.st (.t 133) (.t 132) 1)⟩] [] [1, 2, 4, 6, 7, 8] [2, 4, 6, 27,
  79, 126, 132]))
def R12_1 : MC := (.seq (.reg [⟨(some 13), none, (.q (.mv .nil))⟩] [(2009, 2009, 0)] [1, 2, 4, 6, 7, 8, 9, 13] [2, 4, 6, 27, 79, 83, 121, 126, 132, 2009, 2013]) (.seq (.seq (.reg [⟨(some 14), none,
  (.q (.mv (.c (.int .i64 0))))⟩] [(13, 2013, 1)] [1, 2, 4, 6, 7, 8, 9, 13, 14] [2, 4, 6, 27, 79, 83, 121, 126, 132, 2009, 2013]) (.block 6 (.loop B12_3))) R12_3))
def B12_0 : MC := (.seq (.seq (.reg [⟨(some 28), none, (.q (.mv (.t 8)))⟩, ⟨(some 29), none, (.q (.mv (.t 7)))⟩, ⟨(some 30), none, (.q (.len (.t 29) false))⟩, ⟨(some 31), none, (.q (.bin .lss (.t 28)
  (.t 30)))⟩, ⟨(some 32), none, (.q (.mv (.t 31)))⟩, ⟨(some 33), (some (32, true)), (.q (.mv (.t 7)))⟩, ⟨(some 34), (some (32, true)), (.q (.len (.t 33) false))⟩, ⟨(some 35), (some (32, true)),
  (.q (.mv (.t 1)))⟩, ⟨(some 36), (some (32, true)), (.q (.bin .leq (.t 34) (.t 35)))⟩, ⟨(some 37), none, (.q (.pick (.t 32) (.t 36) (.c (.bool false))))⟩] [] [1, 2, 4, 6, 7, 8, 37] [2, 4, 6, 27, 79,
  126, 132]) (.cond (.t 37) .skip (.exit 0))) (.seq (.block 1 (.seq (.reg [⟨(some 9), none, (.q (.mv .nil))⟩] [] [1, 2, 4, 6, 7, 8, 9] [2, 4, 6, 27, 79, 83, 126, 132, 2009])
  (.seq (.seq (.reg [⟨(some 10), none, (.q (.mv (.c (.int .i64 0))))⟩] [(9, 2009, 1)] [1, 2, 4, 6, 7, 8, 9, 10] [2, 4, 6, 27, 79, 83, 126, 132, 2009]) (.block 2 (.loop B12_1))) R12_1)))
  (.reg [⟨(some 38), none, (.q (.mv (.t 8)))⟩, ⟨(some 39), none, (.q (.bin .add (.t 38) (.c (.int .i64 1))))⟩, ⟨(some 8), none, (.q (.mv (.t 39)))⟩] [] [1, 2, 4, 6, 7, 8] [2, 4, 6, 27, 79, 126,
  132])))
def R12_0 : MC := (.seq (.seq (.reg [⟨(some 134), none, (.q (.mv (.t 7)))⟩, ⟨(some 135), none, (.q (.len (.t 134) false))⟩, ⟨(some 136), none, (.q (.mv (.t 1)))⟩, ⟨(some 137), none,
  (.q (.bin .gtr (.t 135) (.t 136)))⟩] [] [4, 6, 137] [4, 6, 126, 132]) (.cond (.t 137) (.seq (.reg [⟨(some 138), none, (.q (.mk [.e0, .e0, .e0] []))⟩, ⟨none, none, (.st (.t 4) (.t 138) 3)⟩,
  ⟨(some 5), none, (.q (.mv (.c (.int .i64 6))))⟩] [] [4, 5] [4, 126, 132]) .ret) .skip)) (.seq (.reg [⟨(some 139), none, (.q (.ld (.t 6) 3 true))⟩, ⟨none, none, (.st (.t 4) (.t 139) 3)⟩, ⟨(some 5),
  none, (.q (.mv (.c (.int .i64 0))))⟩] [] [4, 5] [4, 126, 132]) .ret))
def M12 : MC := (.seq (.reg [⟨(some 2), none, (.box (.t 0))⟩, ⟨(some 4), none, (.alloc [.e0, .e0, .e0])⟩, ⟨(some 5), none, (.q (.mv (.c (.int .i64 0))))⟩] [] [1, 2, 4] [2, 4, 126, 132])
  (.seq (.seq (.reg [⟨(some 17), none, (.q (.mv (.t 1)))⟩, ⟨(some 18), none, (.q (.bin .lss (.t 17) (.c (.int .i64 1))))⟩] [] [1, 2, 4, 18] [2, 4, 126, 132]) (.cond (.t 18) (.seq (.reg [⟨(some 19),
  none, (.q (.mk [.e0, .e0, .e0] []))⟩, ⟨none, none, (.st (.t 4) (.t 19) 3)⟩, ⟨(some 5), none, (.q (.mv (.c (.int .i64 1))))⟩] [] [4, 5] [4, 126, 132]) .ret) .skip)) (.seq (.reg [⟨(some 20), none,
  (.q (.fa (.t 2) 0))⟩, ⟨(some 21), none, (.q (.ld (.t 20) 1 false))⟩, ⟨(some 22), none, (.q (.mk [.e0, .e0, .e0] [(0, 1, (.t 21))]))⟩, ⟨(some 6), none, (.alloc [.e0, .e0, .e0])⟩, ⟨none, none,
  (.st (.t 6) (.t 22) 3)⟩] [] [1, 2, 4, 6] [2, 4, 6, 126, 132]) (.seq (.reg [⟨(some 23), none, (.q (.ld (.t 2) 4 true))⟩, ⟨(some 24), none, (.q (.fa (.t 2) 3))⟩, ⟨(some 25), none, (.q (.ld (.t 24)
  1 false))⟩, ⟨(some 26), none, (.call (.f 37) [(.t 23), (.t 25)])⟩, ⟨(some 27), none, (.own [(.t 26)] 1)⟩, ⟨(some 7), none, (.q (.mv (.t 27)))⟩] [] [1, 2, 4, 6, 7] [2, 4, 6, 27, 79, 126, 132])
  (.seq (.seq (.reg [⟨(some 8), none, (.q (.mv (.c (.int .i64 0))))⟩] [] [1, 2, 4, 6, 7, 8] [2, 4, 6, 27, 79, 126, 132]) (.block 0 (.loop B12_0))) R12_0)))))
theorem mc12 : ofCode Tryz.prog [27] Tryz.f12.ntmps [(0, ⟨[1, 2, 4], [2, 4, 126, 132], [], 0, [], none⟩),
    (1, ⟨[1, 2, 4, 18], [2, 4, 126, 132], [], 0, [], none⟩),
    (2, ⟨[4, 5], [4, 126, 132], [], 0, [], none⟩),
    (3, ⟨[1, 2, 4, 6], [2, 4, 6, 126, 132], [], 0, [], none⟩),
    (4, ⟨[1, 2, 4, 6, 7], [2, 4, 6, 27, 79, 126, 132], [], 0, [], none⟩),
    (5, ⟨[1, 2, 4, 6, 7, 8], [2, 4, 6, 27, 79, 126, 132], [], 0, [], none⟩),
    (6, ⟨[1, 2, 4, 6, 7, 8, 37], [2, 4, 6, 27, 79, 126, 132], [], 0, [], none⟩),
    (7, ⟨[1, 2, 4, 6, 7, 8], [2, 4, 6, 27, 79, 126, 132], [], 0, [], none⟩),
    (8, ⟨[1, 2, 4, 6, 7, 8, 9], [2, 4, 6, 27, 79, 83, 126, 132, 2009], [], 0, [], none⟩),
    (9, ⟨[1, 2, 4, 6, 7, 8, 9, 10], [2, 4, 6, 27, 79, 83, 126, 132, 2009], [], 0, [(9, 2009, 1)], none⟩),
    (10, ⟨[1, 2, 4, 6, 7, 8, 9, 10, 44], [2, 4, 6, 27, 79, 83, 126, 132, 2009], [], 0, [], none⟩),
    (11, ⟨[1, 2, 4, 6, 7, 8, 9, 10], [2, 4, 6, 27, 79, 83, 126, 132, 2009], [], 0, [], none⟩),
    (12, ⟨[1, 2, 4, 6, 7, 8, 9, 10, 11], [2, 4, 6, 27, 79, 83, 126, 132, 1053, 2009], [(0, 193), (1, 218), (2, 220), (3, 216), (4, 208), (5, 224), (6, 0), (7, 128)], 255, [], none⟩),
    (13, ⟨[1, 2, 4, 6, 7, 8, 9, 10, 11, 12], [2, 4, 6, 27, 79, 83, 126, 132, 1053, 2009], [], 0, [], none⟩),
    (14, ⟨[1, 2, 4, 6, 7, 8, 9, 10, 11, 12, 56], [2, 4, 6, 27, 79, 83, 126, 132, 1053, 2009], [], 0, [], none⟩),
    (15, ⟨[1, 2, 4, 6, 7, 8, 9, 10, 11, 12], [2, 4, 6, 27, 79, 83, 126, 132, 1053, 2009], [], 0, [], none⟩),
    (16, ⟨[1, 2, 4, 6, 7, 8, 9, 10, 11, 12, 69], [2, 4, 6, 27, 79, 83, 126, 132, 1053, 1067, 2009], [], 0, [], none⟩),
    (17, ⟨[1, 2, 4, 6, 7, 8, 9, 10, 11, 12], [2, 4, 6, 27, 79, 83, 126, 132, 1053, 2009], [], 0, [], none⟩),
    (18, ⟨[1, 2, 4, 6, 7, 8, 9, 10, 11, 12, 75], [2, 4, 6, 27, 79, 83, 126, 132, 1053, 2009], [], 0, [], none⟩),
    (19, ⟨[1, 2, 4, 6, 7, 8, 9, 10, 12], [2, 4, 6, 27, 79, 83, 126, 132, 2009], [], 0, [], none⟩),
    (20, ⟨[1, 2, 4, 6, 7, 8, 9, 10], [2, 4, 6, 27, 79, 83, 126, 132, 2009], [], 0, [], none⟩),
    (21, ⟨[1, 2, 4, 6, 7, 8, 9, 13], [2, 4, 6, 27, 79, 83, 121, 126, 132, 2009, 2013], [], 0, [(2009, 2009, 0)], none⟩),
    (22, ⟨[1, 2, 4, 6, 7, 8, 9, 13, 14], [2, 4, 6, 27, 79, 83, 121, 126, 132, 2009, 2013], [], 0, [(13, 2013, 1)], none⟩),
    (23, ⟨[1, 2, 4, 6, 7, 8, 9, 13, 14, 88], [2, 4, 6, 27, 79, 83, 121, 126, 132, 2009, 2013], [], 0, [], none⟩),
    (24, ⟨[1, 2, 4, 6, 7, 8, 9, 13, 14], [2, 4, 6, 27, 79, 83, 121, 126, 132, 2009, 2013], [], 0, [], none⟩),
    (25, ⟨[1, 2, 4, 6, 7, 8, 9, 13, 14, 15], [2, 4, 6, 27, 79, 83, 121, 126, 132, 1115, 2009, 2013], [], 0, [], none⟩),
    (26, ⟨[1, 2, 4, 6, 7, 8, 9, 13, 14, 15, 16], [2, 4, 6, 27, 79, 83, 121, 126, 132, 1115, 2009, 2013], [], 0, [], none⟩),
    (27, ⟨[1, 2, 4, 6, 7, 8, 9, 13, 14, 15, 16, 97], [2, 4, 6, 27, 79, 83, 121, 126, 132, 1115, 2009, 2013], [], 0, [], none⟩),
    (28, ⟨[1, 2, 4, 6, 7, 8, 9, 13, 14, 15, 16], [2, 4, 6, 27, 79, 83, 121, 126, 132, 1115, 2009, 2013], [], 0, [], none⟩),
    (29, ⟨[1, 2, 4, 6, 7, 8, 9, 13, 14, 15, 16], [2, 4, 6, 27, 79, 83, 121, 126, 132, 1115, 2009, 2013], [(0, 262143), (1, 262142), (2, 235532), (3, 235528), (4, 237264), (5, 237280), (6, 237248), (7, 237184), (8, 237312), (9, 237056), (10, 236544), (11, 235520), (12, 233472), (13, 253952), (14, 0), (15, 0), (16, 196608), (17, 131072)], 262143, [], none⟩),
    (30, ⟨[1, 2, 4, 6, 7, 8, 9, 13, 14, 117], [2, 4, 6, 27, 79, 83, 121, 126, 132, 1115, 2009, 2013], [], 0, [], none⟩),
    (31, ⟨[1, 2, 4, 6, 7, 8, 9, 13, 14], [2, 4, 6, 27, 79, 83, 121, 126, 132, 2009, 2013], [], 0, [], none⟩),
    (32, ⟨[1, 2, 4, 6, 7, 8, 13], [2, 4, 6, 27, 79, 121, 126, 132, 2013], [], 0, [(2013, 2013, 0)], none⟩),
    (33, ⟨[1, 2, 4, 6, 7, 8], [2, 4, 6, 27, 79, 126, 132], [], 0, [], none⟩),
    (34, ⟨[4, 6, 137], [4, 6, 126, 132], [], 0, [], none⟩),
    (35, ⟨[4, 5], [4, 126, 132], [], 0, [], none⟩),
    (36, ⟨[4, 5], [4, 126, 132], [], 0, [], none⟩)] (Tryz.f12.body.getD .skip) = some M12 := by kernel_rfl
theorem Run12 {args : List PV} {v : AV} {rs : List (Nat × List PV)} (ids : List Bool) (h : args.length ≤ 140) (hv : run Tryz.prog (retK [RV.cell 4 3 true, RV.tmp 5] ids v rs) M12 [] ⟨entry 0 args, []⟩) : Fn Tryz.prog 12 args v rs :=
  Fn_run ids (by kernel_rfl) Tryz.func12 (by decide) rfl mc12 (by kernel_rfl) (by rw [Tryz.ntmps12]; exact h) (by rw [Tryz.ntmps12]; decide) hv

/-- 'trystlaw07.DfaBuilds' -/
def M3 : MC := (.seq (.reg [⟨(some 4), none, (.q (.mv (.c (.bool false))))⟩] [] [0, 1] [1016]) (.seq (.reg [⟨(some 15), none, (.q (.mv (.t 0)))⟩, ⟨(some 16), none, (.call (.f 8) [(.t 15)])⟩,
  ⟨(some 0), none, (.q (.mv (.t 16)))⟩] [] [0, 1] [1016]) (.seq (.seq (.reg [⟨(some 17), none, (.q (.mv (.t 1)))⟩, ⟨(some 18), none, (.q (.bin .gtr (.t 17) (.c (.int .i64 200))))⟩] [] [0, 1,
  18] [1016]) (.cond (.t 18) (.reg [⟨(some 1), none, (.q (.mv (.c (.int .i64 200))))⟩] [] [0, 1] [1016]) .skip)) (.seq (.reg [⟨(some 20), none, (.q (.mv (.t 0)))⟩, ⟨(some 21), none,
  (.q (.mv (.t 1)))⟩, ⟨(some 22), none, (.call (.f 9) [(.t 20), (.t 21)])⟩, ⟨(some 19), none, (.q (.mv (.t 22)))⟩, ⟨(some 23), none, (.q (.ext (.t 19) 0))⟩, ⟨(some 24), none, (.q (.ext (.t 19) 1))⟩,
  ⟨(some 5), none, (.alloc [.e0, .e0, .e0])⟩, ⟨none, none, (.st (.t 5) (.t 23) 3)⟩, ⟨(some 6), none, (.q (.mv (.t 24)))⟩] [] [0, 1, 5, 6] [5, 1016, 1022]) (.seq (.reg [⟨(some 26), none,
  (.q (.mv (.t 0)))⟩, ⟨(some 27), none, (.call (.f 10) [(.t 26)])⟩, ⟨(some 25), none, (.q (.mv (.t 27)))⟩, ⟨(some 28), none, (.q (.ext (.t 25) 0))⟩, ⟨(some 29), none, (.q (.ext (.t 25) 1))⟩,
  ⟨(some 7), none, (.alloc [.e0, .e0, .e0, .e0])⟩, ⟨none, none, (.st (.t 7) (.t 28) 4)⟩, ⟨(some 8), none, (.q (.mv (.t 29)))⟩] [] [0, 1, 5, 6, 7, 8] [5, 7, 1016, 1022, 1027])
  (.seq (.seq (.reg [⟨(some 30), none, (.q (.mv (.t 8)))⟩, ⟨(some 31), none, (.q (.not (.t 30)))⟩] [] [0, 1, 5, 6, 7, 31] [5, 7, 1016, 1022, 1027]) (.cond (.t 31) (.seq (.reg [⟨(some 32), none,
  (.q (.fa (.t 5) 1))⟩, ⟨(some 33), none, (.q (.ld (.t 32) 1 false))⟩, ⟨(some 34), none, (.q (.len (.t 33) false))⟩, ⟨(some 35), none, (.q (.bin .eql (.t 34) (.c (.int .i64 0))))⟩, ⟨(some 36), none,
  (.q (.mv (.t 35)))⟩, ⟨(some 37), (some (36, true)), (.q (.mv (.t 6)))⟩, ⟨(some 38), (some (36, true)), (.q (.bin .eql (.t 37) (.c (.int .i64 1))))⟩, ⟨(some 39), none, (.q (.pick (.t 36) (.t 38)
  (.c (.bool false))))⟩, ⟨(some 40), none, (.q (.mv (.t 39)))⟩, ⟨(some 41), (some (40, true)), (.call (.f 11) [])⟩, ⟨(some 42), none, (.q (.pick (.t 40) (.t 41) (.c (.bool false))))⟩, ⟨(some 4), none,
  (.q (.mv (.t 42)))⟩] [] [4] [1022, 1041, 1046, 1075, 1083, 1090]) .ret) .skip)) (.seq (.reg [⟨(some 44), none, (.q (.ld (.t 7) 4 true))⟩, ⟨(some 45), none, (.q (.mv (.t 1)))⟩, ⟨(some 46), none,
  (.call (.f 12) [(.t 44), (.t 45)])⟩, ⟨(some 43), none, (.q (.mv (.t 46)))⟩, ⟨(some 47), none, (.q (.ext (.t 43) 0))⟩, ⟨(some 48), none, (.q (.ext (.t 43) 1))⟩, ⟨(some 9), none, (.alloc [.e0, .e0,
  .e0])⟩, ⟨none, none, (.st (.t 9) (.t 47) 3)⟩, ⟨(some 10), none, (.q (.mv (.t 48)))⟩] [] [0, 1, 5, 6, 9, 10] [5, 9, 1016, 1022, 1046]) (.seq (.reg [⟨(some 50), none, (.q (.mv (.t 0)))⟩, ⟨(some 51),
  none, (.call (.f 13) [(.t 50)])⟩, ⟨(some 49), none, (.q (.mv (.t 51)))⟩, ⟨(some 52), none, (.q (.ext (.t 49) 0))⟩, ⟨(some 53), none, (.q (.ext (.t 49) 1))⟩, ⟨(some 11), none, (.alloc [.e0, .e0, .e0,
  .e0])⟩, ⟨none, none, (.st (.t 11) (.t 52) 4)⟩, ⟨(some 12), none, (.q (.mv (.t 53)))⟩] [] [1, 5, 6, 9, 10, 11, 12] [5, 9, 11, 1022, 1046, 1051]) (.seq (.reg [⟨(some 55), none, (.q (.ld (.t 11)
  4 true))⟩, ⟨(some 56), none, (.q (.mv (.t 1)))⟩, ⟨(some 57), none, (.call (.f 14) [(.t 55), (.t 56)])⟩, ⟨(some 54), none, (.q (.mv (.t 57)))⟩, ⟨(some 58), none, (.q (.ext (.t 54) 0))⟩, ⟨(some 59),
  none, (.q (.ext (.t 54) 1))⟩, ⟨(some 13), none, (.alloc [.e0, .e0, .e0])⟩, ⟨none, none, (.st (.t 13) (.t 58) 3)⟩, ⟨(some 14), none, (.q (.mv (.t 59)))⟩] [] [5, 6, 9, 10, 12, 13, 14] [5, 9, 13, 1022,
  1046, 1051, 1057]) (.seq (.seq (.reg [⟨(some 60), none, (.q (.mv (.t 12)))⟩, ⟨(some 61), none, (.q (.bin .neq (.t 60) (.c (.int .i64 0))))⟩, ⟨(some 62), none, (.q (.mv (.t 61)))⟩, ⟨(some 63),
  (some (62, false)), (.q (.ld (.t 13) 3 true))⟩, ⟨(some 64), (some (62, false)), (.q (.ld (.t 9) 3 true))⟩, ⟨(some 65), (some (62, false)), (.call (.f 15) [(.t 63), (.t 64)])⟩, ⟨(some 66), (some (62,
  false)), (.q (.not (.t 65)))⟩, ⟨(some 67), none, (.q (.pick (.t 62) (.c (.bool true)) (.t 66)))⟩, ⟨(some 68), none, (.q (.mv (.t 67)))⟩, ⟨(some 69), (some (68, false)), (.q (.mv (.t 14)))⟩,
  ⟨(some 70), (some (68, false)), (.q (.mv (.t 10)))⟩, ⟨(some 71), (some (68, false)), (.q (.bin .neq (.t 69) (.t 70)))⟩, ⟨(some 72), none, (.q (.pick (.t 68) (.c (.bool true)) (.t 71)))⟩] [] [5, 6,
  9, 10, 72] [5, 9, 1022, 1046, 1051, 1057, 1065]) (.cond (.t 72) (.seq (.reg [⟨(some 4), none, (.q (.mv (.c (.bool false))))⟩] [] [4] [1022, 1041, 1046, 1075, 1083, 1090]) .ret) .skip))
  (.seq (.reg [⟨(some 73), none, (.q (.ld (.t 5) 3 true))⟩, ⟨(some 74), none, (.q (.ld (.t 9) 3 true))⟩, ⟨(some 75), none, (.call (.f 15) [(.t 73), (.t 74)])⟩, ⟨(some 76), none, (.q (.mv (.t 75)))⟩,
  ⟨(some 77), (some (76, true)), (.q (.mv (.t 6)))⟩, ⟨(some 78), (some (76, true)), (.q (.mv (.t 10)))⟩, ⟨(some 79), (some (76, true)), (.q (.bin .eql (.t 77) (.t 78)))⟩, ⟨(some 80), none,
  (.q (.pick (.t 76) (.t 79) (.c (.bool false))))⟩, ⟨(some 81), none, (.q (.mv (.t 80)))⟩, ⟨(some 82), (some (81, true)), (.q (.ld (.t 5) 3 true))⟩, ⟨(some 84), (some (81, true)), (.q (.fa (.t 9)
  1))⟩, ⟨(some 85), (some (81, true)), (.q (.ld (.t 84) 1 false))⟩, ⟨(some 86), (some (81, true)), (.q (.len (.t 85) false))⟩, ⟨(some 83), (some (81, true)), (.call (.f 16) [(.t 82)])⟩, ⟨(some 87),
  (some (81, true)), (.q (.bin .eql (.t 83) (.t 86)))⟩, ⟨(some 88), none, (.q (.pick (.t 81) (.t 87) (.c (.bool false))))⟩, ⟨(some 89), none, (.q (.mv (.t 88)))⟩, ⟨(some 90), (some (89, true)),
  (.call (.f 11) [])⟩, ⟨(some 91), none, (.q (.pick (.t 89) (.t 90) (.c (.bool false))))⟩, ⟨(some 4), none, (.q (.mv (.t 91)))⟩] [] [4] [1022, 1041, 1046, 1075, 1083, 1090]) .ret)))))))))))
theorem mc3 : ofCode Tryz.prog [] Tryz.f3.ntmps [(0, ⟨[0, 1], [1016], [], 0, [], none⟩),
    (1, ⟨[0, 1], [1016], [], 0, [], none⟩),
    (2, ⟨[0, 1, 18], [1016], [], 0, [], none⟩),
    (3, ⟨[0, 1], [1016], [], 0, [], none⟩),
    (4, ⟨[0, 1, 5, 6], [5, 1016, 1022], [], 0, [], none⟩),
    (5, ⟨[0, 1, 5, 6, 7, 8], [5, 7, 1016, 1022, 1027], [], 0, [], none⟩),
    (6, ⟨[0, 1, 5, 6, 7, 31], [5, 7, 1016, 1022, 1027], [], 0, [], none⟩),
    (7, ⟨[4], [1022, 1041, 1046, 1075, 1083, 1090], [], 0, [], none⟩),
    (8, ⟨[0, 1, 5, 6, 9, 10], [5, 9, 1016, 1022, 1046], [], 0, [], none⟩),
    (9, ⟨[1, 5, 6, 9, 10, 11, 12], [5, 9, 11, 1022, 1046, 1051], [], 0, [], none⟩),
    (10, ⟨[5, 6, 9, 10, 12, 13, 14], [5, 9, 13, 1022, 1046, 1051, 1057], [], 0, [], none⟩),
    (11, ⟨[5, 6, 9, 10, 72], [5, 9, 1022, 1046, 1051, 1057, 1065], [], 0, [], none⟩),
    (12, ⟨[4], [1022, 1041, 1046, 1075, 1083, 1090], [], 0, [], none⟩),
    (13, ⟨[4], [1022, 1041, 1046, 1075, 1083, 1090], [(0, 1048573), (1, 1048574), (2, 0), (3, 1048568), (4, 1048528), (5, 1048544), (6, 1048512), (7, 1048448), (8, 1048320), (9, 1033728), (11, 1046528), (12, 1044480), (13, 1040384), (10, 0), (14, 1032192), (15, 1015808), (16, 983040), (17, 0), (18, 786432), (19, 524288)], 1048575, [], none⟩)] (Tryz.f3.body.getD .skip) = some M3 := by kernel_rfl
theorem Run3 {args : List PV} {v : AV} {rs : List (Nat × List PV)} (ids : List Bool) (h : args.length ≤ 92) (hv : run Tryz.prog (retK [RV.tmp 4] ids v rs) M3 [] ⟨entry 0 args, []⟩) : Fn Tryz.prog 3 args v rs :=
  Fn_run ids (by kernel_rfl) Tryz.func3 (by decide) rfl mc3 (by kernel_rfl) (by rw [Tryz.ntmps3]; exact h) (by rw [Tryz.ntmps3]; decide) hv

end Go.Vc

namespace Go.Vc
open Go.Proofs
set_option linter.unusedSimpArgs false
set_option linter.unusedVariables false

/-! ## The document's 'Build' of a Dfa -/
theorem toI_inj {a b : List Nat} : toI a = toI b ↔ a = b := by
  constructor
  · intro h
    have : (toI a).map Int.toNat = (toI b).map Int.toNat := by rw [h]
    simpa [toI, Function.comp_def] using this
  · rintro rfl; rfl
theorem one_mem {l : List Nat} (h : l.length ≤ 1) (g : Nat) : (g ∈ l) = (toI l = toI [g]) := by
  rw [eq_iff_iff, toI_inj]
  match l, h with
  | [], _ => simp
  | [x], _ => simp [eq_comm]
/-- what is done among the first g -/
abbrev donP (n : NF) (S : List Nat) (g : Nat) : List Nat := (List.range g).filter fun g => S.any fun s => decide (g ∈ n.done.getD s [])
theorem donP_succ (n : NF) (S : List Nat) (g : Nat) : donP n S (g + 1) = donP n S g ++ (if (S.any fun s => decide (g ∈ n.done.getD s [])) = true then [g] else []) := by
  unfold donP
  rw [List.range_succ, List.filter_append]
  congr 1
  rw [List.filter_cons, List.filter_nil]
theorem donP_len (n : NF) (S : List Nat) (g : Nat) : (donP n S g).length ≤ g := by
  have := List.length_filter_le (fun g => S.any fun s => decide (g ∈ n.done.getD s [])) (List.range g)
  rwa [List.length_range] at this
theorem rowL_le (n : NF) (S : List Nat) (L : List (List Nat)) : ∀ a, (rowL n S L a).length ≤ L.length + a
  | 0 => Nat.le_refl _
  | a + 1 => by
    have := rowL_le n S L a
    simp only [rowL]; unfold addS
    split
    · omega
    · rw [List.length_append, List.length_singleton]; omega
abbrev rowI (n : NF) (S : List Nat) (L : List (List Nat)) (a : Nat) : List PV := (rowN n S L a).map fun x => pI x
set_option maxHeartbeats 4000000 in
theorem fn12 (n : NF) (most : Int) (hn : n.Ok) (hnd : n.done.length = n.size) (hm : most ≤ 1000) : Fn Tryz.prog 12 [pNf n, pI most] (.pv (.tup [pDf (dfaR n most), pI (dfaE n most)])) [] := by
  have hil : n.ways.length = n.size := rfl
  have hsz := hn.size
  have hsg := hn.signs
  have hbl := hn.beg
  refine Run12 [] (by simp) ?_
  by_cases hm1 : most < 1
  · have h1 : dfaR n most = zDf := by unfold dfaR; rw [if_pos hm1]
    have h2 : dfaE n most = 1 := by unfold dfaE; rw [if_pos hm1]
    rw [h1, h2]
    simp only [go_sem, Nat.reduceEqDiff, Nat.reduceBEq, Nat.reduceAdd, Nat.reduceLeDiff, reduceCtorEq, and_self, M12, hm1]
    rfl
  have hR : dfaR n most = dfaM n (dfaK n most.toNat) := by unfold dfaR; rw [if_neg hm1]
  have hE : dfaE n most = dfaX (dfaK n most.toNat) := by unfold dfaE; rw [if_neg hm1]
  obtain ⟨M, hM⟩ : ∃ M : Nat, most = (M : Int) := ⟨most.toNat, by omega⟩
  subst hM
  rw [Int.toNat_natCast] at hR hE
  simp only [go_sem, Nat.reduceEqDiff, Nat.reduceBEq, Nat.reduceAdd, Nat.reduceLeDiff, reduceCtorEq, and_self, M12, hm1]
  refine runR_call (by simp only [go_sem, Nat.reduceEqDiff, and_self]) rfl (fn37 n (begI n) hn.good (by omega) (fun s => by have := hn.ways s; omega) (by simp [begI, toI]; omega)) (.inl rfl) trivial ?_
  have hM1 : 1 ≤ M := by omega
  have hMl : M ≤ 1000 := by omega
  have hbl0 : (bfsL n 0).length = 1 := rfl
  simp only [go_sem, Nat.reduceEqDiff, Nat.reduceBEq, Nat.reduceLeDiff, and_self]
  refine ⟨⟨fun v hv c hc => by subst hv; simp at hc; subst hc; rfl, _, rfl⟩, ?_⟩
  refine run_loopF (T := Nat) (fun _ => []) (fun _ => [(6, 1, 126, 1), (6, 2, 132, 1)]) [1, 2, 4, 6, 7, 8] [2, 4, 6, 27, 126, 132]
    (fun i => ⟨[(1, .pv (pI M)), (2, .ptr 2 0), (4, .ptr 4 0), (6, .ptr 6 0), (7, .row 27 0 (bfsL n i).length), (8, .pv (pI i))],
      [(2, .box (nBox n)), (4, .box [.e0, .e0, .e0]), (6, .box [.pv (ss n.signs), .row 126 0 i, .row 132 0 i]), (27, .sl 1 ((bfsL n i).map pNs)), (126, .sl 1 ((bfsN n i).map ints)), (132, .sl 1 ((bfsD n i).map pNs))]⟩)
    (fun i => i ≤ (bfsL n i).length ∧ i ≤ M ∧ ((bfsL n i).length ≤ M → endD n M (M + 2 - i) i = dfaK n M) ∧ (M < (bfsL n i).length → dfaK n M = none) ∧ (bfsL n i).length ≤ M + 161) (fun i => M - i) 0 ?_ ⟨Nat.zero_le _, Nat.zero_le _, fun _ => rfl, fun h => by omega, by omega⟩ ?_
  · simp only [go_sem, Nat.reduceEqDiff, Nat.reduceBEq, Nat.reduceLT, reduceCtorEq, Int.cast_ofNat_Int]
    rfl
  rintro i ⟨hi, hiM, hend, hnone, hL161⟩
  have hLok := bfs_ok hsz i
  by_cases hlt : i < (bfsL n i).length
  · by_cases hLM : (bfsL n i).length ≤ M
    · obtain ⟨S, hS⟩ : ∃ S, S = (bfsL n i).getD i [] := ⟨_, rfl⟩
      have hSm : S ∈ bfsL n i := by rw [hS]; simp [List.getD_eq_getElem?_getD, hlt]
      have hSok := hLok S hSm
      have hSlt := bfs_lt hsz hSm
      have hSl : S.length ≤ 192 := by
        have := hSok.elems
        have h2 := List.length_filter_le (inN S) (List.range (64 * 3))
        rw [← this]; unfold elemsB; simpa using h2
      have hLM2 : M < (bfsL n (i + 1)).length → dfaK n M = none := fun h => by
        rw [← hend hLM, show M + 2 - i = (M + 1 - i) + 1 by omega, endD, if_neg (by omega), if_pos h]
      have hnext : (bfsL n (i + 1)).length ≤ M → endD n M (M + 2 - (i + 1)) (i + 1) = dfaK n M := fun h => by
        rw [← hend hLM, show M + 2 - i = (M + 2 - (i + 1)) + 1 by omega, endD, if_neg (by omega), if_neg (by omega)]
      have hNl : (bfsN n i).length = i := by simp [bfsN]
      have hDl : (bfsD n i).length = i := by simp [bfsD]
      have hNs : bfsN n (i + 1) = bfsN n i ++ [rowN n S (bfsL n i) n.wid] := by simp [bfsN, List.range_succ, hS]
      have hDs : bfsD n (i + 1) = bfsD n i ++ [doneOf n S] := by simp [bfsD, List.range_succ, hS]
      have hLs : bfsL n (i + 1) = rowL n S (bfsL n i) n.wid := by simp only [bfsL]; rw [← hS]
      have hwid : n.signs.length + 1 = n.wid := rfl
      have hwd : n.wid ≤ 161 := by unfold NF.wid; omega
      have hLi : i < (bfsL n (i + 1)).length := by have := (bfsL_pre n (show i ≤ i + 1 by omega)).length_le; omega
      simp only [go_sem, Nat.reduceEqDiff, Nat.reduceBEq, Nat.reduceLT, reduceCtorEq, and_self, B12_0, show (i : Int) < ((bfsL n i).length : Int) by omega, show ((bfsL n i).length : Int) ≤ (M : Int) by omega]
      refine run_loopN (T := Nat) [1, 2, 4, 6, 7, 8, 9, 10] [2, 4, 6, 27, 126, 132, 2009]
        (fun a => ⟨[(1, .pv (pI M)), (2, .ptr 2 0), (4, .ptr 4 0), (6, .ptr 6 0), (7, .row 27 0 (rowL n S (bfsL n i) a).length), (8, .pv (pI i)), (9, .row 2009 0 a), (10, .pv (pI a))],
          [(2, .box (nBox n)), (4, .box [.e0, .e0, .e0]), (6, .box [.pv (ss n.signs), .row 126 0 i, .row 132 0 i]), (27, .sl 1 ((rowL n S (bfsL n i) a).map pNs)), (126, .sl 1 ((bfsN n i).map ints)), (132, .sl 1 ((bfsD n i).map pNs)), (2009, .sl 1 (rowI n S (bfsL n i) a))]⟩)
        (fun a => a ≤ n.wid) (fun a => n.wid - a) 0 ?_ (Nat.zero_le _) ?_
      · simp only [go_sem, Nat.reduceEqDiff, Int.cast_ofNat_Int]
        rfl
      intro a ha
      have hRle := rowL_le n S (bfsL n i) a
      have hRi : i < (rowL n S (bfsL n i) a).length := by have := (rowL_pre n S (bfsL n i) (Nat.zero_le a)).length_le; simp only [rowL] at this; omega
      have hgS : ((rowL n S (bfsL n i) a).map pNs).getD i default = pNs S := by
        have h1 := pre_get (d := ([] : List Nat)) (rowL_pre n S (bfsL n i) (Nat.zero_le a)) (i := i) (by simp only [rowL]; omega)
        simp only [rowL] at h1
        rw [← hS] at h1
        have h3 : (rowL n S (bfsL n i) a).getD i [] = (rowL n S (bfsL n i) a)[i]'hRi := by simp [List.getD_eq_getElem?_getD, hRi]
        rw [h3] at h1
        rw [getD_map hRi, h1]
      have tkR : (rowI n S (bfsL n i) a).take a = rowI n S (bfsL n i) a := List.take_of_length_le (by simp [rowN_len])
      by_cases halt : a < n.wid
      · obtain ⟨T, hT⟩ : ∃ T, T = stepN n (toI S) (a : Int) := ⟨_, rfl⟩
        have hTok := set_step hsz (toI S) (a : Int)
        have hRs : rowL n S (bfsL n i) (a + 1) = addS (rowL n S (bfsL n i) a) T := by rw [hT]; rfl
        have hRn : rowI n S (bfsL n i) (a + 1) = rowI n S (bfsL n i) a ++ [pI (numS (rowL n S (bfsL n i) a) T)] := by
          rw [hT]; show List.map _ (rowN n S (bfsL n i) a ++ [_]) = _
          rw [List.map_append]; rfl
        have r38 := fn38 n (toI S) (a : Int) hn.good (by omega) hn.ways (by simp [toI]; omega)
        rw [← hT] at r38 hTok
        have hTl : T.length ≤ 192 := by
          have := hTok.elems
          have h2 := List.length_filter_le (inN T) (List.range (64 * 3))
          rw [← this]; unfold elemsB; simpa using h2
        have hLe : ∀ U ∈ rowL n S (bfsL n i) a, SetOk U := row_ok hsz (S := S) hLok a
        generalize hL : rowL n S (bfsL n i) a = L at *
        have nxt : ∀ (len : Nat) (X Q : List PV), len = (rowL n S (bfsL n i) (a + 1)).length → X = (rowL n S (bfsL n i) (a + 1)).map pNs → Q = rowI n S (bfsL n i) (a + 1) →
            ∃ t', (⟨[(1, .pv (pI M)), (2, .ptr 2 0), (4, .ptr 4 0), (6, .ptr 6 0), (7, .row 27 0 len), (8, .pv (pI i)), (9, .row 2009 0 (a + 1)), (10, .pv (pI ((a : Int) + 1)))],
              [(2, .box (nBox n)), (4, .box [.e0, .e0, .e0]), (6, .box [.pv (ss n.signs), .row 126 0 i, .row 132 0 i]), (27, .sl 1 X), (126, .sl 1 ((bfsN n i).map ints)), (132, .sl 1 ((bfsD n i).map pNs)), (2009, .sl 1 Q)]⟩ : St) =
              ⟨[(1, .pv (pI M)), (2, .ptr 2 0), (4, .ptr 4 0), (6, .ptr 6 0), (7, .row 27 0 (rowL n S (bfsL n i) t').length), (8, .pv (pI i)), (9, .row 2009 0 t'), (10, .pv (pI t'))],
              [(2, .box (nBox n)), (4, .box [.e0, .e0, .e0]), (6, .box [.pv (ss n.signs), .row 126 0 i, .row 132 0 i]), (27, .sl 1 ((rowL n S (bfsL n i) t').map pNs)), (126, .sl 1 ((bfsN n i).map ints)), (132, .sl 1 ((bfsD n i).map pNs)), (2009, .sl 1 (rowI n S (bfsL n i) t'))]⟩ ∧ t' ≤ n.wid ∧ n.wid - t' < n.wid - a := by
          rintro _ _ _ rfl rfl rfl
          exact ⟨a + 1, rfl, halt, by omega⟩
        simp only [go_sem, Nat.reduceEqDiff, Nat.reduceAdd, Nat.reduceLeDiff, reduceCtorEq, Int.reduceNeg, and_self, B12_1, show (a : Int) ≤ (n.signs.length : Int) by omega, hgS, show (i : Int) < (L.length : Int) by omega]
        refine ⟨by omega, ?_⟩
        refine runR_call (by simp only [go_sem, Nat.reduceEqDiff, and_self]) rfl (r38) (.inl rfl) trivial ?_
        by_cases hT0 : T = []
        · have hTz : (toI T).length = 0 := by rw [hT0]; rfl
          have hsame : addS L T = L := by unfold addS; rw [if_pos (.inl hT0)]
          have hnum : numS L T = -1 := by unfold numS; rw [if_pos hT0]
          simp only [go_sem, Nat.reduceEqDiff, Nat.reduceBEq, Nat.reduceLeDiff, Nat.reduceLT, Int.reduceLT, Int.reduceNeg, and_self, Int.cast_ofNat_Int, hTz, tkR]
          refine ⟨⟨wf_ints [(-1 : Int)], by omega, by omega⟩, ⟨by omega, by omega⟩, ?_⟩
          exact nxt _ _ _ (by rw [hRs, hsame]) (by rw [hRs, hsame]) (by rw [hRn, hnum])
        · have hTz : 0 < (toI T).length := by cases T with | nil => exact absurd rfl hT0 | cons x t => simp [toI]
          simp only [go_sem, Nat.reduceEqDiff, Nat.reduceBEq, Nat.reduceLeDiff, Nat.reduceLT, Int.reduceNeg, and_self, show (0 : Int) < ((toI T).length : Int) by omega]
          refine run_loopN (T := Nat) [1, 2, 4, 6, 7, 8, 9, 10, 11, 12] [2, 4, 6, 27, 126, 132, 2009]
            (fun k => ⟨[(1, .pv (pI M)), (2, .ptr 2 0), (4, .ptr 4 0), (6, .ptr 6 0), (7, .row 27 0 L.length), (8, .pv (pI i)), (9, .row 2009 0 a), (10, .pv (pI a)), (11, .pv (pNs T)), (12, .pv (pI k))],
              [(2, .box (nBox n)), (4, .box [.e0, .e0, .e0]), (6, .box [.pv (ss n.signs), .row 126 0 i, .row 132 0 i]), (27, .sl 1 (L.map pNs)), (126, .sl 1 ((bfsN n i).map ints)), (132, .sl 1 ((bfsD n i).map pNs)), (2009, .sl 1 (rowI n S (bfsL n i) a))]⟩)
            (fun k => k ≤ L.idxOf T) (fun k => L.length - k) 0 ?_ (Nat.zero_le _) ?_
          · simp only [go_sem, Nat.reduceEqDiff, Int.cast_ofNat_Int]
          intro k hk
          have hix : L.idxOf T ≤ L.length := List.idxOf_le_length
          have hnum : numS L T = (L.idxOf T : Int) := by unfold numS; rw [if_neg hT0]
          by_cases hkl : k < L.length
          · simp only [go_sem, Nat.reduceEqDiff, and_self, B12_2, show (k : Int) < (L.length : Int) by omega, getD_map hkl]
            have hUl : L[k].length ≤ 192 := by
              have := (hLe _ (List.getElem_mem hkl)).elems
              have h2 := List.length_filter_le (inN L[k]) (List.range (64 * 3))
              rw [← this]; unfold elemsB; simpa using h2
            refine ⟨hkl, ?_⟩
            refine runR_callgf (by simp only [go_sem, Nat.reduceEqDiff]) (by simp only [go_sem, Nat.reduceEqDiff, and_self]) (by simp only [go_sem, Nat.reduceEqDiff] <;> rfl) (fun _ => fn26 (toI L[k]) (toI T) (by simp [toI]; omega) (by simp [toI]; omega)) rfl ?_
            by_cases he : L[k] = T
            · have hke : L.idxOf T = k := by
                refine Nat.le_antisymm ?_ hk
                have : L[k] ∈ L := List.getElem_mem hkl
                rcases Nat.lt_or_ge k (L.idxOf T) with h | h
                · exact absurd he (by simpa using List.not_of_lt_findIdx (p := (· == T)) h)
                · exact h
              have hmem : T ∈ L := he ▸ List.getElem_mem hkl
              have hsame : addS L T = L := by unfold addS; rw [if_pos (.inr hmem)]
              simp only [go_sem, Nat.reduceEqDiff, Nat.reduceBEq, Nat.reduceLeDiff, Nat.reduceLT, reduceCtorEq, Int.reduceNeg, and_self, R12_2, show (toI L[k] = toI T) = True from eq_true (by rw [he]), show ¬ (k : Int) = (L.length : Int) by omega, tkR]
              refine ⟨⟨wf_ints [(k : Int)], by omega, by omega⟩, ⟨by omega, by omega⟩, ?_⟩
              exact nxt _ _ _ (by rw [hRs, hsame]) (by rw [hRs, hsame]) (by rw [hRn, hnum, hke])
            · simp only [go_sem, Nat.reduceEqDiff, reduceCtorEq, Int.reduceNeg, and_self, show (toI L[k] = toI T) = False from eq_false (fun h => he (toI_inj.1 h))]
              refine ⟨⟨by omega, by omega⟩, k + 1, rfl, ?_, by omega⟩
              have : L.idxOf T ≠ k := fun h => by
                have h1 : L[L.idxOf T]'(by omega) = T := List.getElem_idxOf (by omega)
                exact he (by simpa only [h] using h1)
              omega
          · have hke : k = L.length := by omega
            subst hke
            have hie : L.idxOf T = L.length := by omega
            have hnm : T ∉ L := fun h => by have := List.idxOf_lt_length_iff.2 h; omega
            have hnew : addS L T = L ++ [T] := by unfold addS; rw [if_neg (by rw [not_or]; exact ⟨hT0, hnm⟩)]
            simp only [go_sem, Nat.reduceEqDiff, and_self, B12_2, R12_2, show ¬ (L.length : Int) < (L.length : Int) by omega]
            refine runR_callgf (p := pB false) (by simp only [go_sem, Nat.reduceEqDiff]) (by simp only [go_sem, Nat.reduceEqDiff]) (by simp only [go_sem, Nat.reduceEqDiff] <;> rfl) (fun h => absurd h (by simp only [go_sem, Nat.reduceEqDiff])) rfl ?_
            simp only [go_sem, Nat.reduceEqDiff, Nat.reduceBEq, Nat.reduceLeDiff, Nat.reduceLT, reduceCtorEq, Int.reduceNeg, and_self, tkR]
            refine ⟨⟨wf_pNs [T], by omega, by omega⟩, ⟨wf_ints [(L.length : Int)], by omega, by omega⟩, ⟨by omega, by omega⟩, ?_⟩
            exact nxt _ _ _ (by rw [hRs, hnew]; simp) (by rw [hRs, hnew, List.take_of_length_le (by simp), List.map_append]; rfl) (by rw [hRn, hnum, hie])
      · have hae : a = n.wid := by omega
        subst hae
        rw [← hLs] at hRle hRi hgS
        rw [← hLs]
        simp only [go_sem, Nat.reduceEqDiff, Nat.reduceBEq, Nat.reduceAdd, Nat.reduceLeDiff, Nat.reduceLT, reduceCtorEq, Int.reduceNeg, and_self, B12_1, R12_1, show ¬ (n.wid : Int) ≤ (n.signs.length : Int) by omega, tkR]
        refine run_loopN (T := Nat) [1, 2, 4, 6, 7, 8, 9, 13, 14] [2, 4, 6, 27, 126, 132, 2013]
          (fun g => ⟨[(1, .pv (pI M)), (2, .ptr 2 0), (4, .ptr 4 0), (6, .ptr 6 0), (7, .row 27 0 (bfsL n (i + 1)).length), (8, .pv (pI i)), (9, .pv (ints (rowN n S (bfsL n i) n.wid))), (13, .row 2013 0 (donP n S g).length), (14, .pv (pI g))],
            [(2, .box (nBox n)), (4, .box [.e0, .e0, .e0]), (6, .box [.pv (ss n.signs), .row 126 0 i, .row 132 0 i]), (27, .sl 1 ((bfsL n (i + 1)).map pNs)), (126, .sl 1 ((bfsN n i).map ints)), (132, .sl 1 ((bfsD n i).map pNs)), (2013, .sl 1 ((toI (donP n S g)).map fun n => pI n))]⟩)
          (fun g => g ≤ n.beg.length) (fun g => n.beg.length - g) 0 ?_ (Nat.zero_le _) ?_
        · simp only [go_sem, Nat.reduceEqDiff, Int.cast_ofNat_Int]
          rfl
        intro g hg
        have hdl := donP_len n S g
        have hds := donP_succ n S g
        have tkG : List.take (donP n S g).length ((toI (donP n S g)).map fun n => pI n) = (toI (donP n S g)).map fun n => pI n := List.take_of_length_le (by simp [toI])
        by_cases hgl : g < n.beg.length
        · simp only [go_sem, Nat.reduceEqDiff, Nat.reduceAdd, reduceCtorEq, Int.reduceNeg, and_self, B12_3, show (g : Int) < ((toI n.beg).length : Int) by simp [toI]; omega]
          refine run_loopN (T := Nat) [1, 2, 4, 6, 7, 8, 9, 13, 14, 15, 16] [2, 4, 6, 27, 126, 132, 2013]
            (fun j => ⟨[(1, .pv (pI M)), (2, .ptr 2 0), (4, .ptr 4 0), (6, .ptr 6 0), (7, .row 27 0 (bfsL n (i + 1)).length), (8, .pv (pI i)), (9, .pv (ints (rowN n S (bfsL n i) n.wid))), (13, .row 2013 0 (donP n S g).length), (14, .pv (pI g)), (15, .pv (pB ((S.take j).any fun s => decide (g ∈ n.done.getD s [])))), (16, .pv (pI j))],
              [(2, .box (nBox n)), (4, .box [.e0, .e0, .e0]), (6, .box [.pv (ss n.signs), .row 126 0 i, .row 132 0 i]), (27, .sl 1 ((bfsL n (i + 1)).map pNs)), (126, .sl 1 ((bfsN n i).map ints)), (132, .sl 1 ((bfsD n i).map pNs)), (2013, .sl 1 ((toI (donP n S g)).map fun n => pI n))]⟩)
            (fun j => j ≤ S.length) (fun j => S.length - j) 0 ?_ (Nat.zero_le _) ?_
          · simp only [go_sem, Nat.reduceEqDiff, Int.cast_ofNat_Int]
          intro j hj
          have hsl : (toI S).length = S.length := by simp [toI]
          by_cases hjl : j < S.length
          · have hx : (toI S)[j]'(by rw [hsl]; exact hjl) = (S[j] : Int) := by simp [toI]
            have hsm := hSlt _ (List.getElem_mem hjl)
            have hany : (S.take (j + 1)).any (fun s => decide (g ∈ n.done.getD s [])) = ((S.take j).any (fun s => decide (g ∈ n.done.getD s [])) || decide (g ∈ n.done.getD S[j] [])) := by
              rw [List.take_succ_eq_append_getElem hjl, List.any_append, List.any_cons, List.any_nil, Bool.or_false]
            have hone := one_mem (hn.dn.one S[j]) g
            generalize S[j] = s at hx hsm hany hone
            generalize (S.take j).any (fun s => decide (g ∈ n.done.getD s [])) = b at hany ⊢
            have hsd : s < n.done.length := by omega
            have hdg : n.done.getD s [] = n.done[s] := by simp [List.getD_eq_getElem?_getD, hsd]
            have hd1 := hn.dn.one s
            rw [hdg] at hone hd1
            simp only [go_sem, Nat.reduceEqDiff, Nat.reduceAdd, Nat.reduceLeDiff, reduceCtorEq, Int.reduceNeg, and_self, B12_4, hgS, hsl, show (j : Int) < (S.length : Int) by omega, show (i : Int) < ((bfsL n (i + 1)).length : Int) by omega, wf_ints, wf_pNs, getD_map (show j < (toI S).length by omega), hx, getD_map hsd, show (s : Int) < (n.done.length : Int) by omega]
            refine ⟨hLi, fun h => ⟨h, hLi⟩, ?_⟩
            refine runR_callgf (by simp only [go_sem, Nat.reduceEqDiff]) (by simp only [go_sem, Nat.reduceEqDiff, and_self]) (by simp only [go_sem, Nat.reduceEqDiff] <;> rfl) (fun _ => fn26 (toI n.done[s]) (toI [g]) (by simp [toI]; omega) (by simp [toI])) rfl ?_
            simp only [go_sem, Nat.reduceEqDiff, Int.reduceNeg, and_self]
            have e : decide (toI n.done[s] = toI [g]) = decide (g ∈ n.done.getD s []) := decide_eq_decide.2 (by rw [hdg, hone])
            refine ⟨⟨by omega, by omega⟩, j + 1, ?_, hjl, by omega⟩
            rw [hany, e]; rfl
          · have hje : j = S.length := by omega
            subst hje
            rw [List.take_length]
            simp only [go_sem, Nat.reduceEqDiff, Nat.reduceBEq, Nat.reduceAdd, Nat.reduceLeDiff, Nat.reduceLT, reduceCtorEq, Int.reduceNeg, and_self, B12_4, R12_4, hgS, hsl, show ¬ (S.length : Int) < (S.length : Int) by omega, show (i : Int) < ((bfsL n (i + 1)).length : Int) by omega, tkG]
            refine ⟨hLi, fun h => ⟨⟨wf_ints [(g : Int)], by omega, by omega⟩, ⟨by omega, by omega⟩, g + 1, ?_, hgl, by omega⟩, fun h => ⟨⟨by omega, by omega⟩, g + 1, ?_, hgl, by omega⟩⟩
            · rw [if_pos h] at hds
              rw [hds, toI_app, List.map_append, List.length_append]; rfl
            · rw [h] at hds
              simp only [Bool.false_eq_true, if_false, List.append_nil] at hds
              rw [hds]; rfl
        · have hge : g = n.beg.length := by omega
          subst hge
          have tkN : List.take i ((bfsN n i).map ints) = (bfsN n i).map ints := List.take_of_length_le (by simp [hNl])
          have tkD : List.take i ((bfsD n i).map pNs) = (bfsD n i).map pNs := List.take_of_length_le (by simp [hDl])
          simp only [go_sem, Nat.reduceEqDiff, Nat.reduceBEq, Nat.reduceAdd, Nat.reduceLeDiff, Nat.reduceLT, reduceCtorEq, Int.reduceNeg, and_self, B12_3, R12_3, show ¬ (n.beg.length : Int) < ((toI n.beg).length : Int) by simp [toI], tkG, tkN, tkD]
          refine ⟨⟨wf_rows [rowN n S (bfsL n i) n.wid], by omega, by omega⟩, ⟨wf_pNs [donP n S n.beg.length], by omega, by omega⟩, ⟨by omega, by omega⟩, i + 1, ?_, ⟨by omega, by omega, hnext, hLM2, by omega⟩, by omega⟩
          rw [hNs, hDs, List.map_append, List.map_append]
          rfl
    · have hno := hnone (by omega)
      rw [hno] at hR hE
      have tkN : List.take i ((bfsN n i).map ints) = (bfsN n i).map ints := List.take_of_length_le (by simp [bfsN])
      have tkD : List.take i ((bfsD n i).map pNs) = (bfsD n i).map pNs := List.take_of_length_le (by simp [bfsD])
      simp only [go_sem, Nat.reduceEqDiff, Nat.reduceBEq, Nat.reduceAdd, Nat.reduceLT, reduceCtorEq, and_self, B12_0, R12_0, show (i : Int) < ((bfsL n i).length : Int) by omega, show ¬ ((bfsL n i).length : Int) ≤ (M : Int) by omega, show (M : Int) < ((bfsL n i).length : Int) by omega, tkN, tkD]
      rw [hR, hE]
      rfl
  · have hie : i = (bfsL n i).length := by omega
    have hK : dfaK n M = some i := by
      rw [← hend (by omega), show M + 2 - i = (M + 1 - i) + 1 by omega, endD, if_pos (by omega)]
    rw [hK] at hR hE
    have tkN : List.take i ((bfsN n i).map ints) = (bfsN n i).map ints := List.take_of_length_le (by simp [bfsN])
    have tkD : List.take i ((bfsD n i).map pNs) = (bfsD n i).map pNs := List.take_of_length_le (by simp [bfsD])
    simp only [go_sem, Nat.reduceEqDiff, Nat.reduceBEq, Nat.reduceAdd, Nat.reduceLT, reduceCtorEq, and_self, B12_0, R12_0, show ¬ (i : Int) < ((bfsL n i).length : Int) by omega, show ¬ (M : Int) < ((bfsL n i).length : Int) by omega, tkN, tkD]
    rw [hR, hE]
    rfl
theorem fn15t (d : DF) (h : d.Sm) : Fn Tryz.prog 15 [pDf d, pDf d] (.pv (pB true)) [] := by
  have h1 := h.s
  have h2 := h.n
  have h3 := h.m
  have h4 := h.ns
  have h5 := h.ds
  refine Run15 [] (by simp) ?_
  simp only [go_sem, Nat.reduceEqDiff, Nat.reduceBEq, Nat.reduceAdd, Nat.reduceLeDiff, reduceCtorEq, and_self, M15]
  refine runR_callf (by simp only [go_sem, Nat.reduceEqDiff, and_self]) (by simp only [go_sem, Nat.reduceEqDiff] <;> rfl) (fn50t d.signs (by omega)) ⟨rfl, trivial⟩ trivial ?_
  simp only [go_sem, Nat.reduceEqDiff, Nat.reduceAdd, Nat.reduceLeDiff, and_self]
  refine run_loopN (T := Nat) [2, 3, 5] [2, 3] (fun i => ⟨[(2, .ptr 2 0), (3, .ptr 3 0), (5, .pv (pI i))], [(2, .box [.pv (ss d.signs), .pv (.lst (d.next.map ints)), .pv (.lst (d.done.map pNs))]), (3, .box [.pv (ss d.signs), .pv (.lst (d.next.map ints)), .pv (.lst (d.done.map pNs))])]⟩)
    (fun i => i ≤ d.next.length) (fun i => d.next.length - i) 0 rfl (Nat.zero_le _) ?_
  intro i hi
  by_cases hlt : i < d.next.length
  · have hl := h4 _ (List.getElem_mem hlt)
    simp only [go_sem, Nat.reduceEqDiff, Nat.reduceAdd, Nat.reduceLeDiff, and_self, B15_0, show (i : Int) < (d.next.length : Int) by omega, wf_rows, getD_map hlt]
    refine runR_callf (by simp only [go_sem, Nat.reduceEqDiff, and_self]) (by simp only [go_sem, Nat.reduceEqDiff] <;> rfl) (fn26t d.next[i] (by omega)) ⟨rfl, trivial⟩ trivial ?_
    simp only [go_sem, Nat.reduceEqDiff, Int.reduceNeg, and_self]
    exact ⟨⟨by omega, by omega⟩, i + 1, rfl, hlt, by omega⟩
  · simp only [go_sem, Nat.reduceEqDiff, Nat.reduceAdd, Nat.reduceLeDiff, and_self, B15_0, R15_0, show ¬ (i : Int) < (d.next.length : Int) by omega]
    refine run_loopN (T := Nat) [2, 3, 6] [2, 3] (fun i => ⟨[(2, .ptr 2 0), (3, .ptr 3 0), (6, .pv (pI i))], [(2, .box [.pv (ss d.signs), .pv (.lst (d.next.map ints)), .pv (.lst (d.done.map pNs))]), (3, .box [.pv (ss d.signs), .pv (.lst (d.next.map ints)), .pv (.lst (d.done.map pNs))])]⟩)
      (fun i => i ≤ d.done.length) (fun i => d.done.length - i) 0 rfl (Nat.zero_le _) ?_
    intro j hj
    by_cases hjl : j < d.done.length
    · have hl := h5 _ (List.getElem_mem hjl)
      simp only [go_sem, Nat.reduceEqDiff, Nat.reduceAdd, and_self, B15_1, show (j : Int) < (d.done.length : Int) by omega, wf_pNs, getD_map hjl]
      refine runR_callf (by simp only [go_sem, Nat.reduceEqDiff, and_self]) (by simp only [go_sem, Nat.reduceEqDiff] <;> rfl) (fn26t (toI d.done[j]) (by simp [toI]; omega)) ⟨rfl, trivial⟩ trivial ?_
      simp only [go_sem, Nat.reduceEqDiff, Int.reduceNeg, and_self]
      exact ⟨⟨by omega, by omega⟩, j + 1, rfl, hjl, by omega⟩
    · simp only [go_sem, Nat.reduceEqDiff, Nat.reduceAdd, and_self, B15_1, R15_1, show ¬ (j : Int) < (d.done.length : Int) by omega]
end Go.Vc

namespace Go.Vc
open Go.Proofs
set_option linter.unusedSimpArgs false
set_option linter.unusedVariables false

/-! ## DfaBuilds -/
set_option maxHeartbeats 2000000 in
theorem law3 (bs : List ByteArray) (most : Int) (hb : bs.length ≤ 9223372036854775807) : Fn Tryz.prog 3 [ss bs, pI most] (.pv (pB true)) [] := by
  refine Run3 [] (by simp) ?_
  obtain ⟨w, hw, hcs⟩ : ∃ w : Int, w ≤ 200 ∧ ((200 < most ∧ w = 200) ∨ (¬ 200 < most ∧ w = most)) := by
    by_cases h : 200 < most
    · exact ⟨200, by omega, .inl ⟨h, rfl⟩⟩
    · exact ⟨most, by omega, .inr ⟨h, rfl⟩⟩
  have r8 := fn8 bs hb
  have hl := globs7_len bs
  have hsz : ∀ b ∈ globs7 bs, b.size ≤ 1000 := fun b hb => by have := globs7_size hb; omega
  generalize globs7 bs = gl at hl hsz r8
  have r9 := fn9 gl w (by omega) hsz (by omega)
  have r10 := fn10 gl (by omega) hsz
  have r13 := fn13 gl (by omega) hsz
  have hsm := sm_of gl w (by omega)
  cases hg : goodB gl with
  | false =>
    have e1 : ofE gl w = 1 := by unfold ofE; rw [hg]; rfl
    have e2 : ofR gl w = zDf := by unfold ofR; rw [hg]; rfl
    rw [e1, e2] at r9
    rw [hg] at r10
    generalize buildR gl = n at r10
    rcases hcs with ⟨h1, rfl⟩ | ⟨h1, rfl⟩
    case' inl => simp only [go_sem, Nat.reduceEqDiff, reduceCtorEq, and_self, M3]
    case' inr => simp only [go_sem, Nat.reduceEqDiff, reduceCtorEq, and_self, M3]
    all_goals
      refine runR_call (by simp only [go_sem, Nat.reduceEqDiff, reduceCtorEq, and_self]) rfl (r8) (.inl rfl) trivial ?_
      simp only [go_sem, Nat.reduceEqDiff, reduceCtorEq, and_self, h1]
      refine runR_call (by simp only [go_sem, Nat.reduceEqDiff, reduceCtorEq, and_self]) rfl (r9) (.inl rfl) trivial ?_
      simp only [go_sem, Nat.reduceEqDiff, Nat.reduceAdd, Nat.reduceLT, reduceCtorEq, and_self]
      refine runR_call (by simp only [go_sem, Nat.reduceEqDiff, reduceCtorEq, and_self]) rfl (r10) (.inl rfl) trivial ?_
      simp only [go_sem, Nat.reduceEqDiff, Nat.reduceBEq, Nat.reduceAdd, Nat.reduceLeDiff, Nat.reduceLT, reduceCtorEq, and_self]
      refine runR_callgf (by simp only [go_sem, Nat.reduceEqDiff, reduceCtorEq]) (by simp only [go_sem, Nat.reduceEqDiff, reduceCtorEq, and_self]) (by simp only [go_sem] <;> rfl) (fun _ => fn11) rfl ?_
      simp only [go_sem, Nat.reduceEqDiff, reduceCtorEq, and_self]
      rfl
  | true =>
    have hok := ok_nfa (gsOk hg)
    have hnd : (nfaOf (gl.map cutS)).done.length = (nfaOf (gl.map cutS)).size := by
      rw [size_nfa]; show (doneG 0 _).length = _; rw [doneG_len]
    have e0 : buildR gl = nfaOf (gl.map cutS) := by unfold buildR; rw [hg]; rfl
    have e1 : ofE gl w = dfaE (nfaOf (gl.map cutS)) w := by unfold ofE; rw [hg]; rfl
    have e2 : ofR gl w = dfaR (nfaOf (gl.map cutS)) w := by unfold ofR; rw [hg]; rfl
    rw [e1, e2] at r9
    rw [e2] at hsm
    rw [hg, e0] at r10 r13
    have r12 := fn12 _ w hok hnd (by omega)
    have r14 := fn14 _ w hok (by omega)
    generalize nfaOf (gl.map cutS) = n at *
    generalize dfaR n w = D at *
    generalize dfaE n w = E at *
    rcases hcs with ⟨h1, rfl⟩ | ⟨h1, rfl⟩
    case' inl => simp only [go_sem, Nat.reduceEqDiff, reduceCtorEq, and_self, M3]
    case' inr => simp only [go_sem, Nat.reduceEqDiff, reduceCtorEq, and_self, M3]
    all_goals
      refine runR_call (by simp only [go_sem, Nat.reduceEqDiff, reduceCtorEq, and_self]) rfl (r8) (.inl rfl) trivial ?_
      simp only [go_sem, Nat.reduceEqDiff, reduceCtorEq, and_self, h1]
      refine runR_call (by simp only [go_sem, Nat.reduceEqDiff, reduceCtorEq, and_self]) rfl (r9) (.inl rfl) trivial ?_
      simp only [go_sem, Nat.reduceEqDiff, Nat.reduceAdd, Nat.reduceLT, reduceCtorEq, and_self]
      refine runR_call (by simp only [go_sem, Nat.reduceEqDiff, reduceCtorEq, and_self]) rfl (r10) (.inl rfl) trivial ?_
      simp only [go_sem, Nat.reduceEqDiff, Nat.reduceBEq, Nat.reduceAdd, Nat.reduceLeDiff, Nat.reduceLT, reduceCtorEq, and_self]
      refine runR_call (by simp only [go_sem, Nat.reduceEqDiff, reduceCtorEq, and_self]) rfl (r12) (.inl rfl) trivial ?_
      simp only [go_sem, Nat.reduceEqDiff, Nat.reduceBEq, Nat.reduceAdd, Nat.reduceLT, reduceCtorEq, and_self]
      refine runR_call (by simp only [go_sem, Nat.reduceEqDiff, reduceCtorEq, and_self]) rfl (r13) (.inl rfl) trivial ?_
      simp only [go_sem, Nat.reduceEqDiff, Nat.reduceBEq, Nat.reduceAdd, Nat.reduceLT, reduceCtorEq, and_self]
      refine runR_call (by simp only [go_sem, Nat.reduceEqDiff, and_self]) rfl (r14) (.inl rfl) trivial ?_
      simp only [go_sem, Nat.reduceEqDiff, Nat.reduceBEq, Nat.reduceAdd, Nat.reduceLT, and_self]
      refine runR_callgf (by simp only [go_sem, Nat.reduceEqDiff]) (by simp only [go_sem, Nat.reduceEqDiff, and_self]) (by simp only [go_sem, Nat.reduceEqDiff] <;> rfl) (fun _ => fn15t D hsm) rfl ?_
      simp only [go_sem, Nat.reduceEqDiff, Nat.reduceAdd, and_self]
      refine runR_callf (by simp only [go_sem, Nat.reduceEqDiff, and_self]) (by simp only [go_sem, Nat.reduceEqDiff] <;> rfl) (fn15t D hsm) ⟨rfl, trivial⟩ trivial ?_
      simp only [go_sem, Nat.reduceEqDiff, Nat.reduceAdd, Nat.reduceLeDiff, and_self]
      refine runR_callgf (by simp only [go_sem, Nat.reduceEqDiff]) (by simp only [go_sem, Nat.reduceEqDiff, and_self]) (by simp only [go_sem, Nat.reduceEqDiff] <;> rfl) (fun _ => fn16 D) rfl ?_
      simp only [go_sem, Nat.reduceEqDiff, and_self]
      refine runR_callgf (by simp only [go_sem, Nat.reduceEqDiff]) (by simp only [go_sem, Nat.reduceEqDiff, and_self]) (by simp only [go_sem] <;> rfl) (fun _ => fn11) rfl ?_
      simp only [go_sem, Nat.reduceEqDiff, and_self]
end Go.Vc
