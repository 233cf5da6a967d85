/- A part of the proofs of the seat Ytcjhccdbgphboaa: the contracts of functions, each proved out of its code. -/
import Derived.Test.YtcjhccdbgphboaaJl
import Derived.Test.YtcjhccdbgphboaaProg
namespace Go.Vc
open Go.Proofs
set_option maxRecDepth 100000

/-- 'trystlaw09.JoinOnce' -/
def B5_1 : MC := (.seq (.seq (.reg [⟨(some 55), none, (.q (.mv (.t 13)))⟩, ⟨(some 56), none, (.q (.mv (.t 11)))⟩, ⟨(some 57), none, (.q (.len (.t 56) false))⟩, ⟨(some 58), none, (.q (.bin .lss (.t 55)
  (.t 57)))⟩] [] [1, 2, 6, 7, 8, 9, 10, 11, 13, 58] [2, 8, 23, 1022, 1045]) (.cond (.t 58) .skip (.exit 2))) (.seq (.block 3 (.seq (.seq (.reg [⟨(some 61), none, (.q (.mv (.t 6)))⟩, ⟨(some 62), none,
  (.q (.mv (.t 11)))⟩, ⟨(some 63), none, (.q (.mv (.t 13)))⟩, ⟨(some 64), none, (.q (.ia (.t 62) (.t 63) 3))⟩, ⟨(some 65), none, (.q (.fa (.t 64) 1))⟩, ⟨(some 66), none, (.q (.ld (.t 65) 1 false))⟩,
  ⟨(some 67), none, (.q (.mget (.t 61) (.t 66) false Kk.int (.pv (.sc (.int .i64 0)))))⟩, ⟨(some 68), none, (.q (.bin .neq (.t 67) (.c (.int .i64 1))))⟩] [] [1, 2, 6, 7, 8, 9, 10, 11, 13, 68] [2, 8,
  23, 1022, 1045]) (.cond (.t 68) (.seq (.reg [⟨(some 4), none, (.q (.mv (.c (.bool false))))⟩] [] [4] [1192, 1197]) .ret) .skip)) (.reg [⟨(some 69), none, (.q (.mv (.t 6)))⟩, ⟨(some 70), none,
  (.q (.mv (.t 11)))⟩, ⟨(some 71), none, (.q (.mv (.t 13)))⟩, ⟨(some 72), none, (.q (.ia (.t 70) (.t 71) 3))⟩, ⟨(some 73), none, (.q (.fa (.t 72) 1))⟩, ⟨(some 74), none, (.q (.ld (.t 73) 1 false))⟩,
  ⟨none, none, (.mset (.t 69) (.t 74) (.c (.int .i64 2)) Kk.int)⟩] [] [1, 2, 6, 7, 8, 9, 10, 11, 13] [2, 8, 23, 1022, 1045]))) (.reg [⟨(some 59), none, (.q (.mv (.t 13)))⟩, ⟨(some 60), none,
  (.q (.bin .add (.t 59) (.c (.int .i64 1))))⟩, ⟨(some 13), none, (.q (.mv (.t 60)))⟩] [] [1, 2, 6, 7, 8, 9, 10, 11, 13] [2, 8, 23, 1022, 1045])))
def B5_2 : MC := (.seq (.seq (.reg [⟨(some 76), none, (.q (.mv (.t 15)))⟩, ⟨(some 77), none, (.q (.mv (.t 10)))⟩, ⟨(some 78), none, (.q (.len (.t 77) false))⟩, ⟨(some 79), none, (.q (.bin .lss (.t 76)
  (.t 78)))⟩] [] [1, 2, 6, 7, 8, 9, 10, 14, 15, 79] [2, 8, 23, 75, 1022, 1045]) (.cond (.t 79) .skip (.exit 4))) (.seq (.block 5 (.seq (.seq (.reg [⟨(some 82), none, (.q (.mv (.t 6)))⟩, ⟨(some 83),
  none, (.q (.mv (.t 10)))⟩, ⟨(some 84), none, (.q (.mv (.t 15)))⟩, ⟨(some 85), none, (.q (.ia (.t 83) (.t 84) 3))⟩, ⟨(some 86), none, (.q (.fa (.t 85) 1))⟩, ⟨(some 87), none, (.q (.ld (.t 86)
  1 false))⟩, ⟨(some 88), none, (.q (.mget (.t 82) (.t 87) false Kk.int (.pv (.sc (.int .i64 0)))))⟩, ⟨(some 89), none, (.q (.bin .neq (.t 88) (.c (.int .i64 1))))⟩, ⟨(some 90), none,
  (.q (.mv (.t 89)))⟩, ⟨(some 91), (some (90, false)), (.q (.mv (.t 10)))⟩, ⟨(some 92), (some (90, false)), (.q (.mv (.t 15)))⟩, ⟨(some 93), (some (90, false)), (.q (.ia (.t 91) (.t 92) 3))⟩,
  ⟨(some 94), (some (90, false)), (.q (.fa (.t 93) 2))⟩, ⟨(some 95), (some (90, false)), (.q (.ld (.t 94) 1 false))⟩, ⟨(some 96), (some (90, false)), (.q (.fa (.t 2) 3))⟩, ⟨(some 97), (some (90,
  false)), (.q (.ld (.t 96) 1 false))⟩, ⟨(some 98), (some (90, false)), (.q (.bin .add (.t 95) (.t 97)))⟩, ⟨(some 99), (some (90, false)), (.q (.fa (.t 8) 2))⟩, ⟨(some 100), (some (90, false)),
  (.q (.ld (.t 99) 1 false))⟩, ⟨(some 101), (some (90, false)), (.q (.bin .lss (.t 98) (.t 100)))⟩, ⟨(some 102), none, (.q (.pick (.t 90) (.c (.bool true)) (.t 101)))⟩] [] [1, 2, 6, 7, 8, 9, 10, 14,
  15, 102] [2, 8, 23, 75, 1022, 1045]) (.cond (.t 102) (.seq (.reg [⟨(some 4), none, (.q (.mv (.c (.bool false))))⟩] [] [4] [1192, 1197]) .ret) .skip)) (.seq (.reg [⟨(some 103), none,
  (.q (.mv (.t 6)))⟩, ⟨(some 104), none, (.q (.mv (.t 10)))⟩, ⟨(some 105), none, (.q (.mv (.t 15)))⟩, ⟨(some 106), none, (.q (.ia (.t 104) (.t 105) 3))⟩, ⟨(some 107), none, (.q (.fa (.t 106) 1))⟩,
  ⟨(some 108), none, (.q (.ld (.t 107) 1 false))⟩, ⟨none, none, (.mset (.t 103) (.t 108) (.c (.int .i64 3)) Kk.int)⟩] [] [1, 2, 6, 7, 8, 9, 10, 14, 15] [2, 8, 23, 75, 1022, 1045]) (.reg [⟨(some 109),
  none, (.q (.mv (.t 14)))⟩, ⟨(some 110), none, (.q (.mv (.t 10)))⟩, ⟨(some 111), none, (.q (.mv (.t 15)))⟩, ⟨(some 112), none, (.q (.ia (.t 110) (.t 111) 3))⟩, ⟨(some 113), none, (.q (.fa (.t 112)
  0))⟩, ⟨(some 114), none, (.q (.ld (.t 113) 1 false))⟩, ⟨none, none, (.mset (.t 109) (.t 114) (.c (.bool true)) Kk.int)⟩] [] [1, 2, 6, 7, 8, 9, 10, 14, 15] [2, 8, 23, 75, 1022, 1045]))))
  (.reg [⟨(some 80), none, (.q (.mv (.t 15)))⟩, ⟨(some 81), none, (.q (.bin .add (.t 80) (.c (.int .i64 1))))⟩, ⟨(some 15), none, (.q (.mv (.t 81)))⟩] [] [1, 2, 6, 7, 8, 9, 10, 14, 15] [2, 8, 23, 75,
  1022, 1045])))
def R5_2 : MC := (.seq (.reg [⟨(some 115), none, (.q (.mv (.t 10)))⟩, ⟨(some 116), none, (.q (.len (.t 115) false))⟩, ⟨(some 16), none, (.q (.mv (.t 116)))⟩] [] [1, 2, 6, 7, 9, 14, 16] [2, 23, 75,
  1022, 1045]) (.seq (.seq (.reg [⟨(some 117), none, (.q (.mv (.t 16)))⟩, ⟨(some 118), none, (.q (.bin .gtr (.t 117) (.c (.int .i64 0))))⟩, ⟨(some 119), none, (.q (.mv (.t 118)))⟩, ⟨(some 120),
  (some (119, true)), (.q (.fa (.t 2) 0))⟩, ⟨(some 121), (some (119, true)), (.q (.ld (.t 120) 1 false))⟩, ⟨(some 122), (some (119, true)), (.q (.bin .eql (.t 121) (.c (.string ⟨#[97, 108, 108]⟩))))⟩,
  ⟨(some 123), (some (119, true)), (.q (.mv (.t 122)))⟩, ⟨(some 124), (some (123, true)), (.q (.mv (.t 16)))⟩, ⟨(some 125), (some (123, true)), (.q (.fa (.t 2) 1))⟩, ⟨(some 126), (some (123, true)),
  (.q (.ld (.t 125) 1 false))⟩, ⟨(some 127), (some (123, true)), (.q (.bin .neq (.t 124) (.t 126)))⟩, ⟨(some 128), (some (123, true)), (.q (.mv (.t 127)))⟩, ⟨(some 129), (some (128, false)),
  (.q (.mv (.t 14)))⟩, ⟨(some 130), (some (128, false)), (.q (.mlen (.t 129)))⟩, ⟨(some 131), (some (128, false)), (.q (.mv (.t 16)))⟩, ⟨(some 132), (some (128, false)), (.q (.bin .neq (.t 130)
  (.t 131)))⟩, ⟨(some 133), (some (123, true)), (.q (.pick (.t 128) (.c (.bool true)) (.t 132)))⟩, ⟨(some 134), (some (119, true)), (.q (.pick (.t 123) (.t 133) (.c (.bool false))))⟩, ⟨(some 135),
  (some (119, true)), (.q (.mv (.t 134)))⟩, ⟨(some 136), (some (135, false)), (.q (.fa (.t 2) 0))⟩, ⟨(some 137), (some (135, false)), (.q (.ld (.t 136) 1 false))⟩, ⟨(some 138), (some (135, false)),
  (.q (.bin .eql (.t 137) (.c (.string ⟨#[97, 110, 121]⟩))))⟩, ⟨(some 139), (some (135, false)), (.q (.mv (.t 138)))⟩, ⟨(some 140), (some (139, true)), (.q (.mv (.t 16)))⟩, ⟨(some 141), (some (139,
  true)), (.q (.bin .neq (.t 140) (.c (.int .i64 1))))⟩, ⟨(some 142), (some (135, false)), (.q (.pick (.t 139) (.t 141) (.c (.bool false))))⟩, ⟨(some 143), (some (119, true)), (.q (.pick (.t 135)
  (.c (.bool true)) (.t 142)))⟩, ⟨(some 144), (some (119, true)), (.q (.mv (.t 143)))⟩, ⟨(some 145), (some (144, false)), (.q (.fa (.t 2) 0))⟩, ⟨(some 146), (some (144, false)), (.q (.ld (.t 145)
  1 false))⟩, ⟨(some 147), (some (144, false)), (.q (.bin .eql (.t 146) (.c (.string ⟨#[99, 111, 117, 110, 116]⟩))))⟩, ⟨(some 148), (some (144, false)), (.q (.mv (.t 147)))⟩, ⟨(some 149), (some (148,
  true)), (.q (.mv (.t 16)))⟩, ⟨(some 150), (some (148, true)), (.q (.fa (.t 2) 2))⟩, ⟨(some 151), (some (148, true)), (.q (.ld (.t 150) 1 false))⟩, ⟨(some 152), (some (148, true)),
  (.q (.bin .neq (.t 149) (.t 151)))⟩, ⟨(some 153), (some (144, false)), (.q (.pick (.t 148) (.t 152) (.c (.bool false))))⟩, ⟨(some 154), (some (119, true)), (.q (.pick (.t 144) (.c (.bool true))
  (.t 153)))⟩, ⟨(some 155), none, (.q (.pick (.t 119) (.t 154) (.c (.bool false))))⟩] [] [1, 2, 6, 7, 9, 155] [2, 23, 1022, 1045]) (.cond (.t 155) (.seq (.reg [⟨(some 4), none,
  (.q (.mv (.c (.bool false))))⟩] [] [4] [1192, 1197]) .ret) .skip)) (.reg [⟨(some 156), none, (.q (.mv (.t 9)))⟩, ⟨(some 5), none, (.q (.mv (.t 156)))⟩] [] [1, 2, 5, 6, 7] [2, 23, 1022, 1045])))
def R5_1 : MC := (.seq (.reg [⟨(some 75), none, .mkm⟩, ⟨(some 14), none, (.q (.mv (.t 75)))⟩] [] [1, 2, 6, 7, 8, 9, 10, 14] [2, 8, 23, 75, 1022, 1045]) (.seq (.seq (.reg [⟨(some 15), none,
  (.q (.mv (.c (.int .i64 0))))⟩] [] [1, 2, 6, 7, 8, 9, 10, 14, 15] [2, 8, 23, 75, 1022, 1045]) (.block 4 (.loop B5_2))) R5_2))
def B5_0 : MC := (.seq (.seq (.reg [⟨(some 24), none, (.q (.mv (.t 7)))⟩, ⟨(some 25), none, (.q (.mv (.t 1)))⟩, ⟨(some 26), none, (.q (.len (.t 25) false))⟩, ⟨(some 27), none, (.q (.bin .lss (.t 24)
  (.t 26)))⟩, ⟨(some 28), none, (.q (.mv (.t 27)))⟩, ⟨(some 29), (some (28, true)), (.q (.mv (.t 7)))⟩, ⟨(some 30), (some (28, true)), (.q (.bin .lss (.t 29) (.c (.int .i64 60))))⟩, ⟨(some 31), none,
  (.q (.pick (.t 28) (.t 30) (.c (.bool false))))⟩] [] [1, 2, 5, 6, 7, 31] [2, 23, 1022, 1045]) (.cond (.t 31) .skip (.exit 0))) (.seq (.block 1 (.seq (.reg [⟨(some 34), none, (.q (.mv (.t 1)))⟩,
  ⟨(some 35), none, (.q (.mv (.t 7)))⟩, ⟨(some 36), none, (.q (.ia (.t 34) (.t 35) 3))⟩, ⟨(some 37), none, (.q (.ld (.t 36) 3 true))⟩, ⟨(some 8), none, (.alloc [(.pv (.sc (.int .i64 0))),
  (.pv (.sc (.int .u64 0))), (.pv (.sc (.int .i64 0)))])⟩, ⟨none, none, (.st (.t 8) (.t 37) 3)⟩] [] [1, 2, 5, 6, 7, 8] [2, 8, 23, 1022, 1045]) (.seq (.reg [⟨(some 38), none, (.q (.mv (.t 7)))⟩,
  ⟨(some 39), none, (.q (.conv .u64 (.t 38)))⟩, ⟨(some 40), none, (.q (.fa (.t 8) 1))⟩, ⟨none, none, (.st (.t 40) (.t 39) 1)⟩] [] [1, 2, 5, 6, 7, 8] [2, 8, 23, 1022, 1045]) (.seq (.reg [⟨(some 42),
  none, (.q (.ld (.t 2) 4 true))⟩, ⟨(some 43), none, (.q (.mv (.t 5)))⟩, ⟨(some 44), none, (.q (.ld (.t 8) 3 true))⟩, ⟨(some 45), none, (.call (.f 19) [(.t 42), (.t 43), (.t 44)])⟩, ⟨(some 41), none,
  (.q (.mv (.t 45)))⟩, ⟨(some 46), none, (.q (.ext (.t 41) 0))⟩, ⟨(some 47), none, (.q (.ext (.t 41) 1))⟩, ⟨(some 48), none, (.q (.ext (.t 41) 2))⟩, ⟨(some 49), none, (.q (.ext (.t 41) 3))⟩,
  ⟨(some 9), none, (.q (.mv (.t 46)))⟩, ⟨(some 10), none, (.q (.mv (.t 47)))⟩, ⟨(some 11), none, (.q (.mv (.t 48)))⟩, ⟨(some 12), none, (.q (.mv (.t 49)))⟩] [] [1, 2, 5, 6, 7, 8, 9, 10, 11, 12] [2, 8,
  23, 1022, 1045]) (.seq (.seq (.reg [⟨(some 50), none, (.q (.mv (.t 12)))⟩, ⟨(some 51), none, (.q (.bin .neq (.t 50) (.c (.int .i64 0))))⟩] [] [1, 2, 5, 6, 7, 8, 9, 10, 11, 51] [2, 8, 23, 1022,
  1045]) (.cond (.t 51) (.exit 1) .skip)) (.seq (.reg [⟨(some 52), none, (.q (.mv (.t 6)))⟩, ⟨(some 53), none, (.q (.fa (.t 8) 1))⟩, ⟨(some 54), none, (.q (.ld (.t 53) 1 false))⟩, ⟨none, none,
  (.mset (.t 52) (.t 54) (.c (.int .i64 1)) Kk.int)⟩] [] [1, 2, 6, 7, 8, 9, 10, 11] [2, 8, 23, 1022, 1045]) (.seq (.seq (.reg [⟨(some 13), none, (.q (.mv (.c (.int .i64 0))))⟩] [] [1, 2, 6, 7, 8, 9,
  10, 11, 13] [2, 8, 23, 1022, 1045]) (.block 2 (.loop B5_1))) R5_1))))))) (.reg [⟨(some 32), none, (.q (.mv (.t 7)))⟩, ⟨(some 33), none, (.q (.bin .add (.t 32) (.c (.int .i64 1))))⟩, ⟨(some 7), none,
  (.q (.mv (.t 33)))⟩] [] [1, 2, 5, 6, 7] [2, 23, 1022, 1045])))
def B5_3 : MC := (.seq (.reg [⟨(some 159), none, (.nxtm (.t 158))⟩, ⟨(some 160), none, (.q (.ext (.t 159) 0))⟩] [] [2, 5, 6, 17, 158, 160] [2, 23, 158, 1022, 1045]) (.seq (.cond (.t 160)
  .skip (.exit 6)) (.block 7 (.seq (.reg [⟨(some 161), none, (.q (.ent (.t 158)))⟩, ⟨(some 162), none, (.q (.ext (.t 161) 1))⟩, ⟨(some 19), none, (.q (.mv (.t 162)))⟩] [] [2, 5, 6, 17, 19, 158] [2,
  23, 158, 1022, 1045]) (.seq (.reg [⟨(some 163), none, (.q (.mv (.t 19)))⟩, ⟨(some 164), none, (.q (.bin .eql (.t 163) (.c (.int .i64 1))))⟩] [] [2, 5, 6, 17, 158, 164] [2, 23, 158, 1022, 1045])
  (.cond (.t 164) (.reg [⟨(some 165), none, (.q (.mv (.t 17)))⟩, ⟨(some 166), none, (.q (.bin .add (.t 165) (.c (.int .i64 1))))⟩, ⟨(some 17), none, (.q (.mv (.t 166)))⟩] [] [2, 5, 6, 17, 158] [2, 23,
  158, 1022, 1045]) .skip))))))
def B5_4 : MC := (.seq (.seq (.reg [⟨(some 167), none, (.q (.mv (.t 20)))⟩, ⟨(some 168), none, (.q (.mv (.t 5)))⟩, ⟨(some 169), none, (.q (.len (.t 168) false))⟩, ⟨(some 170), none,
  (.q (.bin .lss (.t 167) (.t 169)))⟩] [] [2, 5, 6, 17, 20, 170] [2, 23, 1022, 1045]) (.cond (.t 170) .skip (.exit 8))) (.seq (.block 9 (.seq (.reg [⟨(some 173), none, (.q (.mv (.t 6)))⟩, ⟨(some 174),
  none, (.q (.mv (.t 5)))⟩, ⟨(some 175), none, (.q (.mv (.t 20)))⟩, ⟨(some 176), none, (.q (.ia (.t 174) (.t 175) 3))⟩, ⟨(some 177), none, (.q (.fa (.t 176) 1))⟩, ⟨(some 178), none, (.q (.ld (.t 177)
  1 false))⟩, ⟨(some 179), none, (.q (.mget (.t 173) (.t 178) false Kk.int (.pv (.sc (.int .i64 0)))))⟩, ⟨(some 180), none, (.q (.bin .neq (.t 179) (.c (.int .i64 1))))⟩] [] [2, 5, 6, 17, 20, 180] [2,
  23, 1022, 1045]) (.cond (.t 180) (.seq (.reg [⟨(some 4), none, (.q (.mv (.c (.bool false))))⟩] [] [4] [1192, 1197]) .ret) .skip))) (.reg [⟨(some 171), none, (.q (.mv (.t 20)))⟩, ⟨(some 172), none,
  (.q (.bin .add (.t 171) (.c (.int .i64 1))))⟩, ⟨(some 20), none, (.q (.mv (.t 172)))⟩] [] [2, 5, 6, 17, 20] [2, 23, 1022, 1045])))
def R5_4 : MC := (.seq (.reg [⟨(some 181), none, (.q (.mv (.t 17)))⟩, ⟨(some 182), none, (.q (.mv (.t 5)))⟩, ⟨(some 183), none, (.q (.len (.t 182) false))⟩, ⟨(some 184), none, (.q (.bin .eql (.t 181)
  (.t 183)))⟩, ⟨(some 185), none, (.q (.mv (.t 184)))⟩, ⟨(some 186), (some (185, true)), (.q (.mv (.t 5)))⟩, ⟨(some 187), (some (185, true)), (.q (.len (.t 186) false))⟩, ⟨(some 188), (some (185,
  true)), (.q (.bin .eql (.t 187) (.c (.int .i64 0))))⟩, ⟨(some 189), (some (185, true)), (.q (.mv (.t 188)))⟩, ⟨(some 190), (some (189, false)), (.q (.ld (.t 2) 4 true))⟩, ⟨(some 191), (some (189,
  false)), (.q (.mv (.t 5)))⟩, ⟨(some 192), (some (189, false)), (.call (.f 24) [(.t 190), (.t 191)])⟩, ⟨(some 193), (some (189, false)), (.q (.bin .eql (.t 192) (.c (.int .i64 0))))⟩, ⟨(some 194),
  (some (185, true)), (.q (.pick (.t 189) (.c (.bool true)) (.t 193)))⟩, ⟨(some 195), none, (.q (.pick (.t 185) (.t 194) (.c (.bool false))))⟩, ⟨(some 196), none, (.q (.mv (.t 195)))⟩, ⟨(some 197),
  (some (196, true)), (.call (.f 26) [])⟩, ⟨(some 198), none, (.q (.pick (.t 196) (.t 197) (.c (.bool false))))⟩, ⟨(some 4), none, (.q (.mv (.t 198)))⟩] [] [4] [1192, 1197]) .ret)
def R5_3 : MC := (.seq (.seq (.reg [⟨(some 20), none, (.q (.mv (.c (.int .i64 0))))⟩] [] [2, 5, 6, 17, 20] [2, 23, 1022, 1045]) (.block 8 (.loop B5_4))) R5_4)
def R5_0 : MC := (.seq (.reg [⟨(some 17), none, (.q (.mv (.c (.int .i64 0))))⟩] [] [2, 5, 6, 17] [2, 23, 1022, 1045]) (.seq (.seq (.reg [⟨(some 157), none, (.q (.mv (.t 6)))⟩, ⟨(some 158), none,
  (.rngm (.t 157))⟩] [] [2, 5, 6, 17, 158] [2, 23, 158, 1022, 1045]) (.block 6 (.loop B5_3))) R5_3))
def M5 : MC := (.seq (.reg [⟨(some 2), none, (.box (.t 0))⟩, ⟨(some 4), none, (.q (.mv (.c (.bool false))))⟩] [] [1, 2] [2, 1022]) (.seq (.reg [⟨(some 21), none, (.q (.ld (.t 2) 4 true))⟩, ⟨(some 22),
  none, (.call (.f 17) [(.t 21)])⟩, ⟨none, none, (.st (.t 2) (.t 22) 4)⟩] [] [1, 2] [2, 1022]) (.seq (.reg [⟨(some 5), none, (.q (.mv .nil))⟩] [(5, 6, 0)] [1, 2, 5] [2, 1022, 1045])
  (.seq (.reg [⟨(some 23), none, .mkm⟩, ⟨(some 6), none, (.q (.mv (.t 23)))⟩] [] [1, 2, 5, 6] [2, 23, 1022, 1045]) (.seq (.seq (.reg [⟨(some 7), none, (.q (.mv (.c (.int .i64 0))))⟩] [] [1, 2, 5, 6,
  7] [2, 23, 1022, 1045]) (.block 0 (.loop B5_0))) R5_0)))))
theorem mc5 : ofCode Try.prog [] Try.f5.ntmps [(0, ⟨[1, 2], [2, 1022], [], 0, []⟩),
    (1, ⟨[1, 2], [2, 1022], [], 0, []⟩),
    (2, ⟨[1, 2, 5], [2, 1022, 1045], [], 0, [(5, 6, 0)]⟩),
    (3, ⟨[1, 2, 5, 6], [2, 23, 1022, 1045], [], 0, []⟩),
    (4, ⟨[1, 2, 5, 6, 7], [2, 23, 1022, 1045], [], 0, []⟩),
    (5, ⟨[1, 2, 5, 6, 7, 31], [2, 23, 1022, 1045], [], 0, []⟩),
    (6, ⟨[1, 2, 5, 6, 7], [2, 23, 1022, 1045], [], 0, []⟩),
    (7, ⟨[1, 2, 5, 6, 7, 8], [2, 8, 23, 1022, 1045], [], 0, []⟩),
    (8, ⟨[1, 2, 5, 6, 7, 8], [2, 8, 23, 1022, 1045], [], 0, []⟩),
    (9, ⟨[1, 2, 5, 6, 7, 8, 9, 10, 11, 12], [2, 8, 23, 1022, 1045], [], 0, []⟩),
    (10, ⟨[1, 2, 5, 6, 7, 8, 9, 10, 11, 51], [2, 8, 23, 1022, 1045], [], 0, []⟩),
    (11, ⟨[1, 2, 6, 7, 8, 9, 10, 11], [2, 8, 23, 1022, 1045], [], 0, []⟩),
    (12, ⟨[1, 2, 6, 7, 8, 9, 10, 11, 13], [2, 8, 23, 1022, 1045], [], 0, []⟩),
    (13, ⟨[1, 2, 6, 7, 8, 9, 10, 11, 13, 58], [2, 8, 23, 1022, 1045], [], 0, []⟩),
    (14, ⟨[1, 2, 6, 7, 8, 9, 10, 11, 13], [2, 8, 23, 1022, 1045], [], 0, []⟩),
    (15, ⟨[1, 2, 6, 7, 8, 9, 10, 11, 13, 68], [2, 8, 23, 1022, 1045], [], 0, []⟩),
    (16, ⟨[4], [1192, 1197], [], 0, []⟩),
    (17, ⟨[1, 2, 6, 7, 8, 9, 10, 11, 13], [2, 8, 23, 1022, 1045], [], 0, []⟩),
    (18, ⟨[1, 2, 6, 7, 8, 9, 10, 14], [2, 8, 23, 75, 1022, 1045], [], 0, []⟩),
    (19, ⟨[1, 2, 6, 7, 8, 9, 10, 14, 15], [2, 8, 23, 75, 1022, 1045], [], 0, []⟩),
    (20, ⟨[1, 2, 6, 7, 8, 9, 10, 14, 15, 79], [2, 8, 23, 75, 1022, 1045], [], 0, []⟩),
    (21, ⟨[1, 2, 6, 7, 8, 9, 10, 14, 15], [2, 8, 23, 75, 1022, 1045], [], 0, []⟩),
    (22, ⟨[1, 2, 6, 7, 8, 9, 10, 14, 15, 102], [2, 8, 23, 75, 1022, 1045], [(0, 2097089), (1, 2097146), (2, 2097148), (3, 2097144), (4, 2097136), (5, 2097120), (6, 2097088), (7, 2097024), (8, 2096896), (9, 1653248), (10, 1653760), (11, 1652736), (12, 1650688), (13, 1646592), (14, 1687552), (15, 1671168), (16, 1638400), (17, 1966080), (18, 1835008), (19, 1572864), (20, 1048576)], 2097151, []⟩),
    (23, ⟨[4], [1192, 1197], [], 0, []⟩),
    (24, ⟨[1, 2, 6, 7, 8, 9, 10, 14, 15], [2, 8, 23, 75, 1022, 1045], [], 0, []⟩),
    (25, ⟨[1, 2, 6, 7, 8, 9, 10, 14, 15], [2, 8, 23, 75, 1022, 1045], [], 0, []⟩),
    (26, ⟨[1, 2, 6, 7, 9, 14, 16], [2, 23, 75, 1022, 1045], [], 0, []⟩),
    (27, ⟨[1, 2, 6, 7, 9, 155], [2, 23, 1022, 1045], [], 0, []⟩),
    (28, ⟨[4], [1192, 1197], [], 0, []⟩),
    (29, ⟨[1, 2, 5, 6, 7], [2, 23, 1022, 1045], [], 0, []⟩),
    (30, ⟨[2, 5, 6, 17], [2, 23, 1022, 1045], [], 0, []⟩),
    (31, ⟨[2, 5, 6, 17, 158], [2, 23, 158, 1022, 1045], [], 0, []⟩),
    (32, ⟨[2, 5, 6, 17, 158, 160], [2, 23, 158, 1022, 1045], [], 0, []⟩),
    (33, ⟨[2, 5, 6, 17, 19, 158], [2, 23, 158, 1022, 1045], [], 0, []⟩),
    (34, ⟨[2, 5, 6, 17, 158, 164], [2, 23, 158, 1022, 1045], [], 0, []⟩),
    (35, ⟨[2, 5, 6, 17, 158], [2, 23, 158, 1022, 1045], [], 0, []⟩),
    (36, ⟨[2, 5, 6, 17, 20], [2, 23, 1022, 1045], [], 0, []⟩),
    (37, ⟨[2, 5, 6, 17, 20, 170], [2, 23, 1022, 1045], [], 0, []⟩),
    (38, ⟨[2, 5, 6, 17, 20], [2, 23, 1022, 1045], [], 0, []⟩),
    (39, ⟨[2, 5, 6, 17, 20, 180], [2, 23, 1022, 1045], [], 0, []⟩),
    (40, ⟨[4], [1192, 1197], [], 0, []⟩),
    (41, ⟨[4], [1192, 1197], [], 0, []⟩)] (Try.f5.body.getD .skip) = some M5 := by kernel_rfl
theorem Run5 {args : List PV} {v : AV} {rs : List (Nat × List PV)} (ids : List Bool) (h : args.length ≤ 199) (hv : run Try.prog (retK [RV.tmp 4] ids v rs) M5 [] ⟨entry 0 args, []⟩) : Fn Try.prog 5 args v rs :=
  Fn_run ids (by kernel_rfl) Try.func5 (by decide) rfl mc5 (by kernel_rfl) (by rw [Try.ntmps5]; exact h) (by rw [Try.ntmps5]; decide) hv

end Go.Vc

namespace Go.Vc
open Go.Proofs
set_option linter.unusedSimpArgs false
set_option linter.unusedVariables false


theorem rest5 (p0 : PV) (j : Jn) (xs : List Kp) (i : Nat) (l : List Kp) (tk : List Int) (st : Int → Int) (hg : Gd j i l tk st) :
    run Try.prog (retK [RV.tmp 4] [] (.pv (pB true)) []) R5_0 [] ⟨[(1, .pv (ks xs)), (2, .ptr 2 0), (5, .pv (ks l)), (6, .mp 23), (7, .pv (pI i)), (31, .pv (pB false))], [(2, .box [.pv (pS j.kind), .pv (pI j.parts), .pv (pI j.need), .pv (pI j.window)]), (23, .mp (plc tk st))]⟩ := by
  have hll := hg.len
  simp only [go_sem, Nat.reduceEqDiff, Nat.reduceBEq, Nat.reduceAdd, Nat.reduceMul, Nat.reduceSub, Nat.reduceLeDiff, Nat.reduceLT, reduceIte, reduceCtorEq, Int.reduceToNat, Int.reduceLE, Int.reduceLT, Int.reduceNeg, Int.toNat_natCast, Option.getD_some, List.take_length, List.getD_nil, Int.natCast_nonneg, List.length_map, Bool.not_not, and_self, Bool.and_eq_false_iff, Int.cast_ofNat_Int, Int.reduceAdd, Int.reduceSub, Int.reduceMul, Int.reduceEq, Int.reduceNe, R5_0, plc_len]
  refine ⟨by decide, run_loop (T := List Nat × Option Nat × Nat × List (Nat × AV)) (fun t => ⟨[(2, .ptr 2 0), (5, .pv (ks l)), (6, .mp 23), (17, .pv (pI t.2.2.1)), (158, .it 158)] ++ t.2.2.2,
      [(2, .box [.pv (pS j.kind), .pv (pI j.parts), .pv (pI j.need), .pv (pI j.window)]), (23, .mp (plc tk st)), (158, .mit 23 tk.length t.1 t.2.1)]⟩)
    (fun t => (∀ k ∈ t.1, k < tk.length) ∧ t.2.2.1 + cnt st tk t.1 = l.length) (fun t => t.1.length) ⟨List.range tk.length, none, 0, []⟩ rfl ⟨fun k hk => by simpa using hk, by rw [hg.count]; simp⟩ ?_⟩
  rintro ⟨rem, cur, w, ex⟩ ⟨hr, hw⟩
  simp only at hr hw
  simp only [go_sem, Nat.reduceEqDiff, Nat.reduceBEq, Nat.reduceAdd, Nat.reduceMul, Nat.reduceSub, Nat.reduceLeDiff, Nat.reduceLT, reduceIte, reduceCtorEq, Int.reduceToNat, Int.reduceLE, Int.reduceLT, Int.reduceNeg, Int.toNat_natCast, Option.getD_some, List.take_length, List.getD_nil, Int.natCast_nonneg, List.length_map, Bool.not_not, and_self, Bool.and_eq_false_iff, Int.cast_ofNat_Int, Int.reduceAdd, Int.reduceSub, Int.reduceMul, Int.reduceEq, Int.reduceNe, B5_3, plc_len]
  refine ⟨fun hn => ?_, fun k hk => ?_⟩
  · subst hn
    have hwl : w = l.length := by simpa [cnt] using hw
    subst hwl
    simp only [go_sem, Nat.reduceEqDiff, Nat.reduceBEq, Nat.reduceAdd, Nat.reduceMul, Nat.reduceSub, Nat.reduceLeDiff, Nat.reduceLT, reduceIte, reduceCtorEq, Int.reduceToNat, Int.reduceLE, Int.reduceLT, Int.reduceNeg, Int.toNat_natCast, Option.getD_some, List.take_length, List.getD_nil, Int.natCast_nonneg, List.length_map, Bool.not_not, and_self, Bool.and_eq_false_iff, Int.cast_ofNat_Int, Int.reduceAdd, Int.reduceSub, Int.reduceMul, Int.reduceEq, Int.reduceNe, R5_3]
    refine run_loop (T := Nat) (fun k => ⟨[(2, .ptr 2 0), (5, .pv (ks l)), (6, .mp 23), (17, .pv (pI l.length)), (20, .pv (pI k))],
      [(2, .box [.pv (pS j.kind), .pv (pI j.parts), .pv (pI j.need), .pv (pI j.window)]), (23, .mp (plc tk st))]⟩)
      (fun k => k ≤ l.length) (fun k => l.length - k) 0 rfl (Nat.zero_le _) ?_
    intro k hk
    by_cases hkl : k < l.length
    · have hin := hg.inn hkl
      simp only [go_sem, Nat.reduceEqDiff, Nat.reduceBEq, Nat.reduceAdd, Nat.reduceMul, Nat.reduceSub, Nat.reduceLeDiff, Nat.reduceLT, reduceIte, reduceCtorEq, Int.reduceToNat, Int.reduceLE, Int.reduceLT, Int.reduceNeg, Int.toNat_natCast, Option.getD_some, List.take_length, List.getD_nil, Int.natCast_nonneg, List.length_map, Bool.not_not, and_self, Bool.and_eq_false_iff, Int.cast_ofNat_Int, Int.reduceAdd, Int.reduceSub, Int.reduceMul, Int.reduceEq, Int.reduceNe, B5_4, show (k : Int) < (l.length : Int) by omega, wf_ks, getD_ks hkl, like_plc, lkp_plc hin.1, hin.2]
      exact ⟨⟨by omega, by omega⟩, k + 1, rfl, by omega, by omega⟩
    · have hke : k = l.length := by omega
      subst hke
      simp only [go_sem, Nat.reduceEqDiff, Nat.reduceBEq, Nat.reduceAdd, Nat.reduceMul, Nat.reduceSub, Nat.reduceLeDiff, Nat.reduceLT, reduceIte, reduceCtorEq, Int.reduceToNat, Int.reduceLE, Int.reduceLT, Int.reduceNeg, Int.toNat_natCast, Option.getD_some, List.take_length, List.getD_nil, Int.natCast_nonneg, List.length_map, Bool.not_not, and_self, Bool.and_eq_false_iff, Int.cast_ofNat_Int, Int.reduceAdd, Int.reduceSub, Int.reduceMul, Int.reduceEq, Int.reduceNe, B5_4, R5_4, show ¬ ((l.length : Int) < (l.length : Int)) by omega]
      refine runR_callgf (by simp only [go_sem, Nat.reduceEqDiff, Nat.reduceBEq, Nat.reduceAdd, Nat.reduceMul, Nat.reduceSub, Nat.reduceLeDiff, Nat.reduceLT, reduceIte, reduceCtorEq, Int.reduceToNat, Int.reduceLE, Int.reduceLT, Int.reduceNeg, Int.toNat_natCast, Option.getD_some, List.take_length, List.getD_nil, Int.natCast_nonneg, List.length_map, Bool.not_not, and_self, Bool.and_eq_false_iff, Int.cast_ofNat_Int, Int.reduceAdd, Int.reduceSub, Int.reduceMul, Int.reduceEq, Int.reduceNe]) (by simp only [go_sem, Nat.reduceEqDiff, Nat.reduceBEq, Nat.reduceAdd, Nat.reduceMul, Nat.reduceSub, Nat.reduceLeDiff, Nat.reduceLT, reduceIte, reduceCtorEq, Int.reduceToNat, Int.reduceLE, Int.reduceLT, Int.reduceNeg, Int.toNat_natCast, Option.getD_some, List.take_length, List.getD_nil, Int.natCast_nonneg, List.length_map, Bool.not_not, and_self, Bool.and_eq_false_iff, Int.cast_ofNat_Int, Int.reduceAdd, Int.reduceSub, Int.reduceMul, Int.reduceEq, Int.reduceNe]) (by simp only [go_sem, Nat.reduceEqDiff, Nat.reduceBEq, Nat.reduceAdd, Nat.reduceMul, Nat.reduceSub, Nat.reduceLeDiff, Nat.reduceLT, reduceIte, reduceCtorEq, Int.reduceToNat, Int.reduceLE, Int.reduceLT, Int.reduceNeg, Int.toNat_natCast, Option.getD_some, List.take_length, List.getD_nil, Int.natCast_nonneg, List.length_map, Bool.not_not, and_self, Bool.and_eq_false_iff, Int.cast_ofNat_Int, Int.reduceAdd, Int.reduceSub, Int.reduceMul, Int.reduceEq, Int.reduceNe]) (fun _ => fn24 j l (by omega)) rfl ?_
      rcases hg.chk with h0 | hc
      · simp only [go_sem, Nat.reduceEqDiff, Nat.reduceBEq, Nat.reduceAdd, Nat.reduceMul, Nat.reduceSub, Nat.reduceLeDiff, Nat.reduceLT, reduceIte, reduceCtorEq, Int.reduceToNat, Int.reduceLE, Int.reduceLT, Int.reduceNeg, Int.toNat_natCast, Option.getD_some, List.take_length, List.getD_nil, Int.natCast_nonneg, List.length_map, Bool.not_not, and_self, Bool.and_eq_false_iff, Int.cast_ofNat_Int, Int.reduceAdd, Int.reduceSub, Int.reduceMul, Int.reduceEq, Int.reduceNe, show ((l.length : Int) = 0) = True from eq_true (by rw [h0]; rfl)]
        refine runR_callgf (by simp only [go_sem, Nat.reduceEqDiff, Nat.reduceBEq, Nat.reduceAdd, Nat.reduceMul, Nat.reduceSub, Nat.reduceLeDiff, Nat.reduceLT, reduceIte, reduceCtorEq, Int.reduceToNat, Int.reduceLE, Int.reduceLT, Int.reduceNeg, Int.toNat_natCast, Option.getD_some, List.take_length, List.getD_nil, Int.natCast_nonneg, List.length_map, Bool.not_not, and_self, Bool.and_eq_false_iff, Int.cast_ofNat_Int, Int.reduceAdd, Int.reduceSub, Int.reduceMul, Int.reduceEq, Int.reduceNe]) (by simp only [go_sem, Nat.reduceEqDiff, Nat.reduceBEq, Nat.reduceAdd, Nat.reduceMul, Nat.reduceSub, Nat.reduceLeDiff, Nat.reduceLT, reduceIte, reduceCtorEq, Int.reduceToNat, Int.reduceLE, Int.reduceLT, Int.reduceNeg, Int.toNat_natCast, Option.getD_some, List.take_length, List.getD_nil, Int.natCast_nonneg, List.length_map, Bool.not_not, and_self, Bool.and_eq_false_iff, Int.cast_ofNat_Int, Int.reduceAdd, Int.reduceSub, Int.reduceMul, Int.reduceEq, Int.reduceNe]) (by simp only [go_sem, Nat.reduceEqDiff, Nat.reduceBEq, Nat.reduceAdd, Nat.reduceMul, Nat.reduceSub, Nat.reduceLeDiff, Nat.reduceLT, reduceIte, reduceCtorEq, Int.reduceToNat, Int.reduceLE, Int.reduceLT, Int.reduceNeg, Int.toNat_natCast, Option.getD_some, List.take_length, List.getD_nil, Int.natCast_nonneg, List.length_map, Bool.not_not, and_self, Bool.and_eq_false_iff, Int.cast_ofNat_Int, Int.reduceAdd, Int.reduceSub, Int.reduceMul, Int.reduceEq, Int.reduceNe]) (fun _ => fn26) rfl ?_
        simp only [go_sem, Nat.reduceEqDiff, Nat.reduceBEq, Nat.reduceAdd, Nat.reduceMul, Nat.reduceSub, Nat.reduceLeDiff, Nat.reduceLT, reduceIte, reduceCtorEq, Int.reduceToNat, Int.reduceLE, Int.reduceLT, Int.reduceNeg, Int.toNat_natCast, Option.getD_some, List.take_length, List.getD_nil, Int.natCast_nonneg, List.length_map, Bool.not_not, and_self, Bool.and_eq_false_iff, Int.cast_ofNat_Int, Int.reduceAdd, Int.reduceSub, Int.reduceMul, Int.reduceEq, Int.reduceNe]
      · simp only [go_sem, Nat.reduceEqDiff, Nat.reduceBEq, Nat.reduceAdd, Nat.reduceMul, Nat.reduceSub, Nat.reduceLeDiff, Nat.reduceLT, reduceIte, reduceCtorEq, Int.reduceToNat, Int.reduceLE, Int.reduceLT, Int.reduceNeg, Int.toNat_natCast, Option.getD_some, List.take_length, List.getD_nil, Int.natCast_nonneg, List.length_map, Bool.not_not, and_self, Bool.and_eq_false_iff, Int.cast_ofNat_Int, Int.reduceAdd, Int.reduceSub, Int.reduceMul, Int.reduceEq, Int.reduceNe, checkJ_err, hc]
        refine runR_callgf (by simp only [go_sem, Nat.reduceEqDiff, Nat.reduceBEq, Nat.reduceAdd, Nat.reduceMul, Nat.reduceSub, Nat.reduceLeDiff, Nat.reduceLT, reduceIte, reduceCtorEq, Int.reduceToNat, Int.reduceLE, Int.reduceLT, Int.reduceNeg, Int.toNat_natCast, Option.getD_some, List.take_length, List.getD_nil, Int.natCast_nonneg, List.length_map, Bool.not_not, and_self, Bool.and_eq_false_iff, Int.cast_ofNat_Int, Int.reduceAdd, Int.reduceSub, Int.reduceMul, Int.reduceEq, Int.reduceNe]) (by simp only [go_sem, Nat.reduceEqDiff, Nat.reduceBEq, Nat.reduceAdd, Nat.reduceMul, Nat.reduceSub, Nat.reduceLeDiff, Nat.reduceLT, reduceIte, reduceCtorEq, Int.reduceToNat, Int.reduceLE, Int.reduceLT, Int.reduceNeg, Int.toNat_natCast, Option.getD_some, List.take_length, List.getD_nil, Int.natCast_nonneg, List.length_map, Bool.not_not, and_self, Bool.and_eq_false_iff, Int.cast_ofNat_Int, Int.reduceAdd, Int.reduceSub, Int.reduceMul, Int.reduceEq, Int.reduceNe]) (by simp only [go_sem, Nat.reduceEqDiff, Nat.reduceBEq, Nat.reduceAdd, Nat.reduceMul, Nat.reduceSub, Nat.reduceLeDiff, Nat.reduceLT, reduceIte, reduceCtorEq, Int.reduceToNat, Int.reduceLE, Int.reduceLT, Int.reduceNeg, Int.toNat_natCast, Option.getD_some, List.take_length, List.getD_nil, Int.natCast_nonneg, List.length_map, Bool.not_not, and_self, Bool.and_eq_false_iff, Int.cast_ofNat_Int, Int.reduceAdd, Int.reduceSub, Int.reduceMul, Int.reduceEq, Int.reduceNe]) (fun _ => fn26) rfl ?_
        simp only [go_sem, Nat.reduceEqDiff, Nat.reduceBEq, Nat.reduceAdd, Nat.reduceMul, Nat.reduceSub, Nat.reduceLeDiff, Nat.reduceLT, reduceIte, reduceCtorEq, Int.reduceToNat, Int.reduceLE, Int.reduceLT, Int.reduceNeg, Int.toNat_natCast, Option.getD_some, List.take_length, List.getD_nil, Int.natCast_nonneg, List.length_map, Bool.not_not, and_self, Bool.and_eq_false_iff, Int.cast_ofNat_Int, Int.reduceAdd, Int.reduceSub, Int.reduceMul, Int.reduceEq, Int.reduceNe]
        exact .inr rfl
  · have hkl := hr k hk
    have hce := cnt_erase (st := st) (tk := tk) hk
    have hln : (rem.erase k).length < rem.length := by
      have := List.length_erase_of_mem hk
      have := List.length_pos_of_mem hk
      omega
    have hre : ∀ q ∈ rem.erase k, q < tk.length := fun q hq => hr q (List.mem_of_mem_erase hq)
    simp only [go_sem, Nat.reduceEqDiff, Nat.reduceBEq, Nat.reduceAdd, Nat.reduceMul, Nat.reduceSub, Nat.reduceLeDiff, Nat.reduceLT, reduceIte, reduceCtorEq, Int.reduceToNat, Int.reduceLE, Int.reduceLT, Int.reduceNeg, Int.toNat_natCast, Option.getD_some, List.take_length, List.getD_nil, Int.natCast_nonneg, List.length_map, Bool.not_not, and_self, Bool.and_eq_false_iff, Int.cast_ofNat_Int, Int.reduceAdd, Int.reduceSub, Int.reduceMul, Int.reduceEq, Int.reduceNe, plc_get hkl]
    refine ⟨fun h1 => ⟨⟨by omega, by omega⟩, ⟨rem.erase k, some k, w + 1, []⟩, rfl, ⟨hre, ?_⟩, hln⟩, fun h1 => ⟨⟨rem.erase k, some k, w, [(164, .pv (pB (decide (st (tk.getD k 0) = 1))))]⟩, rfl, ⟨hre, ?_⟩, hln⟩⟩
    · rw [if_pos h1] at hce; simp only; omega
    · rw [if_neg h1] at hce; simp only; omega
end Go.Vc

namespace Go.Vc
open Go.Proofs
set_option linter.unusedSimpArgs false
set_option linter.unusedVariables false

abbrev OT := Nat × List Kp × List Int × (Int → Int)
set_option maxHeartbeats 4000000 in
theorem law5 (jj : Jn) (xs : List Kp) (hl : xs.length ≤ 9223372036854775807) : Fn Try.prog 5 [jj.pv, ks xs] (.pv (pB true)) [] := by
  refine Run5 [] (by simp) ?_
  simp only [go_sem, Nat.reduceEqDiff, Nat.reduceBEq, Nat.reduceAdd, Nat.reduceMul, Nat.reduceSub, Nat.reduceLeDiff, Nat.reduceLT, reduceIte, reduceCtorEq, Int.reduceToNat, Int.reduceLE, Int.reduceLT, Int.reduceNeg, Int.toNat_natCast, Option.getD_some, List.take_length, List.getD_nil, Int.natCast_nonneg, List.length_map, Bool.not_not, and_self, Bool.and_eq_false_iff, Int.cast_ofNat_Int, Int.reduceAdd, Int.reduceSub, Int.reduceMul, Int.reduceEq, Int.reduceNe, M5]
  refine runR_callf (by simp only [go_sem, Nat.reduceEqDiff, Nat.reduceBEq, Nat.reduceAdd, Nat.reduceMul, Nat.reduceSub, Nat.reduceLeDiff, Nat.reduceLT, reduceIte, reduceCtorEq, Int.reduceToNat, Int.reduceLE, Int.reduceLT, Int.reduceNeg, Int.toNat_natCast, Option.getD_some, List.take_length, List.getD_nil, Int.natCast_nonneg, List.length_map, Bool.not_not, and_self, Bool.and_eq_false_iff, Int.cast_ofNat_Int, Int.reduceAdd, Int.reduceSub, Int.reduceMul, Int.reduceEq, Int.reduceNe]) (by simp only [go_sem, Nat.reduceEqDiff, Nat.reduceBEq, Nat.reduceAdd, Nat.reduceMul, Nat.reduceSub, Nat.reduceLeDiff, Nat.reduceLT, reduceIte, reduceCtorEq, Int.reduceToNat, Int.reduceLE, Int.reduceLT, Int.reduceNeg, Int.toNat_natCast, Option.getD_some, List.take_length, List.getD_nil, Int.natCast_nonneg, List.length_map, Bool.not_not, and_self, Bool.and_eq_false_iff, Int.cast_ofNat_Int, Int.reduceAdd, Int.reduceSub, Int.reduceMul, Int.reduceEq, Int.reduceNe]) (fn17 jj) ⟨rfl, trivial⟩ trivial ?_
  simp only [go_sem, Nat.reduceEqDiff, Nat.reduceBEq, Nat.reduceAdd, Nat.reduceMul, Nat.reduceSub, Nat.reduceLeDiff, Nat.reduceLT, reduceIte, reduceCtorEq, Int.reduceToNat, Int.reduceLE, Int.reduceLT, Int.reduceNeg, Int.toNat_natCast, Option.getD_some, List.take_length, List.getD_nil, Int.natCast_nonneg, List.length_map, Bool.not_not, and_self, Bool.and_eq_false_iff, Int.cast_ofNat_Int, Int.reduceAdd, Int.reduceSub, Int.reduceMul, Int.reduceEq, Int.reduceNe]
  generalize kindOf jj = j
  refine run_loop (T := OT) (fun t => ⟨[(1, .pv (ks xs)), (2, .ptr 2 0), (5, .pv (ks t.2.1)), (6, .mp 23), (7, .pv (pI t.1))], [(2, .box [.pv (pS j.kind), .pv (pI j.parts), .pv (pI j.need), .pv (pI j.window)]), (23, .mp (plc t.2.2.1 t.2.2.2))]⟩)
    (fun t => t.1 ≤ xs.length ∧ t.1 ≤ 60 ∧ Gd j t.1 t.2.1 t.2.2.1 t.2.2.2) (fun t => xs.length - t.1) ⟨0, [], [], fun _ => 0⟩ ?_ ⟨Nat.zero_le _, Nat.zero_le _, Gd.zero j⟩ ?_
  · simp [plc]
  rintro ⟨i, l, tk, st⟩ ⟨hi, h60, hg⟩
  simp only at hi h60 hg
  by_cases hlt : i < xs.length ∧ i < 60
  · obtain ⟨hil, hi6⟩ := hlt
    have hx : ∃ x, xs.getD i default = x := ⟨_, rfl⟩
    obtain ⟨x, hx⟩ := hx
    simp only [go_sem, Nat.reduceEqDiff, Nat.reduceBEq, Nat.reduceAdd, Nat.reduceMul, Nat.reduceSub, Nat.reduceLeDiff, Nat.reduceLT, reduceIte, reduceCtorEq, Int.reduceToNat, Int.reduceLE, Int.reduceLT, Int.reduceNeg, Int.toNat_natCast, Option.getD_some, List.take_length, List.getD_nil, Int.natCast_nonneg, List.length_map, Bool.not_not, and_self, Bool.and_eq_false_iff, Int.cast_ofNat_Int, Int.reduceAdd, Int.reduceSub, Int.reduceMul, Int.reduceEq, Int.reduceNe, B5_0, show (i : Int) < (xs.length : Int) by omega, show (i : Int) < 60 by omega, wf_ks, getD_ks hil, hx]
    refine ⟨by omega, ?_⟩
    have hll := hg.len
    refine runR_call (by simp only [go_sem, Nat.reduceEqDiff, Nat.reduceBEq, Nat.reduceAdd, Nat.reduceMul, Nat.reduceSub, Nat.reduceLeDiff, Nat.reduceLT, reduceIte, reduceCtorEq, Int.reduceToNat, Int.reduceLE, Int.reduceLT, Int.reduceNeg, Int.toNat_natCast, Option.getD_some, List.take_length, List.getD_nil, Int.natCast_nonneg, List.length_map, Bool.not_not, and_self, Bool.and_eq_false_iff, Int.cast_ofNat_Int, Int.reduceAdd, Int.reduceSub, Int.reduceMul, Int.reduceEq, Int.reduceNe]) rfl (fn19 j l ⟨x.part, i, x.at_⟩ (by omega)) (.inl rfl) trivial ?_
    simp only [go_sem, Nat.reduceEqDiff, Nat.reduceBEq, Nat.reduceAdd, Nat.reduceMul, Nat.reduceSub, Nat.reduceLeDiff, Nat.reduceLT, reduceIte, reduceCtorEq, Int.reduceToNat, Int.reduceLE, Int.reduceLT, Int.reduceNeg, Int.toNat_natCast, Option.getD_some, List.take_length, List.getD_nil, Int.natCast_nonneg, List.length_map, Bool.not_not, and_self, Bool.and_eq_false_iff, Int.cast_ofNat_Int, Int.reduceAdd, Int.reduceSub, Int.reduceMul, Int.reduceEq, Int.reduceNe]
    by_cases he : (feedR j l ⟨x.part, i, x.at_⟩).err = 0
    · have hfed := hg.fed (x := ⟨x.part, i, x.at_⟩) rfl he
      obtain ⟨fd, hg'⟩ := hfed
      have hni : (i : Int) ∉ tk := fun hm => by have := hg.lt _ hm; omega
      have hyoung := fired_young he
      have hfits := fired_at he
      have hwin := mayJ_win (checkJ_parts (feed_parts he).1).1
      have hcond := fired_ok he
      have hckl := feed_check he
      have hlens := feedR_len j l ⟨x.part, i, x.at_⟩
      generalize feedR j l ⟨x.part, i, x.at_⟩ = r at *
      simp only [go_sem, Nat.reduceEqDiff, Nat.reduceBEq, Nat.reduceAdd, Nat.reduceMul, Nat.reduceSub, Nat.reduceLeDiff, Nat.reduceLT, reduceIte, reduceCtorEq, Int.reduceToNat, Int.reduceLE, Int.reduceLT, Int.reduceNeg, Int.toNat_natCast, Option.getD_some, List.take_length, List.getD_nil, Int.natCast_nonneg, List.length_map, Bool.not_not, and_self, Bool.and_eq_false_iff, Int.cast_ofNat_Int, Int.reduceAdd, Int.reduceSub, Int.reduceMul, Int.reduceEq, Int.reduceNe, he, like_plc, mput_out hni]
      refine run_loop (T := Nat) (fun k => ⟨[(1, .pv (ks xs)), (2, .ptr 2 0), (6, .mp 23), (7, .pv (pI i)), (8, .ptr 8 0), (9, .pv (ks r.left)), (10, .pv (ks r.fired)), (11, .pv (ks r.over)), (13, .pv (pI k))],
        [(2, .box [.pv (pS j.kind), .pv (pI j.parts), .pv (pI j.need), .pv (pI j.window)]), (8, .box [.pv (pI x.part), .pv (pU i), .pv (pI x.at_)]), (23, .mp (plc (tk ++ [(i : Int)]) (updT (put1 st i) r.over k 2)))]⟩)
        (fun k => k ≤ r.over.length) (fun k => r.over.length - k) 0 ?_ (Nat.zero_le _) ?_
      · rw [updT_zero]; rfl
      intro k hk
      by_cases hko : k < r.over.length
      · have hin := fd.inO k hko
        have hat := updT_at (st := put1 st i) (v := 2) hko fd.ndO
        simp only [go_sem, Nat.reduceEqDiff, Nat.reduceBEq, Nat.reduceAdd, Nat.reduceMul, Nat.reduceSub, Nat.reduceLeDiff, Nat.reduceLT, reduceIte, reduceCtorEq, Int.reduceToNat, Int.reduceLE, Int.reduceLT, Int.reduceNeg, Int.toNat_natCast, Option.getD_some, List.take_length, List.getD_nil, Int.natCast_nonneg, List.length_map, Bool.not_not, and_self, Bool.and_eq_false_iff, Int.cast_ofNat_Int, Int.reduceAdd, Int.reduceSub, Int.reduceMul, Int.reduceEq, Int.reduceNe, B5_1, show (k : Int) < (r.over.length : Int) by omega, wf_ks, getD_ks hko, like_plc, lkp_plc hin.1, hat, hin.2, mput_in hin.1 fd.nd, updT_succ hko]
        exact ⟨⟨by omega, by omega⟩, k + 1, rfl, by omega, by omega⟩
      · have hke : k = r.over.length := by omega
        subst hke
        simp only [go_sem, Nat.reduceEqDiff, Nat.reduceBEq, Nat.reduceAdd, Nat.reduceMul, Nat.reduceSub, Nat.reduceLeDiff, Nat.reduceLT, reduceIte, reduceCtorEq, Int.reduceToNat, Int.reduceLE, Int.reduceLT, Int.reduceNeg, Int.toNat_natCast, Option.getD_some, List.take_length, List.getD_nil, Int.natCast_nonneg, List.length_map, Bool.not_not, and_self, Bool.and_eq_false_iff, Int.cast_ofNat_Int, Int.reduceAdd, Int.reduceSub, Int.reduceMul, Int.reduceEq, Int.reduceNe, B5_1, R5_1, show ¬ ((r.over.length : Int) < (r.over.length : Int)) by omega]
        refine run_loop (T := Nat) (fun k => ⟨[(1, .pv (ks xs)), (2, .ptr 2 0), (6, .mp 23), (7, .pv (pI i)), (8, .ptr 8 0), (9, .pv (ks r.left)), (10, .pv (ks r.fired)), (14, .mp 75), (15, .pv (pI k))],
          [(2, .box [.pv (pS j.kind), .pv (pI j.parts), .pv (pI j.need), .pv (pI j.window)]), (8, .box [.pv (pI x.part), .pv (pU i), .pv (pI x.at_)]), (23, .mp (plc (tk ++ [(i : Int)]) (updT (updT (put1 st i) r.over r.over.length 2) r.fired k 3))), (75, .mp (pm (dd r.fired k)))]⟩)
          (fun k => k ≤ r.fired.length) (fun k => r.fired.length - k) 0 ?_ (Nat.zero_le _) ?_
        · rw [updT_zero]; rfl
        intro k hk
        by_cases hkf : k < r.fired.length
        · have hin := fd.inF k hkf
          have hat := updT_at (st := updT (put1 st i) r.over r.over.length 2) (v := 3) hkf fd.ndF
          have hmf : r.fired.getD k default ∈ r.fired := by rw [getD_get hkf]; exact List.getElem_mem hkf
          have hy := hyoung _ hmf
          have hfa := hfits _ hmf
          have hdd : addP (dd r.fired k) (r.fired.getD k default).part = dd r.fired (k + 1) := rfl
          simp only [go_sem, Nat.reduceEqDiff, Nat.reduceBEq, Nat.reduceAdd, Nat.reduceMul, Nat.reduceSub, Nat.reduceLeDiff, Nat.reduceLT, reduceIte, reduceCtorEq, Int.reduceToNat, Int.reduceLE, Int.reduceLT, Int.reduceNeg, Int.toNat_natCast, Option.getD_some, List.take_length, List.getD_nil, Int.natCast_nonneg, List.length_map, Bool.not_not, and_self, Bool.and_eq_false_iff, Int.cast_ofNat_Int, Int.reduceAdd, Int.reduceSub, Int.reduceMul, Int.reduceEq, Int.reduceNe, B5_2, show (k : Int) < (r.fired.length : Int) by omega, wf_ks, getD_ks hkf, like_plc, lkp_plc hin.1, hat, hin.2, mput_in hin.1 fd.nd, updT_succ hkf, hy, like_pm, mput_pm, hdd]
          exact ⟨⟨by omega, by omega⟩, ⟨by omega, by omega⟩, k + 1, rfl, by omega, by omega⟩
        · have hke : k = r.fired.length := by omega
          subst hke
          have hge : Gd j (i + 1) r.left (tk ++ [(i : Int)]) (updT (updT (put1 st i) r.over r.over.length 2) r.fired r.fired.length 3) := hg'
          by_cases hz : r.fired = []
          · simp only [go_sem, Nat.reduceEqDiff, Nat.reduceBEq, Nat.reduceAdd, Nat.reduceMul, Nat.reduceSub, Nat.reduceLeDiff, Nat.reduceLT, reduceIte, reduceCtorEq, Int.reduceToNat, Int.reduceLE, Int.reduceLT, Int.reduceNeg, Int.toNat_natCast, Option.getD_some, List.take_length, List.getD_nil, Int.natCast_nonneg, List.length_map, Bool.not_not, and_self, Bool.and_eq_false_iff, Int.cast_ofNat_Int, Int.reduceAdd, Int.reduceSub, Int.reduceMul, Int.reduceEq, Int.reduceNe, B5_2, R5_2, show ¬ ((r.fired.length : Int) < (r.fired.length : Int)) by omega, show ¬ ((0 : Int) < (r.fired.length : Int)) by rw [hz]; simp, pm_len, fAll, fAny, fCount]
            exact ⟨⟨by omega, by omega⟩, ⟨i + 1, r.left, tk ++ [(i : Int)], _⟩, rfl, ⟨by simp only; omega, by simp only; omega, hge⟩, by simp only; omega⟩
          · have hpos : (0 : Int) < (r.fired.length : Int) := by
              have := List.length_pos_iff.2 hz
              omega
            obtain ⟨q1, q2, q3⟩ := hcond hz
            have d1 : j.kind = sAll → ((dd r.fired r.fired.length).length : Int) = (r.fired.length : Int) := fun hk => by
              rw [dd_nodup (q1 hk).2 _ (Nat.le_refl _)]; simp
            by_cases k1 : j.kind = sAll
            · have k2 : ¬ j.kind = sAny := fun h => ne_AY (k1 ▸ h)
              have k3 : ¬ j.kind = sCount := fun h => ne_AC (k1 ▸ h)
              simp only [go_sem, Nat.reduceEqDiff, Nat.reduceBEq, Nat.reduceAdd, Nat.reduceMul, Nat.reduceSub, Nat.reduceLeDiff, Nat.reduceLT, reduceIte, reduceCtorEq, Int.reduceToNat, Int.reduceLE, Int.reduceLT, Int.reduceNeg, Int.toNat_natCast, Option.getD_some, List.take_length, List.getD_nil, Int.natCast_nonneg, List.length_map, Bool.not_not, and_self, Bool.and_eq_false_iff, Int.cast_ofNat_Int, Int.reduceAdd, Int.reduceSub, Int.reduceMul, Int.reduceEq, Int.reduceNe, B5_2, R5_2, show ¬ ((r.fired.length : Int) < (r.fired.length : Int)) by omega, hpos, pm_len, fAll, fAny, fCount, eq_true k1, eq_false k2, eq_false k3, eq_true (q1 k1).1, eq_true (d1 k1)]
              exact ⟨⟨by omega, by omega⟩, ⟨i + 1, r.left, tk ++ [(i : Int)], _⟩, rfl, ⟨by simp only; omega, by simp only; omega, hge⟩, by simp only; omega⟩
            by_cases k2 : j.kind = sAny
            · have k3 : ¬ j.kind = sCount := fun h => ne_YC (k2 ▸ h)
              have q2' : (r.fired.length : Int) = 1 := by rw [q2 k2]; rfl
              simp only [go_sem, Nat.reduceEqDiff, Nat.reduceBEq, Nat.reduceAdd, Nat.reduceMul, Nat.reduceSub, Nat.reduceLeDiff, Nat.reduceLT, reduceIte, reduceCtorEq, Int.reduceToNat, Int.reduceLE, Int.reduceLT, Int.reduceNeg, Int.toNat_natCast, Option.getD_some, List.take_length, List.getD_nil, Int.natCast_nonneg, List.length_map, Bool.not_not, and_self, Bool.and_eq_false_iff, Int.cast_ofNat_Int, Int.reduceAdd, Int.reduceSub, Int.reduceMul, Int.reduceEq, Int.reduceNe, B5_2, R5_2, show ¬ ((r.fired.length : Int) < (r.fired.length : Int)) by omega, hpos, pm_len, fAll, fAny, fCount, eq_false k1, eq_true k2, eq_false k3, eq_true q2']
              exact ⟨⟨by omega, by omega⟩, ⟨i + 1, r.left, tk ++ [(i : Int)], _⟩, rfl, ⟨by simp only; omega, by simp only; omega, hge⟩, by simp only; omega⟩
            by_cases k3 : j.kind = sCount
            · simp only [go_sem, Nat.reduceEqDiff, Nat.reduceBEq, Nat.reduceAdd, Nat.reduceMul, Nat.reduceSub, Nat.reduceLeDiff, Nat.reduceLT, reduceIte, reduceCtorEq, Int.reduceToNat, Int.reduceLE, Int.reduceLT, Int.reduceNeg, Int.toNat_natCast, Option.getD_some, List.take_length, List.getD_nil, Int.natCast_nonneg, List.length_map, Bool.not_not, and_self, Bool.and_eq_false_iff, Int.cast_ofNat_Int, Int.reduceAdd, Int.reduceSub, Int.reduceMul, Int.reduceEq, Int.reduceNe, B5_2, R5_2, show ¬ ((r.fired.length : Int) < (r.fired.length : Int)) by omega, hpos, pm_len, fAll, fAny, fCount, eq_false k1, eq_false k2, eq_true k3, eq_true (q3 k3)]
              exact ⟨⟨by omega, by omega⟩, ⟨i + 1, r.left, tk ++ [(i : Int)], _⟩, rfl, ⟨by simp only; omega, by simp only; omega, hge⟩, by simp only; omega⟩
            · simp only [go_sem, Nat.reduceEqDiff, Nat.reduceBEq, Nat.reduceAdd, Nat.reduceMul, Nat.reduceSub, Nat.reduceLeDiff, Nat.reduceLT, reduceIte, reduceCtorEq, Int.reduceToNat, Int.reduceLE, Int.reduceLT, Int.reduceNeg, Int.toNat_natCast, Option.getD_some, List.take_length, List.getD_nil, Int.natCast_nonneg, List.length_map, Bool.not_not, and_self, Bool.and_eq_false_iff, Int.cast_ofNat_Int, Int.reduceAdd, Int.reduceSub, Int.reduceMul, Int.reduceEq, Int.reduceNe, B5_2, R5_2, show ¬ ((r.fired.length : Int) < (r.fired.length : Int)) by omega, hpos, pm_len, fAll, fAny, fCount, eq_false k1, eq_false k2, eq_false k3]
              exact ⟨⟨by omega, by omega⟩, ⟨i + 1, r.left, tk ++ [(i : Int)], _⟩, rfl, ⟨by simp only; omega, by simp only; omega, hge⟩, by simp only; omega⟩
    · simp only [go_sem, Nat.reduceEqDiff, Nat.reduceBEq, Nat.reduceAdd, Nat.reduceMul, Nat.reduceSub, Nat.reduceLeDiff, Nat.reduceLT, reduceIte, reduceCtorEq, Int.reduceToNat, Int.reduceLE, Int.reduceLT, Int.reduceNeg, Int.toNat_natCast, Option.getD_some, List.take_length, List.getD_nil, Int.natCast_nonneg, List.length_map, Bool.not_not, and_self, Bool.and_eq_false_iff, Int.cast_ofNat_Int, Int.reduceAdd, Int.reduceSub, Int.reduceMul, Int.reduceEq, Int.reduceNe, he]
      exact ⟨⟨by omega, by omega⟩, ⟨i + 1, l, tk, st⟩, rfl, ⟨by simp only; omega, by simp only; omega, hg.next⟩, by simp only; omega⟩
  · by_cases hil : i < xs.length
    · have hi6 : ¬ (i : Int) < 60 := by omega
      simp only [go_sem, Nat.reduceEqDiff, Nat.reduceBEq, Nat.reduceAdd, Nat.reduceMul, Nat.reduceSub, Nat.reduceLeDiff, Nat.reduceLT, reduceIte, reduceCtorEq, Int.reduceToNat, Int.reduceLE, Int.reduceLT, Int.reduceNeg, Int.toNat_natCast, Option.getD_some, List.take_length, List.getD_nil, Int.natCast_nonneg, List.length_map, Bool.not_not, and_self, Bool.and_eq_false_iff, Int.cast_ofNat_Int, Int.reduceAdd, Int.reduceSub, Int.reduceMul, Int.reduceEq, Int.reduceNe, B5_0, show (i : Int) < (xs.length : Int) by omega, hi6]
      exact rest5 jj.pv j xs i l tk st hg
    · simp only [go_sem, Nat.reduceEqDiff, Nat.reduceBEq, Nat.reduceAdd, Nat.reduceMul, Nat.reduceSub, Nat.reduceLeDiff, Nat.reduceLT, reduceIte, reduceCtorEq, Int.reduceToNat, Int.reduceLE, Int.reduceLT, Int.reduceNeg, Int.toNat_natCast, Option.getD_some, List.take_length, List.getD_nil, Int.natCast_nonneg, List.length_map, Bool.not_not, and_self, Bool.and_eq_false_iff, Int.cast_ofNat_Int, Int.reduceAdd, Int.reduceSub, Int.reduceMul, Int.reduceEq, Int.reduceNe, B5_0, show ¬ (i : Int) < (xs.length : Int) by omega]
      exact rest5 jj.pv j xs i l tk st hg
end Go.Vc
