/- A part of the proofs of the seat Ytjlmnegbgmpekaa: the contracts of functions, each proved out of its code. -/
import Derived.Test.YtjlmnegbgmpekaaWc
import Derived.Test.YtjlmnegbgmpekaaProg
import Derived.Test.YtjlmnegbgmpekaaWe
namespace Go.Vc
open Go.Proofs
set_option maxRecDepth 100000

/-- 'trystlaw15.OutboxKeeps' -/
def B6_0 : MC := (.seq (.seq (.reg [⟨(some 27), none, (.q (.mv (.t 7)))⟩, ⟨(some 28), none, (.q (.mv (.t 6)))⟩, ⟨(some 29), none, (.q (.bin .leq (.t 27) (.t 28)))⟩] [] [1, 5, 6, 7, 29] [1041, 1122,
  1136]) (.cond (.t 29) .skip (.exit 0))) (.seq (.block 1 (.seq (.reg [⟨(some 33), none, (.q (.mv (.t 5)))⟩, ⟨(some 34), none, (.q (.mv (.t 7)))⟩, ⟨(some 35), none, (.q (.conv .u64 (.t 34)))⟩,
  ⟨(some 36), none, (.q (.mv (.t 7)))⟩, ⟨(some 37), none, (.q (.bin .add (.c (.int .i64 100)) (.t 36)))⟩, ⟨(some 38), none, (.q (.conv .u64 (.t 37)))⟩, ⟨(some 39), none, (.lits [(.t 38)] 1)⟩,
  ⟨(some 40), none, (.q (.mk [(.pv (.sc (.int .u64 0))), (.pv (.sc (.string ⟨#[]⟩))), .e0, (.pv (.sc (.int .i64 0))), (.pv (.sc (.int .i64 0)))] [(0, 1, (.t 35)), (1, 1, (.c (.string ⟨#[115]⟩))), (2,
  1, (.t 39))]))⟩, ⟨(some 41), none, (.call (.f 25) [(.t 33), (.t 40)])⟩, ⟨(some 32), none, (.q (.mv (.t 41)))⟩, ⟨(some 42), none, (.q (.ext (.t 32) 0))⟩, ⟨(some 43), none, (.q (.ext (.t 32) 1))⟩,
  ⟨(some 8), none, (.q (.mv (.t 42)))⟩, ⟨(some 9), none, (.q (.mv (.t 43)))⟩] [] [1, 6, 7, 8, 9] [1041]) (.seq (.seq (.reg [⟨(some 44), none, (.q (.mv (.t 9)))⟩, ⟨(some 45), none,
  (.q (.bin .neq (.t 44) (.c (.int .i64 0))))⟩] [] [1, 6, 7, 8, 45] [1041]) (.cond (.t 45) (.seq (.reg [⟨(some 4), none, (.q (.mv (.c (.bool false))))⟩] [] [4] [1182]) .ret) .skip)) (.reg [⟨(some 46),
  none, (.q (.mv (.t 8)))⟩, ⟨(some 5), none, (.q (.mv (.t 46)))⟩] [] [1, 5, 6, 7] [1041, 1122, 1136])))) (.reg [⟨(some 30), none, (.q (.mv (.t 7)))⟩, ⟨(some 31), none, (.q (.bin .add (.t 30)
  (.c (.int .i64 1))))⟩, ⟨(some 7), none, (.q (.mv (.t 31)))⟩] [] [1, 5, 6, 7] [1041, 1122, 1136])))
def B6_2 : MC := (.seq (.seq (.reg [⟨(some 161), none, (.q (.mv (.t 22)))⟩, ⟨(some 162), none, (.q (.mv (.t 6)))⟩, ⟨(some 163), none, (.q (.bin .leq (.t 161) (.t 162)))⟩] [] [1, 5, 6, 10, 11, 12, 13,
  21, 22, 163] [47, 48, 1041, 1122, 1136]) (.cond (.t 163) .skip (.exit 4))) (.seq (.block 5 (.seq (.reg [⟨(some 166), none, (.q (.mv (.t 11)))⟩, ⟨(some 167), none, (.q (.mv (.t 22)))⟩, ⟨(some 168),
  none, (.q (.conv .u64 (.t 167)))⟩, ⟨(some 169), none, (.q (.mget (.t 166) (.t 168) false Kk.int (.pv (.sc (.bool false)))))⟩, ⟨(some 170), none, (.q (.not (.t 169)))⟩] [] [1, 5, 6, 10, 11, 12, 13,
  21, 22, 170] [47, 48, 1041, 1122, 1136]) (.cond (.t 170) (.reg [⟨(some 171), none, (.q (.mv (.t 21)))⟩, ⟨(some 172), none, (.q (.bin .add (.t 171) (.c (.int .i64 1))))⟩, ⟨(some 21), none,
  (.q (.mv (.t 172)))⟩] [] [1, 5, 6, 10, 11, 12, 13, 21, 22] [47, 48, 1041, 1122, 1136]) .skip))) (.reg [⟨(some 164), none, (.q (.mv (.t 22)))⟩, ⟨(some 165), none, (.q (.bin .add (.t 164)
  (.c (.int .i64 1))))⟩, ⟨(some 22), none, (.q (.mv (.t 165)))⟩] [] [1, 5, 6, 10, 11, 12, 13, 21, 22] [47, 48, 1041, 1122, 1136])))
def R6_2 : MC := (.seq (.reg [⟨(some 173), none, (.q (.mv (.t 5)))⟩, ⟨(some 174), none, (.q (.len (.t 173) false))⟩, ⟨(some 175), none, (.q (.mv (.t 21)))⟩, ⟨(some 176), none, (.q (.bin .neq (.t 174)
  (.t 175)))⟩, ⟨(some 177), none, (.q (.mv (.t 176)))⟩, ⟨(some 178), (some (177, false)), (.q (.mv (.t 5)))⟩, ⟨(some 179), (some (177, false)), (.call (.f 33) [(.t 178)])⟩, ⟨(some 180), (some (177,
  false)), (.q (.bin .neq (.t 179) (.c (.int .i64 0))))⟩, ⟨(some 181), none, (.q (.pick (.t 177) (.c (.bool true)) (.t 180)))⟩] [] [1, 5, 6, 10, 11, 12, 13, 181] [47, 48, 1041, 1122, 1136, 1179])
  (.cond (.t 181) (.seq (.reg [⟨(some 4), none, (.q (.mv (.c (.bool false))))⟩] [] [4] [1182]) .ret) .skip))
def B6_1 : MC := (.seq (.seq (.reg [⟨(some 49), none, (.q (.mv (.t 13)))⟩, ⟨(some 50), none, (.q (.mv (.t 1)))⟩, ⟨(some 51), none, (.q (.len (.t 50) false))⟩, ⟨(some 52), none, (.q (.bin .lss (.t 49)
  (.t 51)))⟩, ⟨(some 53), none, (.q (.mv (.t 52)))⟩, ⟨(some 54), (some (53, true)), (.q (.mv (.t 13)))⟩, ⟨(some 55), (some (53, true)), (.q (.bin .lss (.t 54) (.c (.int .i64 120))))⟩, ⟨(some 56),
  none, (.q (.pick (.t 53) (.t 55) (.c (.bool false))))⟩] [] [1, 5, 6, 10, 11, 12, 13, 56] [47, 48, 1041, 1122, 1136]) (.cond (.t 56) .skip (.exit 2))) (.seq (.block 3 (.seq (.reg [⟨(some 59), none,
  (.q (.mv (.t 12)))⟩, ⟨(some 60), none, (.q (.mv (.t 1)))⟩, ⟨(some 61), none, (.q (.mv (.t 13)))⟩, ⟨(some 62), none, (.q (.ia (.t 60) (.t 61) 1))⟩, ⟨(some 63), none, (.q (.ld (.t 62) 1 false))⟩,
  ⟨(some 64), none, (.q (.bin .quo (.t 63) (.c (.int .u8 64))))⟩, ⟨(some 65), none, (.q (.conv .i64 (.t 64)))⟩, ⟨(some 66), none, (.q (.bin .add (.t 59) (.t 65)))⟩, ⟨(some 12), none,
  (.q (.mv (.t 66)))⟩] [] [1, 5, 6, 10, 11, 12, 13] [47, 48, 1041, 1122, 1136]) (.seq (.reg [⟨(some 68), none, (.q (.mv (.t 5)))⟩, ⟨(some 69), none, (.q (.mv (.t 12)))⟩, ⟨(some 70), none,
  (.call (.f 28) [(.t 68), (.t 69)])⟩, ⟨(some 67), none, (.q (.mv (.t 70)))⟩, ⟨(some 71), none, (.q (.ext (.t 67) 0))⟩, ⟨(some 72), none, (.q (.ext (.t 67) 1))⟩, ⟨(some 14), none,
  (.alloc [(.pv (.sc (.int .u64 0))), (.pv (.sc (.string ⟨#[]⟩))), .e0, (.pv (.sc (.int .i64 0))), (.pv (.sc (.int .i64 0)))])⟩, ⟨none, none, (.st (.t 14) (.t 71) 5)⟩, ⟨(some 15), none,
  (.q (.mv (.t 72)))⟩] [] [1, 5, 6, 10, 11, 12, 13, 14, 15] [14, 47, 48, 1041, 1070, 1122, 1136]) (.seq (.seq (.reg [⟨(some 73), none, (.q (.mv (.t 15)))⟩, ⟨(some 74), none, (.q (.bin .neq (.t 73)
  (.c (.int .i64 0))))⟩] [] [1, 5, 6, 10, 11, 12, 13, 14, 74] [14, 47, 48, 1041, 1070, 1122, 1136]) (.cond (.t 74) (.seq (.reg [⟨(some 75), none, (.q (.mv (.t 12)))⟩, ⟨(some 76), none,
  (.q (.bin .add (.t 75) (.c (.int .i64 20))))⟩, ⟨(some 12), none, (.q (.mv (.t 76)))⟩] [] [1, 5, 6, 10, 11, 12, 13] [47, 48, 1041, 1122, 1136]) (.exit 3)) .skip)) (.seq (.seq (.reg [⟨(some 77), none,
  (.q (.mv (.t 11)))⟩, ⟨(some 78), none, (.q (.fa (.t 14) 0))⟩, ⟨(some 79), none, (.q (.ld (.t 78) 1 false))⟩, ⟨(some 80), none, (.q (.mget (.t 77) (.t 79) false Kk.int (.pv (.sc (.bool false)))))⟩,
  ⟨(some 81), none, (.q (.mv (.t 80)))⟩, ⟨(some 82), (some (81, false)), (.q (.fa (.t 14) 2))⟩, ⟨(some 83), (some (81, false)), (.q (.ld (.t 82) 1 false))⟩, ⟨(some 84), (some (81, false)),
  (.q (.len (.t 83) false))⟩, ⟨(some 85), (some (81, false)), (.q (.bin .neq (.t 84) (.c (.int .i64 1))))⟩, ⟨(some 86), none, (.q (.pick (.t 81) (.c (.bool true)) (.t 85)))⟩, ⟨(some 87), none,
  (.q (.mv (.t 86)))⟩, ⟨(some 88), (some (87, false)), (.q (.fa (.t 14) 2))⟩, ⟨(some 89), (some (87, false)), (.q (.ld (.t 88) 1 false))⟩, ⟨(some 90), (some (87, false)), (.q (.ia (.t 89)
  (.c (.int .i64 0)) 1))⟩, ⟨(some 91), (some (87, false)), (.q (.ld (.t 90) 1 false))⟩, ⟨(some 92), (some (87, false)), (.q (.fa (.t 14) 0))⟩, ⟨(some 93), (some (87, false)), (.q (.ld (.t 92)
  1 false))⟩, ⟨(some 94), (some (87, false)), (.q (.bin .add (.c (.int .u64 100)) (.t 93)))⟩, ⟨(some 95), (some (87, false)), (.q (.bin .neq (.t 91) (.t 94)))⟩, ⟨(some 96), none, (.q (.pick (.t 87)
  (.c (.bool true)) (.t 95)))⟩, ⟨(some 97), none, (.q (.mv (.t 96)))⟩, ⟨(some 98), (some (97, false)), (.q (.fa (.t 14) 4))⟩, ⟨(some 99), (some (97, false)), (.q (.ld (.t 98) 1 false))⟩, ⟨(some 100),
  (some (97, false)), (.q (.mv (.t 12)))⟩, ⟨(some 101), (some (97, false)), (.q (.bin .gtr (.t 99) (.t 100)))⟩, ⟨(some 102), none, (.q (.pick (.t 97) (.c (.bool true)) (.t 101)))⟩, ⟨(some 103), none,
  (.q (.mv (.t 102)))⟩, ⟨(some 104), (some (103, false)), (.q (.fa (.t 14) 3))⟩, ⟨(some 105), (some (103, false)), (.q (.ld (.t 104) 1 false))⟩, ⟨(some 106), (some (103, false)), (.q (.mv (.t 10)))⟩,
  ⟨(some 107), (some (103, false)), (.q (.fa (.t 14) 0))⟩, ⟨(some 108), (some (103, false)), (.q (.ld (.t 107) 1 false))⟩, ⟨(some 109), (some (103, false)), (.q (.mget (.t 106) (.t 108)
  false Kk.int (.pv (.sc (.int .i64 0)))))⟩, ⟨(some 110), (some (103, false)), (.q (.bin .neq (.t 105) (.t 109)))⟩, ⟨(some 111), none, (.q (.pick (.t 103) (.c (.bool true)) (.t 110)))⟩] [] [1, 5, 6,
  10, 11, 12, 13, 14, 111] [14, 47, 48, 1041, 1070, 1122, 1136]) (.cond (.t 111) (.seq (.reg [⟨(some 4), none, (.q (.mv (.c (.bool false))))⟩] [] [4] [1182]) .ret) .skip))
  (.seq (.seq (.reg [⟨(some 112), none, (.q (.mv (.t 1)))⟩, ⟨(some 113), none, (.q (.mv (.t 13)))⟩, ⟨(some 114), none, (.q (.ia (.t 112) (.t 113) 1))⟩, ⟨(some 115), none, (.q (.ld (.t 114) 1 false))⟩,
  ⟨(some 116), none, (.q (.bin .rem (.t 115) (.c (.int .u8 3))))⟩, ⟨(some 117), none, (.q (.bin .eql (.t 116) (.c (.int .u8 0))))⟩] [] [1, 5, 6, 10, 11, 12, 13, 14, 117] [14, 47, 48, 1041, 1070, 1122,
  1136]) (.cond (.t 117) (.seq (.reg [⟨(some 119), none, (.q (.mv (.t 5)))⟩, ⟨(some 120), none, (.q (.fa (.t 14) 0))⟩, ⟨(some 121), none, (.q (.ld (.t 120) 1 false))⟩, ⟨(some 122), none,
  (.call (.f 21) [(.t 119), (.t 121)])⟩, ⟨(some 118), none, (.q (.mv (.t 122)))⟩, ⟨(some 123), none, (.q (.ext (.t 118) 0))⟩, ⟨(some 124), none, (.q (.ext (.t 118) 1))⟩, ⟨(some 16), none,
  (.q (.mv (.t 123)))⟩, ⟨(some 17), none, (.q (.mv (.t 124)))⟩] [] [1, 6, 10, 11, 12, 13, 14, 16, 17] [14, 47, 48, 1070, 1122]) (.seq (.seq (.reg [⟨(some 125), none, (.q (.mv (.t 17)))⟩, ⟨(some 126),
  none, (.q (.bin .neq (.t 125) (.c (.int .i64 0))))⟩] [] [1, 6, 10, 11, 12, 13, 14, 16, 126] [14, 47, 48, 1070, 1122]) (.cond (.t 126) (.seq (.reg [⟨(some 4), none,
  (.q (.mv (.c (.bool false))))⟩] [] [4] [1182]) .ret) .skip)) (.seq (.reg [⟨(some 127), none, (.q (.mv (.t 16)))⟩, ⟨(some 5), none, (.q (.mv (.t 127)))⟩] [] [1, 5, 6, 10, 11, 12, 13, 14] [14, 47, 48,
  1041, 1070, 1122, 1136]) (.reg [⟨(some 128), none, (.q (.mv (.t 11)))⟩, ⟨(some 129), none, (.q (.fa (.t 14) 0))⟩, ⟨(some 130), none, (.q (.ld (.t 129) 1 false))⟩, ⟨none, none, (.mset (.t 128)
  (.t 130) (.c (.bool true)) Kk.int)⟩] [] [1, 5, 6, 10, 11, 12, 13] [47, 48, 1041, 1122, 1136])))) (.seq (.reg [⟨(some 132), none, (.q (.mv (.t 5)))⟩, ⟨(some 133), none, (.q (.fa (.t 14) 0))⟩,
  ⟨(some 134), none, (.q (.ld (.t 133) 1 false))⟩, ⟨(some 135), none, (.q (.mv (.t 12)))⟩, ⟨(some 136), none, (.call (.f 27) [(.t 132), (.t 134), (.t 135)])⟩, ⟨(some 131), none, (.q (.mv (.t 136)))⟩,
  ⟨(some 137), none, (.q (.ext (.t 131) 0))⟩, ⟨(some 138), none, (.q (.ext (.t 131) 1))⟩, ⟨(some 139), none, (.q (.ext (.t 131) 2))⟩, ⟨(some 18), none, (.q (.mv (.t 137)))⟩, ⟨(some 19), none,
  (.q (.mv (.t 138)))⟩, ⟨(some 20), none, (.q (.mv (.t 139)))⟩] [] [1, 6, 10, 11, 12, 13, 14, 18, 19, 20] [14, 47, 48, 1070, 1136]) (.seq (.reg [⟨(some 140), none, (.q (.mv (.t 10)))⟩, ⟨(some 141),
  none, (.q (.fa (.t 14) 0))⟩, ⟨(some 142), none, (.q (.ld (.t 141) 1 false))⟩, ⟨(some 143), none, (.q (.mget (.t 140) (.t 142) false Kk.int (.pv (.sc (.int .i64 0)))))⟩, ⟨(some 144), none,
  (.q (.bin .add (.t 143) (.c (.int .i64 1))))⟩, ⟨none, none, (.mset (.t 140) (.t 142) (.t 144) Kk.int)⟩] [] [1, 6, 10, 11, 12, 13, 14, 18, 19, 20] [14, 47, 48, 1070, 1136])
  (.seq (.seq (.reg [⟨(some 145), none, (.q (.mv (.t 20)))⟩, ⟨(some 146), none, (.q (.bin .neq (.t 145) (.c (.int .i64 0))))⟩, ⟨(some 147), none, (.q (.mv (.t 146)))⟩, ⟨(some 148), (some (147,
  false)), (.q (.mv (.t 19)))⟩, ⟨(some 149), (some (147, false)), (.q (.mv (.t 10)))⟩, ⟨(some 150), (some (147, false)), (.q (.fa (.t 14) 0))⟩, ⟨(some 151), (some (147, false)), (.q (.ld (.t 150)
  1 false))⟩, ⟨(some 152), (some (147, false)), (.q (.mget (.t 149) (.t 151) false Kk.int (.pv (.sc (.int .i64 0)))))⟩, ⟨(some 153), (some (147, false)), (.q (.bin .eql (.t 152) (.c (.int .i64 5))))⟩,
  ⟨(some 154), (some (147, false)), (.q (.beq true (.t 148) (.t 153)))⟩, ⟨(some 155), none, (.q (.pick (.t 147) (.c (.bool true)) (.t 154)))⟩] [] [1, 6, 10, 11, 12, 13, 14, 18, 19, 155] [14, 47, 48,
  1070, 1136]) (.cond (.t 155) (.seq (.reg [⟨(some 4), none, (.q (.mv (.c (.bool false))))⟩] [] [4] [1182]) .ret) .skip)) (.seq (.reg [⟨(some 156), none, (.q (.mv (.t 18)))⟩, ⟨(some 5), none,
  (.q (.mv (.t 156)))⟩] [] [1, 5, 6, 10, 11, 12, 13, 14, 19] [14, 47, 48, 1041, 1070, 1122, 1136]) (.reg [⟨(some 157), none, (.q (.mv (.t 11)))⟩, ⟨(some 158), none, (.q (.fa (.t 14) 0))⟩, ⟨(some 159),
  none, (.q (.ld (.t 158) 1 false))⟩, ⟨(some 160), none, (.q (.mv (.t 19)))⟩, ⟨none, none, (.mset (.t 157) (.t 159) (.t 160) Kk.int)⟩] [] [1, 5, 6, 10, 11, 12, 13] [47, 48, 1041, 1122, 1136])))))))
  (.seq (.reg [⟨(some 21), none, (.q (.mv (.c (.int .i64 0))))⟩] [] [1, 5, 6, 10, 11, 12, 13, 21] [47, 48, 1041, 1122, 1136]) (.seq (.seq (.reg [⟨(some 22), none,
  (.q (.mv (.c (.int .i64 1))))⟩] [] [1, 5, 6, 10, 11, 12, 13, 21, 22] [47, 48, 1041, 1122, 1136]) (.block 4 (.loop B6_2))) R6_2)))))))) (.reg [⟨(some 57), none, (.q (.mv (.t 13)))⟩, ⟨(some 58), none,
  (.q (.bin .add (.t 57) (.c (.int .i64 1))))⟩, ⟨(some 13), none, (.q (.mv (.t 58)))⟩] [] [1, 5, 6, 10, 11, 12, 13] [47, 48, 1041, 1122, 1136])))
def R6_1 : MC := (.seq (.reg [⟨(some 182), none, (.call (.f 22) [])⟩, ⟨(some 4), none, (.q (.mv (.t 182)))⟩] [] [4] [1182]) .ret)
def R6_0 : MC := (.seq (.reg [⟨(some 47), none, .mkm⟩, ⟨(some 10), none, (.q (.mv (.t 47)))⟩] [] [1, 5, 6, 10] [47, 1041, 1122, 1136]) (.seq (.reg [⟨(some 48), none, .mkm⟩, ⟨(some 11), none,
  (.q (.mv (.t 48)))⟩] [] [1, 5, 6, 10, 11] [47, 48, 1041, 1122, 1136]) (.seq (.reg [⟨(some 12), none, (.q (.mv (.c (.int .i64 0))))⟩] [] [1, 5, 6, 10, 11, 12] [47, 48, 1041, 1122, 1136])
  (.seq (.seq (.reg [⟨(some 13), none, (.q (.mv (.c (.int .i64 0))))⟩] [] [1, 5, 6, 10, 11, 12, 13] [47, 48, 1041, 1122, 1136]) (.block 2 (.loop B6_1))) R6_1))))
def M6 : MC := (.seq (.reg [⟨(some 4), none, (.q (.mv (.c (.bool false))))⟩] [] [0, 1] []) (.seq (.reg [⟨(some 5), none, (.q (.mv .nil))⟩] [(5, 6, 0)] [0, 1, 5] [1041, 1122, 1136])
  (.seq (.reg [⟨(some 23), none, (.q (.mv (.t 0)))⟩, ⟨(some 24), none, (.q (.bin .rem (.t 23) (.c (.int .u8 12))))⟩, ⟨(some 25), none, (.q (.conv .i64 (.t 24)))⟩, ⟨(some 26), none,
  (.q (.bin .add (.c (.int .i64 1)) (.t 25)))⟩, ⟨(some 6), none, (.q (.mv (.t 26)))⟩] [] [1, 5, 6] [1041, 1122, 1136]) (.seq (.seq (.reg [⟨(some 7), none, (.q (.mv (.c (.int .i64 1))))⟩] [] [1, 5, 6,
  7] [1041, 1122, 1136]) (.block 0 (.loop B6_0))) R6_0))))
theorem mc6 : ofCode Try.prog [] Try.f6.ntmps [(0, ⟨[0, 1], [], [], 0, [], none⟩),
    (1, ⟨[0, 1, 5], [1041, 1122, 1136], [], 0, [(5, 6, 0)], none⟩),
    (2, ⟨[1, 5, 6], [1041, 1122, 1136], [], 0, [], none⟩),
    (3, ⟨[1, 5, 6, 7], [1041, 1122, 1136], [], 0, [], none⟩),
    (4, ⟨[1, 5, 6, 7, 29], [1041, 1122, 1136], [], 0, [], none⟩),
    (5, ⟨[1, 5, 6, 7], [1041, 1122, 1136], [], 0, [], none⟩),
    (6, ⟨[1, 6, 7, 8, 9], [1041], [], 0, [], none⟩),
    (7, ⟨[1, 6, 7, 8, 45], [1041], [], 0, [], none⟩),
    (8, ⟨[4], [1182], [], 0, [], none⟩),
    (9, ⟨[1, 5, 6, 7], [1041, 1122, 1136], [], 0, [], none⟩),
    (10, ⟨[1, 5, 6, 10], [47, 1041, 1122, 1136], [], 0, [], none⟩),
    (11, ⟨[1, 5, 6, 10, 11], [47, 48, 1041, 1122, 1136], [], 0, [], none⟩),
    (12, ⟨[1, 5, 6, 10, 11, 12], [47, 48, 1041, 1122, 1136], [], 0, [], none⟩),
    (13, ⟨[1, 5, 6, 10, 11, 12, 13], [47, 48, 1041, 1122, 1136], [], 0, [], none⟩),
    (14, ⟨[1, 5, 6, 10, 11, 12, 13, 56], [47, 48, 1041, 1122, 1136], [], 0, [], none⟩),
    (15, ⟨[1, 5, 6, 10, 11, 12, 13], [47, 48, 1041, 1122, 1136], [], 0, [], none⟩),
    (16, ⟨[1, 5, 6, 10, 11, 12, 13], [47, 48, 1041, 1122, 1136], [], 0, [], none⟩),
    (17, ⟨[1, 5, 6, 10, 11, 12, 13, 14, 15], [14, 47, 48, 1041, 1070, 1122, 1136], [], 0, [], none⟩),
    (18, ⟨[1, 5, 6, 10, 11, 12, 13, 14, 74], [14, 47, 48, 1041, 1070, 1122, 1136], [], 0, [], none⟩),
    (19, ⟨[1, 5, 6, 10, 11, 12, 13], [47, 48, 1041, 1122, 1136], [], 0, [], none⟩),
    (20, ⟨[1, 5, 6, 10, 11, 12, 13, 14, 111], [14, 47, 48, 1041, 1070, 1122, 1136], [(0, 34359738361), (1, 34359738366), (2, 34359738364), (3, 34359738360), (4, 34359738352), (5, 34359738336), (6, 34359738304), (7, 34359738240), (8, 34359738112), (9, 34359737856), (10, 34359737344), (11, 34359506944), (12, 34359504896), (13, 34359500800), (14, 34359492608), (15, 34359705600), (16, 34359672832), (17, 34359607296), (18, 34359476224), (19, 34359214080), (20, 34358689792), (21, 34349252608), (22, 34347155456), (23, 34351349760), (24, 34342961152), (25, 34326183936), (26, 34292629504), (27, 26172456960), (28, 26038239232), (29, 30601641984), (30, 33285996544), (31, 32212254720), (32, 30064771072), (33, 25769803776), (34, 17179869184)], 34359738367, [], none⟩),
    (21, ⟨[4], [1182], [], 0, [], none⟩),
    (22, ⟨[1, 5, 6, 10, 11, 12, 13, 14, 117], [14, 47, 48, 1041, 1070, 1122, 1136], [], 0, [], none⟩),
    (23, ⟨[1, 6, 10, 11, 12, 13, 14, 16, 17], [14, 47, 48, 1070, 1122], [], 0, [], none⟩),
    (24, ⟨[1, 6, 10, 11, 12, 13, 14, 16, 126], [14, 47, 48, 1070, 1122], [], 0, [], none⟩),
    (25, ⟨[4], [1182], [], 0, [], none⟩),
    (26, ⟨[1, 5, 6, 10, 11, 12, 13, 14], [14, 47, 48, 1041, 1070, 1122, 1136], [], 0, [], none⟩),
    (27, ⟨[1, 5, 6, 10, 11, 12, 13], [47, 48, 1041, 1122, 1136], [], 0, [], none⟩),
    (28, ⟨[1, 6, 10, 11, 12, 13, 14, 18, 19, 20], [14, 47, 48, 1070, 1136], [], 0, [], none⟩),
    (29, ⟨[1, 6, 10, 11, 12, 13, 14, 18, 19, 20], [14, 47, 48, 1070, 1136], [], 0, [], none⟩),
    (30, ⟨[1, 6, 10, 11, 12, 13, 14, 18, 19, 155], [14, 47, 48, 1070, 1136], [], 0, [], none⟩),
    (31, ⟨[4], [1182], [], 0, [], none⟩),
    (32, ⟨[1, 5, 6, 10, 11, 12, 13, 14, 19], [14, 47, 48, 1041, 1070, 1122, 1136], [], 0, [], none⟩),
    (33, ⟨[1, 5, 6, 10, 11, 12, 13], [47, 48, 1041, 1122, 1136], [], 0, [], none⟩),
    (34, ⟨[1, 5, 6, 10, 11, 12, 13, 21], [47, 48, 1041, 1122, 1136], [], 0, [], none⟩),
    (35, ⟨[1, 5, 6, 10, 11, 12, 13, 21, 22], [47, 48, 1041, 1122, 1136], [], 0, [], none⟩),
    (36, ⟨[1, 5, 6, 10, 11, 12, 13, 21, 22, 163], [47, 48, 1041, 1122, 1136], [], 0, [], none⟩),
    (37, ⟨[1, 5, 6, 10, 11, 12, 13, 21, 22], [47, 48, 1041, 1122, 1136], [], 0, [], none⟩),
    (38, ⟨[1, 5, 6, 10, 11, 12, 13, 21, 22, 170], [47, 48, 1041, 1122, 1136], [], 0, [], none⟩),
    (39, ⟨[1, 5, 6, 10, 11, 12, 13, 21, 22], [47, 48, 1041, 1122, 1136], [], 0, [], none⟩),
    (40, ⟨[1, 5, 6, 10, 11, 12, 13, 181], [47, 48, 1041, 1122, 1136, 1179], [], 0, [], none⟩),
    (41, ⟨[4], [1182], [], 0, [], none⟩),
    (42, ⟨[4], [1182], [], 0, [], none⟩)] (Try.f6.body.getD .skip) = some M6 := by kernel_rfl
theorem Run6 {args : List PV} {v : AV} {rs : List (Nat × List PV)} (ids : List Bool) (h : args.length ≤ 183) (hv : run Try.prog (retK [RV.tmp 4] ids v rs) M6 [] ⟨entry 0 args, []⟩) : Fn Try.prog 6 args v rs :=
  Fn_run ids (by kernel_rfl) Try.func6 (by decide) rfl mc6 (by kernel_rfl) (by rw [Try.ntmps6]; exact h) (by rw [Try.ntmps6]; decide) hv

end Go.Vc

namespace Go.Vc
open Go.Proofs
set_option linter.unusedSimpArgs false
set_option linter.unusedVariables false

/-! ## 'OutboxKeeps' -/
abbrev aK (j : Nat) : Ot := ⟨(j : Int) + 1, sS, [100 + ((j : Int) + 1)], 0, 0⟩
def addK (m : Nat) : List Ot := (List.range m).map aK
theorem addK_add : ∀ m, m < 12 → addO (addK m) (aK m) = (addK (m + 1), 0) := by decide +kernel
theorem addK_check : ∀ m, m ≤ 12 → checkO (addK m) = true := by decide +kernel
theorem addK_len (m : Nat) : (addK m).length = m := by simp [addK]
/-- a map with whole numbers for keys -/
def pmF {α : Type} (f : α → PV) (es : List (Int × α)) : List (PV × PV) := es.map fun e => (pU e.1, f e.2)
def lkF {α : Type} (n : Int) : List (Int × α) → Option α
  | [] => none
  | e :: es => if n = e.1 then some e.2 else lkF n es
def upF {α : Type} (n : Int) (v : α) : List (Int × α) → List (Int × α)
  | [] => [(n, v)]
  | e :: es => if n = e.1 then (e.1, v) :: es else e :: upF n v es
theorem lkp_pmF {α : Type} (f : α → PV) (n : Int) : ∀ es : List (Int × α), lkp (pU n) (pmF f es) = (lkF n es).map f
  | [] => rfl
  | e :: es => by
    have ih := lkp_pmF f n es
    simp only [pmF] at ih
    by_cases h : n = e.1 <;> simp [pmF, lkp, lkF, keyEq, h, ih]
theorem like_pmF {α : Type} (f : α → PV) (n : Int) : ∀ es : List (Int × α), keysLike .int (pU n) (pmF f es)
  | [] => trivial
  | k :: es => ⟨rfl, like_pmF f n es⟩
theorem mput_pmF {α : Type} (f : α → PV) (n : Int) (v : α) : ∀ es : List (Int × α), mput (pU n) (f v) (pmF f es) = pmF f (upF n v es)
  | [] => rfl
  | e :: es => by
    have ih := mput_pmF f n v es
    simp only [pmF] at ih
    by_cases h : n = e.1 <;> simp [pmF, mput, upF, keyEq, h, ih]
theorem mput_pmB (n : Int) (v : Bool) (es : List (Int × Bool)) : mput (pU n) (.sc (.bool v)) (pmF pB es) = pmF pB (upF n v es) := mput_pmF pB n v es
theorem mput_pmI (n v : Int) (es : List (Int × Int)) : mput (pU n) (.sc (.int .i64 v)) (pmF pI es) = pmF pI (upF n v es) := mput_pmF pI n v es
theorem lkF_upn {α : Type} (n : Int) (v : α) (es : List (Int × α)) : lkF n (upF n v es) = some v := by
  have h : ∀ es : List (Int × α), lkF n (upF n v es) = some v := fun es => by
    induction es with
    | nil => simp [upF, lkF]
    | cons e es ih => by_cases h : n = e.1 <;> simp [upF, lkF, h, ih]
  exact h es
theorem lkF_up {α : Type} (n m : Int) (v : α) : ∀ es : List (Int × α), lkF n (upF m v es) = if n = m then some v else lkF n es
  | [] => by simp [upF, lkF]
  | e :: es => by
    have ih := lkF_up n m v es
    by_cases h : m = e.1
    · subst h
      by_cases h2 : n = e.1 <;> simp [upF, lkF, h2]
    · by_cases h2 : n = e.1
      · have h3 : ¬ n = m := fun e' => h (by omega)
        simp [upF, lkF, h, h2]
        omega
      · simp [upF, lkF, h, h2, ih]
def ran (N : Nat) : List Int := (List.range N).map (fun j : Nat => (j : Int) + 1)
def gF (k : Int) (gs : List (Int × Bool)) : Bool := (lkF k gs).getD false
def tF (k : Int) (ts : List (Int × Int)) : Int := (lkF k ts).getD 0
structure K6 (N : Nat) (l : List Ot) (ts : List (Int × Int)) (gs : List (Int × Bool)) (i : Nat) (now : Int) : Prop where
  chk : checkO l = true
  ids : l.map (·.id) = (ran N).filter (fun k => !gF k gs)
  own : ∀ x ∈ l, x.ids = [100 + x.id] ∧ x.tries = tF x.id ts
  now0 : 0 ≤ now
  now1 : now ≤ 23 * i
  i120 : i ≤ 120
structure S6 where
  i : Nat
  now : Int
  l : List Ot
  ts : List (Int × Int)
  gs : List (Int × Bool)
theorem K6_0 {N : Nat} (h : N ≤ 12) : K6 N (addK N) [] [] 0 0 where
  chk := addK_check N h
  ids := by
    have : (ran N).filter (fun k => !gF k []) = ran N := List.filter_eq_self.2 fun k _ => rfl
    rw [this, addK, List.map_map]; rfl
  own := fun x hx => by
    obtain ⟨j, _, rfl⟩ := List.mem_map.1 hx
    exact ⟨rfl, rfl⟩
  now0 := Int.le_refl _
  now1 := by omega
  i120 := by omega
theorem nextO_cases {l : List Ot} {now : Int} (h : checkO l = true) : nextO l now = (default, 4) ∨ ∃ n, ∃ hn : n < l.length, nextO l now = (l[n], 0) ∧ l[n].due ≤ now := by
  unfold nextO
  rw [if_neg (by simp [h])]
  by_cases h2 : (duA now l 0).length = 0
  · rw [if_pos h2]; exact .inl rfl
  · rw [if_neg h2]
    obtain ⟨n, hn, hd, hdue⟩ := duA_mem now l 0 _ (minD_mem (duA now l 0) (duA now l 0).length (by omega) (Nat.le_refl _))
    refine .inr ⟨n, hn, ?_, hdue⟩
    rw [hd]; simp [hn]
theorem gF_up (k m : Int) (v : Bool) (gs : List (Int × Bool)) : gF k (upF m v gs) = if k = m then v else gF k gs := by
  unfold gF; rw [lkF_up]; split <;> rfl
theorem tF_up (k m : Int) (v : Int) (ts : List (Int × Int)) : tF k (upF m v ts) = if k = m then v else tF k ts := by
  unfold tF; rw [lkF_up]; split <;> rfl
theorem id_ne {l : List Ot} (hc : checkO l = true) {j n : Nat} (hj : j < l.length) (hn : n < l.length) (h : j ≠ n) : l[j].id ≠ l[n].id := by
  have hs := List.pairwise_iff_getElem.1 (checkO_ord hc)
  rcases Nat.lt_or_gt_of_ne h with h1 | h1
  · have : l[j].id < l[n].id := hs j n hj hn h1
    omega
  · have : l[n].id < l[j].id := hs n j hn hj h1
    omega
theorem findO_uniq {l : List Ot} (hc : checkO l = true) {n : Nat} (hn : n < l.length) : findO l l[n].id = n :=
  idxA_yes hn (by simp) fun j hj hjn => by simpa using id_ne hc hj hn (by omega)
theorem nackO_at {l : List Ot} {now : Int} (hc : checkO l = true) (ht : timeB now = true) {n : Nat} (hn : n < l.length) :
    nackO l l[n].id now = if l[n].tries = 4 then ⟨cutO l n, true, 0⟩ else ⟨l.set n (nackOne l[n] now), false, 0⟩ := by
  unfold nackO
  rw [if_neg (by simp [hc, ht]), findO_uniq hc hn, if_neg (by omega)]
  simp only [Int.toNat_natCast, getD_get hn]
theorem cut_ids {N : Nat} {l : List Ot} {gs : List (Int × Bool)} {id : Int} (h : l.map (·.id) = (ran N).filter (fun k => !gF k gs)) :
    (l.filter (fun x => decide (x.id ≠ id))).map (·.id) = (ran N).filter (fun k => !gF k (upF id true gs)) := by
  have : (l.filter (fun x => decide (x.id ≠ id))).map (·.id) = (l.map (·.id)).filter (fun k => decide (k ≠ id)) := by
    rw [List.filter_map]; rfl
  rw [this, h, List.filter_filter]
  congr 1
  funext k
  rw [gF_up]
  by_cases hk : k = id <;> simp [hk]
theorem K6_cut {N : Nat} {l : List Ot} {ts : List (Int × Int)} {gs : List (Int × Bool)} {i n : Nat} {now now2 : Int} (k : K6 N l ts gs i now) (hn : n < l.length) (hi : i < 120) (h1 : 0 ≤ now2) (h2 : now2 ≤ now + 3) (v : Int) :
    K6 N (l.filter (fun x => decide (x.id ≠ l[n].id))) ts (upF l[n].id true gs) (i + 1) now2 ∧ K6 N (l.filter (fun x => decide (x.id ≠ l[n].id))) (upF l[n].id v ts) (upF l[n].id true gs) (i + 1) now2 := by
  have hk := k.now1
  have hc : checkO (l.filter (fun x => decide (x.id ≠ l[n].id))) = true := by
    have h3 : (ackO l l[n].id).2 = 0 := ackO_ok.2 ⟨k.chk, _, List.getElem_mem hn, rfl⟩
    rw [← (ackO_is h3).1]; exact ackO_check h3
  refine ⟨⟨hc, cut_ids k.ids, fun x hx => k.own x (List.mem_filter.1 hx).1, h1, by omega, by omega⟩, ⟨hc, cut_ids k.ids, fun x hx => ?_, h1, by omega, by omega⟩⟩
  have h4 := List.mem_filter.1 hx
  have h5 : ¬ x.id = l[n].id := by simpa using h4.2
  have h6 := k.own x h4.1
  rw [tF_up, if_neg h5]
  exact h6
theorem nackOne_may {x : Ot} {now : Int} (h : mayO x = true) (ht : timeB now = true) (h4 : x.tries ≠ 4) : mayO (nackOne x now) = true := by
  have hm := (mayO_iff x).1 h
  have hp := pow_le5 hm.2.2.2.1.1 hm.2.2.2.1.2
  have ht2 := (timeB_iff now).1 ht
  refine (mayO_iff _).2 ⟨hm.1, hm.2.1, hm.2.2.1, ⟨?_, ?_⟩, (timeB_iff _).2 ?_⟩
  · show 0 ≤ x.tries + 1; omega
  · show x.tries + 1 < 5; omega
  · show 0 ≤ (if 1099511627775 < now + 2 ^ (x.tries + 1).toNat then 1099511627775 else now + 2 ^ (x.tries + 1).toNat) ∧ (if 1099511627775 < now + 2 ^ (x.tries + 1).toNat then 1099511627775 else now + 2 ^ (x.tries + 1).toNat) ≤ 1099511627775
    split <;> omega
theorem set_ids {l : List Ot} {n : Nat} {y : Ot} (hn : n < l.length) (h : y.id = l[n].id) : (l.set n y).map (·.id) = l.map (·.id) := by
  rw [List.map_set, h]
  exact List.ext_getElem (by simp) fun j h1 h2 => by
    rw [List.getElem_set]
    split
    · rename_i e; subst e; simp
    · rfl
theorem K6_set {N : Nat} {l : List Ot} {ts : List (Int × Int)} {gs : List (Int × Bool)} {i n : Nat} {now now2 : Int} (k : K6 N l ts gs i now) (hn : n < l.length) (hi : i < 120) (h1 : 0 ≤ now2) (h2 : now2 ≤ now + 3) (ht : timeB now2 = true) (h4 : l[n].tries ≠ 4)
    (hG : gF l[n].id gs = false) : K6 N (l.set n (nackOne l[n] now2)) (upF l[n].id (l[n].tries + 1) ts) (upF l[n].id false gs) (i + 1) now2 := by
  have hk := k.now1
  have hs := set_ids (y := nackOne l[n] now2) hn rfl
  refine ⟨checkO_of ?_ (fun x hx => ?_) ?_, ?_, fun x hx => ?_, h1, by omega, by omega⟩
  · rw [List.length_set]; exact ((checkO_iff l).1 k.chk).1
  · rcases List.mem_or_eq_of_mem_set hx with h3 | h3
    · exact checkO_may k.chk h3
    · rw [h3]; exact nackOne_may (checkO_may k.chk (List.getElem_mem hn)) ht h4
  · have h3 : (l.map (·.id)).Pairwise (· < ·) := List.pairwise_map.2 (checkO_ord k.chk)
    rw [← hs] at h3
    exact (List.pairwise_map (f := fun x : Ot => x.id)).1 h3
  · rw [hs, k.ids]
    congr 1
    funext j
    rw [gF_up]
    split
    · rename_i e; rw [e, hG]
    · rfl
  · obtain ⟨j, hj, rfl⟩ := List.mem_iff_getElem.1 hx
    have hj2 : j < l.length := by simpa using hj
    rw [List.getElem_set]
    by_cases e : n = j
    · subst e
      have h6 := k.own _ (List.getElem_mem hn)
      simp only [if_true]
      refine ⟨h6.1, ?_⟩
      rw [tF_up, if_pos (show (nackOne l[n] now2).id = l[n].id from rfl)]; rfl
    · rw [if_neg e, tF_up, if_neg (id_ne k.chk hj2 hn (fun h => e h.symm))]
      exact k.own _ (List.getElem_mem hj2)
theorem K6_len {N : Nat} {l : List Ot} {ts : List (Int × Int)} {gs : List (Int × Bool)} {i : Nat} {now : Int} (k : K6 N l ts gs i now) : l.length = ((ran N).filter (fun k => !gF k gs)).length := by
  rw [← k.ids, List.length_map]
end Go.Vc

namespace Go.Vc
open Go.Proofs
set_option linter.unusedSimpArgs false
set_option linter.unusedVariables false

set_option maxHeartbeats 4000000 in
theorem law6 (many : Nat) (acts : List Int) (hm : many ≤ 255) (hl : acts.length ≤ 9223372036854775807) (ha : ∀ x ∈ acts, 0 ≤ x ∧ x ≤ 255) :
    Fn Try.prog 6 [p8 many, .lst (acts.map p8)] (.pv (pB true)) [] := by
  refine Run6 [] (by simp) ?_
  simp only [go_sem, Nat.reduceEqDiff, Nat.reduceBEq, Nat.reduceAdd, Nat.reduceMul, Nat.reduceSub, Nat.reduceLeDiff, Nat.reduceLT, reduceIte, reduceCtorEq, Int.reduceToNat, Int.reduceLE, Int.reduceLT, Int.reduceNeg, Bool.not_not, and_self, Bool.and_eq_false_iff, Int.cast_ofNat_Int, Int.reduceAdd, Int.reduceSub, Int.reduceMul, Int.reduceEq, Int.reduceNe, M6]
  have e0 : (many : Int).tmod 12 = ((many % 12 : Nat) : Int) := by rw [Int.tmod_eq_emod_of_nonneg (by omega)]; omega
  rw [e0]
  have hN : many % 12 < 12 := Nat.mod_lt _ (by decide)
  obtain ⟨N, hNe⟩ : ∃ N, many % 12 + 1 = N := ⟨_, rfl⟩
  have e1 : 1 + ((many % 12 : Nat) : Int) = (N : Int) := by omega
  rw [e1]
  have hN1 : N ≤ 12 := by omega
  refine ⟨⟨by omega, by omega⟩, ⟨by omega, by omega⟩, ?_⟩
  refine run_loop (T := Nat) (fun m => ⟨[(1, .pv (.lst (acts.map p8))), (5, .pv (os (addK m))), (6, .pv (pI N)), (7, .pv (pI ((m : Int) + 1)))], []⟩) (fun m => m ≤ N) (fun m => N - m) 0 rfl (Nat.zero_le _) ?_
  intro m hm
  by_cases hlt : m < N
  · have h25 := fn25 (addK m) (aK m) (by rw [addK_len]; omega)
    rw [addK_add m (by omega)] at h25
    simp only [go_sem, Nat.reduceEqDiff, Nat.reduceBEq, Nat.reduceAdd, Nat.reduceMul, Nat.reduceSub, Nat.reduceLeDiff, Nat.reduceLT, reduceIte, reduceCtorEq, Int.reduceToNat, Int.reduceLE, Int.reduceLT, Int.reduceNeg, Bool.not_not, and_self, Bool.and_eq_false_iff, Int.cast_ofNat_Int, Int.reduceAdd, Int.reduceSub, Int.reduceMul, Int.reduceEq, Int.reduceNe, B6_0, show (m : Int) + 1 ≤ (N : Int) by omega]
    refine ⟨⟨by omega, by omega⟩, ⟨by omega, by omega⟩, ⟨by omega, by omega⟩, ?_⟩
    refine runR_call (by simp only [go_sem, Nat.reduceEqDiff, Nat.reduceBEq, Nat.reduceAdd, Nat.reduceMul, Nat.reduceSub, Nat.reduceLeDiff, Nat.reduceLT, reduceIte, reduceCtorEq, Int.reduceToNat, Int.reduceLE, Int.reduceLT, Int.reduceNeg, Bool.not_not, and_self, Bool.and_eq_false_iff, Int.cast_ofNat_Int, Int.reduceAdd, Int.reduceSub, Int.reduceMul, Int.reduceEq, Int.reduceNe]) rfl (h25) (.inl rfl) trivial ?_
    simp only [go_sem, Nat.reduceEqDiff, Nat.reduceBEq, Nat.reduceAdd, Nat.reduceMul, Nat.reduceSub, Nat.reduceLeDiff, Nat.reduceLT, reduceIte, reduceCtorEq, Int.reduceToNat, Int.reduceLE, Int.reduceLT, Int.reduceNeg, Bool.not_not, and_self, Bool.and_eq_false_iff, Int.cast_ofNat_Int, Int.reduceAdd, Int.reduceSub, Int.reduceMul, Int.reduceEq, Int.reduceNe]
    exact ⟨⟨by omega, by omega⟩, m + 1, rfl, by omega, by omega⟩
  · simp only [go_sem, Nat.reduceEqDiff, Nat.reduceBEq, Nat.reduceAdd, Nat.reduceMul, Nat.reduceSub, Nat.reduceLeDiff, Nat.reduceLT, reduceIte, reduceCtorEq, Int.reduceToNat, Int.reduceLE, Int.reduceLT, Int.reduceNeg, Bool.not_not, and_self, Bool.and_eq_false_iff, Int.cast_ofNat_Int, Int.reduceAdd, Int.reduceSub, Int.reduceMul, Int.reduceEq, Int.reduceNe, B6_0, R6_0, show ¬ (m : Int) + 1 ≤ (N : Int) by omega]
    have hmN : m = N := by omega
    subst hmN
    refine run_loop (T := S6) (fun t => ⟨[(1, .pv (.lst (acts.map p8))), (5, .pv (os t.l)), (6, .pv (pI m)), (10, .mp 47), (11, .mp 48), (12, .pv (pI t.now)), (13, .pv (pI t.i))], [(47, .mp (pmF pI t.ts)), (48, .mp (pmF pB t.gs))]⟩) (fun t => t.i ≤ acts.length ∧ K6 m t.l t.ts t.gs t.i t.now) (fun t => acts.length - t.i) ⟨0, 0, addK m, [], []⟩ rfl ⟨Nat.zero_le _, K6_0 hN1⟩ ?_
    rintro ⟨i, now, l, ts, gs⟩ ⟨hi, k⟩
    simp only at hi k
    have hlen : l.length ≤ 100 := ((checkO_iff l).1 k.chk).1
    by_cases hlt : i < acts.length
    · by_cases h120 : i < 120
      · have hw : WfL 1 (acts.map p8) := wf_map (f := p8) (s := 1) (fun a => ⟨rfl, fun c hc => by simp only [PV.cells, List.mem_cons, List.not_mem_nil, or_false] at hc; subst hc; rfl⟩) acts
        have hA := ha _ (List.getElem_mem hlt)
        simp only [go_sem, Nat.reduceEqDiff, Nat.reduceBEq, Nat.reduceAdd, Nat.reduceMul, Nat.reduceSub, Nat.reduceLeDiff, Nat.reduceLT, reduceIte, reduceCtorEq, Int.reduceToNat, Int.reduceLE, Int.reduceLT, Int.reduceNeg, Bool.not_not, and_self, Bool.and_eq_false_iff, Int.cast_ofNat_Int, Int.reduceAdd, Int.reduceSub, Int.reduceMul, Int.reduceEq, Int.reduceNe, B6_1, show (i : Int) < (acts.length : Int) by omega, show (i : Int) < 120 by omega, hw, getD_map hlt]
        have hq : acts[i].tdiv 64 = acts[i] / 64 := Int.tdiv_eq_ediv_of_nonneg hA.1
        have k0 := k.now0
        have k1 := k.now1
        rw [hq]
        refine ⟨⟨by omega, by omega⟩, ⟨by omega, by omega⟩, ⟨by omega, by omega⟩, ?_⟩
        obtain ⟨now2, hn2⟩ : ∃ n, now + acts[i] / 64 = n := ⟨_, rfl⟩
        rw [hn2]
        have h28 := fn28 l now2 (by omega)
        rcases nextO_cases (now := now2) k.chk with hx | ⟨n, hn, hx, hdue⟩
        · rw [hx] at h28
          refine runR_call (by simp only [go_sem, Nat.reduceEqDiff, Nat.reduceBEq, Nat.reduceAdd, Nat.reduceMul, Nat.reduceSub, Nat.reduceLeDiff, Nat.reduceLT, reduceIte, reduceCtorEq, Int.reduceToNat, Int.reduceLE, Int.reduceLT, Int.reduceNeg, Bool.not_not, and_self, Bool.and_eq_false_iff, Int.cast_ofNat_Int, Int.reduceAdd, Int.reduceSub, Int.reduceMul, Int.reduceEq, Int.reduceNe]) rfl (h28) (.inl rfl) trivial ?_
          simp only [go_sem, Nat.reduceEqDiff, Nat.reduceBEq, Nat.reduceAdd, Nat.reduceMul, Nat.reduceSub, Nat.reduceLeDiff, Nat.reduceLT, reduceIte, reduceCtorEq, Int.reduceToNat, Int.reduceLE, Int.reduceLT, Int.reduceNeg, Bool.not_not, and_self, Bool.and_eq_false_iff, Int.cast_ofNat_Int, Int.reduceAdd, Int.reduceSub, Int.reduceMul, Int.reduceEq, Int.reduceNe]
          exact ⟨⟨by omega, by omega⟩, ⟨by omega, by omega⟩, ⟨i + 1, now2 + 20, l, ts, gs⟩, rfl, ⟨hlt, k.chk, k.ids, k.own, by show 0 ≤ now2 + 20; omega, by show now2 + 20 ≤ 23 * ((i + 1 : Nat) : Int); omega, by show i + 1 ≤ 120; omega⟩, by show acts.length - (i + 1) < acts.length - i; omega⟩
        · rw [hx] at h28
          refine runR_call (by simp only [go_sem, Nat.reduceEqDiff, Nat.reduceBEq, Nat.reduceAdd, Nat.reduceMul, Nat.reduceSub, Nat.reduceLeDiff, Nat.reduceLT, reduceIte, reduceCtorEq, Int.reduceToNat, Int.reduceLE, Int.reduceLT, Int.reduceNeg, Bool.not_not, and_self, Bool.and_eq_false_iff, Int.cast_ofNat_Int, Int.reduceAdd, Int.reduceSub, Int.reduceMul, Int.reduceEq, Int.reduceNe]) rfl (h28) (.inl rfl) trivial ?_
          have hown := k.own _ (List.getElem_mem hn)
          have hG : gF l[n].id gs = false := by
            have : l[n].id ∈ (ran m).filter (fun k => !gF k gs) := by rw [← k.ids]; exact List.mem_map_of_mem (List.getElem_mem hn)
            simpa using (List.mem_filter.1 this).2
          have hlg : (lkF l[n].id gs).getD false = false := hG
          have hlt2 : (lkF l[n].id ts).getD 0 = l[n].tries := hown.2.symm
          have hids : l[n].ids.map pU = [pU (100 + l[n].id)] := by rw [hown.1]; rfl
          have hgo : lkF l[n].id gs = none ∨ lkF l[n].id gs = some false := by
            cases h : lkF l[n].id gs with
            | none => exact .inl rfl
            | some b => rw [h] at hlg; exact .inr (by rw [show b = false from hlg])
          have hto : (lkF l[n].id ts = none ∧ l[n].tries = 0) ∨ lkF l[n].id ts = some l[n].tries := by
            cases h : lkF l[n].id ts with
            | none => rw [h] at hlt2; exact .inl ⟨rfl, hlt2.symm⟩
            | some b => rw [h] at hlt2; exact .inr (by rw [← hlt2]; rfl)
          have hwi : WfL 1 [pU (100 + l[n].id)] := wf_us [100 + l[n].id]
          have hrange : 1 ≤ l[n].id ∧ l[n].id ≤ m := by
            have h5 : l[n].id ∈ (ran m).filter (fun k => !gF k gs) := by rw [← k.ids]; exact List.mem_map_of_mem (List.getElem_mem hn)
            obtain ⟨j, hj, e⟩ := List.mem_map.1 (List.mem_filter.1 h5).1
            have := List.mem_range.1 hj
            omega
          have hbi : 0 ≤ 100 + l[n].id ∧ 100 + l[n].id ≤ 18446744073709551615 := ⟨by omega, by omega⟩
          have hak : (ackO l l[n].id).2 = 0 := ackO_ok.2 ⟨k.chk, _, List.getElem_mem hn, rfl⟩
          have hmt := ((mayO_iff _).1 (checkO_may k.chk (List.getElem_mem hn))).2.2.2.1
          have htb : timeB now2 = true := (timeB_iff _).2 ⟨by omega, by have := k.i120; omega⟩
          refine' (have key : ∀ (L : List Ot) (ts' : List (Int × Int)) (gs' : List (Int × Bool)), K6 m L ts' gs' (i + 1) now2 → run Try.prog (retK [RV.tmp 4] [] (AV.pv (pB true)) []) B6_2.loop _ ⟨[(1, .pv (.lst (acts.map p8))), (5, .pv (os L)), (6, .pv (pI m)), (10, .mp 47), (11, .mp 48), (12, .pv (pI now2)), (13, .pv (pI i)), (21, .pv (pI 0)), (22, .pv (pI 1))], [(47, .mp (pmF pI ts')), (48, .mp (pmF pB gs'))]⟩ := ?key; ?main)
          case main =>
            rcases hgo with hgo | hgo <;> rcases hto with ⟨hto, ht0⟩ | hto
            all_goals
              simp only [go_sem, Nat.reduceEqDiff, Nat.reduceBEq, Nat.reduceAdd, Nat.reduceMul, Nat.reduceSub, Nat.reduceLeDiff, Nat.reduceLT, reduceIte, reduceCtorEq, Int.reduceToNat, Int.reduceLE, Int.reduceLT, Int.reduceNeg, Bool.not_not, and_self, Bool.and_eq_false_iff, Int.cast_ofNat_Int, Int.reduceAdd, Int.reduceSub, Int.reduceMul, Int.reduceEq, Int.reduceNe, hids, lkp_pmF, like_pmF, hgo, hto, Option.map_none, Option.map_some, hown.1, List.length_cons, List.length_nil, hw, getD_map hlt, show (i : Int) < (acts.length : Int) by omega]
              refine ⟨hwi, hbi, fun h => by omega, fun _ => ⟨fun h3 => ?_, fun h3 => ?_⟩⟩
              · refine runR_call (by simp only [go_sem, Nat.reduceEqDiff, Nat.reduceBEq, Nat.reduceAdd, Nat.reduceMul, Nat.reduceSub, Nat.reduceLeDiff, Nat.reduceLT, reduceIte, reduceCtorEq, Int.reduceToNat, Int.reduceLE, Int.reduceLT, Int.reduceNeg, Bool.not_not, and_self, Bool.and_eq_false_iff, Int.cast_ofNat_Int, Int.reduceAdd, Int.reduceSub, Int.reduceMul, Int.reduceEq, Int.reduceNe]) rfl (fn21 l l[n].id (by omega)) (.inl rfl) trivial ?_
                simp only [go_sem, Nat.reduceEqDiff, Nat.reduceBEq, Nat.reduceAdd, Nat.reduceMul, Nat.reduceSub, Nat.reduceLeDiff, Nat.reduceLT, reduceIte, reduceCtorEq, Int.reduceToNat, Int.reduceLE, Int.reduceLT, Int.reduceNeg, Bool.not_not, and_self, Bool.and_eq_false_iff, Int.cast_ofNat_Int, Int.reduceAdd, Int.reduceSub, Int.reduceMul, Int.reduceEq, Int.reduceNe, hak, mput_pmB, like_pmF]
                rw [(ackO_is hak).1]
                exact key _ _ _ (K6_cut k hn h120 (by omega) (by omega) 0).1
              · refine runR_call (by simp only [go_sem, Nat.reduceEqDiff, Nat.reduceBEq, Nat.reduceAdd, Nat.reduceMul, Nat.reduceSub, Nat.reduceLeDiff, Nat.reduceLT, reduceIte, reduceCtorEq, Int.reduceToNat, Int.reduceLE, Int.reduceLT, Int.reduceNeg, Bool.not_not, and_self, Bool.and_eq_false_iff, Int.cast_ofNat_Int, Int.reduceAdd, Int.reduceSub, Int.reduceMul, Int.reduceEq, Int.reduceNe]) rfl (fn27 l l[n].id now2 (by omega)) (.inl rfl) trivial ?_
                rw [nackO_at k.chk htb hn]
                by_cases h4 : l[n].tries = 4
                · rw [if_pos h4, cutO_filter hn (checkO_ord k.chk)]
                  simp only [go_sem, Nat.reduceEqDiff, Nat.reduceBEq, Nat.reduceAdd, Nat.reduceMul, Nat.reduceSub, Nat.reduceLeDiff, Nat.reduceLT, reduceIte, reduceCtorEq, Int.reduceToNat, Int.reduceLE, Int.reduceLT, Int.reduceNeg, Bool.not_not, and_self, Bool.and_eq_false_iff, Int.cast_ofNat_Int, Int.reduceAdd, Int.reduceSub, Int.reduceMul, Int.reduceEq, Int.reduceNe, lkp_pmF, like_pmF, hto, Option.map_none, Option.map_some, mput_pmI, mput_pmB, lkF_upn, h4]
                  first
                  | omega
                  | exact key _ _ _ (K6_cut k hn h120 (by omega) (by omega) 5).2
                · rw [if_neg h4]
                  simp only [go_sem, Nat.reduceEqDiff, Nat.reduceBEq, Nat.reduceAdd, Nat.reduceMul, Nat.reduceSub, Nat.reduceLeDiff, Nat.reduceLT, reduceIte, reduceCtorEq, Int.reduceToNat, Int.reduceLE, Int.reduceLT, Int.reduceNeg, Bool.not_not, and_self, Bool.and_eq_false_iff, Int.cast_ofNat_Int, Int.reduceAdd, Int.reduceSub, Int.reduceMul, Int.reduceEq, Int.reduceNe, lkp_pmF, like_pmF, hto, Option.map_none, Option.map_some, mput_pmI, mput_pmB, lkF_upn]
                  have ks := K6_set k hn h120 (by omega) (by omega) htb h4 hG
                  first
                  | exact key _ _ _ (by rw [show l[n].tries + 1 = 1 by omega] at ks; exact ks)
                  | (refine ⟨⟨by omega, by omega⟩, fun h5 => ?_, fun _ => key _ _ _ ks⟩
                     have h6 : ¬ l[n].tries + 1 = 5 := by omega
                     simp [h6] at h5)
          case key =>
            intro L ts' gs' k'
            have hm6 : (ran m).length = m := by simp [ran]
            refine run_loop (T := Nat) (fun j => ⟨[(1, .pv (.lst (acts.map p8))), (5, .pv (os L)), (6, .pv (pI m)), (10, .mp 47), (11, .mp 48), (12, .pv (pI now2)), (13, .pv (pI i)), (21, .pv (pI (((ran m).take j).filter (fun k => !gF k gs')).length)), (22, .pv (pI ((j : Int) + 1)))], [(47, .mp (pmF pI ts')), (48, .mp (pmF pB gs'))]⟩) (fun j => j ≤ m) (fun j => m - j) 0 rfl (Nat.zero_le _) ?_
            intro j hj
            have hfl := filt_le (q := fun k => !gF k gs') (l := ran m) (i := j)
            by_cases hjm : j < m
            · have hjr : j < (ran m).length := by omega
              have hrj : (ran m)[j] = (j : Int) + 1 := by simp [ran]
              have hsn := filt_snoc (q := fun k => !gF k gs') hjr
              rw [hrj] at hsn
              cases hg : lkF ((j : Int) + 1) gs' with
              | none =>
                have hgf : gF ((j : Int) + 1) gs' = false := by unfold gF; rw [hg]; rfl
                rw [hgf] at hsn
                simp only [go_sem, Nat.reduceEqDiff, Nat.reduceBEq, Nat.reduceAdd, Nat.reduceMul, Nat.reduceSub, Nat.reduceLeDiff, Nat.reduceLT, reduceIte, reduceCtorEq, Int.reduceToNat, Int.reduceLE, Int.reduceLT, Int.reduceNeg, Bool.not_not, and_self, Bool.and_eq_false_iff, Int.cast_ofNat_Int, Int.reduceAdd, Int.reduceSub, Int.reduceMul, Int.reduceEq, Int.reduceNe, B6_2, show (j : Int) + 1 ≤ (m : Int) by omega, lkp_pmF, like_pmF, hg, Option.map_none, Option.map_some]
                refine ⟨⟨by omega, by omega⟩, ⟨by omega, by omega⟩, ⟨by omega, by omega⟩, j + 1, ?_, hjm, by omega⟩
                rw [hsn, List.length_append]; rfl
              | some b =>
                have hgf : gF ((j : Int) + 1) gs' = b := by unfold gF; rw [hg]; rfl
                rw [hgf] at hsn
                simp only [go_sem, Nat.reduceEqDiff, Nat.reduceBEq, Nat.reduceAdd, Nat.reduceMul, Nat.reduceSub, Nat.reduceLeDiff, Nat.reduceLT, reduceIte, reduceCtorEq, Int.reduceToNat, Int.reduceLE, Int.reduceLT, Int.reduceNeg, Bool.not_not, and_self, Bool.and_eq_false_iff, Int.cast_ofNat_Int, Int.reduceAdd, Int.reduceSub, Int.reduceMul, Int.reduceEq, Int.reduceNe, B6_2, show (j : Int) + 1 ≤ (m : Int) by omega, lkp_pmF, like_pmF, hg, Option.map_none, Option.map_some]
                refine ⟨⟨by omega, by omega⟩, fun hb => ⟨⟨by omega, by omega⟩, ⟨by omega, by omega⟩, j + 1, ?_, hjm, by omega⟩, fun hb => ⟨⟨by omega, by omega⟩, j + 1, ?_, hjm, by omega⟩⟩
                · subst hb
                  rw [hsn, List.length_append]; rfl
                · subst hb
                  rw [hsn, List.length_append]; rfl
            · have hjm2 : j = m := by omega
              subst hjm2
              have hL := K6_len k'
              have htk : (ran j).take j = ran j := List.take_of_length_le (by omega)
              have hLc := ((checkO_iff L).1 k'.chk).1
              simp only [go_sem, Nat.reduceEqDiff, Nat.reduceBEq, Nat.reduceAdd, Nat.reduceMul, Nat.reduceSub, Nat.reduceLeDiff, Nat.reduceLT, reduceIte, reduceCtorEq, Int.reduceToNat, Int.reduceLE, Int.reduceLT, Int.reduceNeg, Bool.not_not, and_self, Bool.and_eq_false_iff, Int.cast_ofNat_Int, Int.reduceAdd, Int.reduceSub, Int.reduceMul, Int.reduceEq, Int.reduceNe, B6_2, R6_2, show ¬ (j : Int) + 1 ≤ (j : Int) by omega, htk, ← hL]
              refine runR_callgf (by simp only [go_sem, Nat.reduceEqDiff, Nat.reduceBEq, Nat.reduceAdd, Nat.reduceMul, Nat.reduceSub, Nat.reduceLeDiff, Nat.reduceLT, reduceIte, reduceCtorEq, Int.reduceToNat, Int.reduceLE, Int.reduceLT, Int.reduceNeg, Bool.not_not, and_self, Bool.and_eq_false_iff, Int.cast_ofNat_Int, Int.reduceAdd, Int.reduceSub, Int.reduceMul, Int.reduceEq, Int.reduceNe]) (by simp only [go_sem, Nat.reduceEqDiff, Nat.reduceBEq, Nat.reduceAdd, Nat.reduceMul, Nat.reduceSub, Nat.reduceLeDiff, Nat.reduceLT, reduceIte, reduceCtorEq, Int.reduceToNat, Int.reduceLE, Int.reduceLT, Int.reduceNeg, Bool.not_not, and_self, Bool.and_eq_false_iff, Int.cast_ofNat_Int, Int.reduceAdd, Int.reduceSub, Int.reduceMul, Int.reduceEq, Int.reduceNe]) (by simp only [go_sem, Nat.reduceEqDiff, Nat.reduceBEq, Nat.reduceAdd, Nat.reduceMul, Nat.reduceSub, Nat.reduceLeDiff, Nat.reduceLT, reduceIte, reduceCtorEq, Int.reduceToNat, Int.reduceLE, Int.reduceLT, Int.reduceNeg, Bool.not_not, and_self, Bool.and_eq_false_iff, Int.cast_ofNat_Int, Int.reduceAdd, Int.reduceSub, Int.reduceMul, Int.reduceEq, Int.reduceNe]) (fun _ => fn33 L (by omega)) rfl ?_
              simp only [go_sem, Nat.reduceEqDiff, Nat.reduceBEq, Nat.reduceAdd, Nat.reduceMul, Nat.reduceSub, Nat.reduceLeDiff, Nat.reduceLT, reduceIte, reduceCtorEq, Int.reduceToNat, Int.reduceLE, Int.reduceLT, Int.reduceNeg, Bool.not_not, and_self, Bool.and_eq_false_iff, Int.cast_ofNat_Int, Int.reduceAdd, Int.reduceSub, Int.reduceMul, Int.reduceEq, Int.reduceNe, k'.chk, errN]
              exact ⟨⟨by omega, by omega⟩, ⟨i + 1, now2, L, ts', gs'⟩, rfl, ⟨by show i + 1 ≤ acts.length; omega, k'⟩, by show acts.length - (i + 1) < acts.length - i; omega⟩
      · simp only [go_sem, Nat.reduceEqDiff, Nat.reduceBEq, Nat.reduceAdd, Nat.reduceMul, Nat.reduceSub, Nat.reduceLeDiff, Nat.reduceLT, reduceIte, reduceCtorEq, Int.reduceToNat, Int.reduceLE, Int.reduceLT, Int.reduceNeg, Bool.not_not, and_self, Bool.and_eq_false_iff, Int.cast_ofNat_Int, Int.reduceAdd, Int.reduceSub, Int.reduceMul, Int.reduceEq, Int.reduceNe, B6_1, R6_1, show (i : Int) < (acts.length : Int) by omega, show ¬ (i : Int) < 120 by omega]
        refine runR_callf (by simp only [go_sem, Nat.reduceEqDiff, Nat.reduceBEq, Nat.reduceAdd, Nat.reduceMul, Nat.reduceSub, Nat.reduceLeDiff, Nat.reduceLT, reduceIte, reduceCtorEq, Int.reduceToNat, Int.reduceLE, Int.reduceLT, Int.reduceNeg, Bool.not_not, and_self, Bool.and_eq_false_iff, Int.cast_ofNat_Int, Int.reduceAdd, Int.reduceSub, Int.reduceMul, Int.reduceEq, Int.reduceNe]) (by simp only [go_sem, Nat.reduceEqDiff, Nat.reduceBEq, Nat.reduceAdd, Nat.reduceMul, Nat.reduceSub, Nat.reduceLeDiff, Nat.reduceLT, reduceIte, reduceCtorEq, Int.reduceToNat, Int.reduceLE, Int.reduceLT, Int.reduceNeg, Bool.not_not, and_self, Bool.and_eq_false_iff, Int.cast_ofNat_Int, Int.reduceAdd, Int.reduceSub, Int.reduceMul, Int.reduceEq, Int.reduceNe]) (fn22) ⟨rfl, trivial⟩ trivial ?_
        simp only [go_sem, Nat.reduceEqDiff, Nat.reduceBEq, Nat.reduceAdd, Nat.reduceMul, Nat.reduceSub, Nat.reduceLeDiff, Nat.reduceLT, reduceIte, reduceCtorEq, Int.reduceToNat, Int.reduceLE, Int.reduceLT, Int.reduceNeg, Bool.not_not, and_self, Bool.and_eq_false_iff, Int.cast_ofNat_Int, Int.reduceAdd, Int.reduceSub, Int.reduceMul, Int.reduceEq, Int.reduceNe]
    · simp only [go_sem, Nat.reduceEqDiff, Nat.reduceBEq, Nat.reduceAdd, Nat.reduceMul, Nat.reduceSub, Nat.reduceLeDiff, Nat.reduceLT, reduceIte, reduceCtorEq, Int.reduceToNat, Int.reduceLE, Int.reduceLT, Int.reduceNeg, Bool.not_not, and_self, Bool.and_eq_false_iff, Int.cast_ofNat_Int, Int.reduceAdd, Int.reduceSub, Int.reduceMul, Int.reduceEq, Int.reduceNe, B6_1, R6_1, show ¬ (i : Int) < (acts.length : Int) by omega]
      refine runR_callf (by simp only [go_sem, Nat.reduceEqDiff, Nat.reduceBEq, Nat.reduceAdd, Nat.reduceMul, Nat.reduceSub, Nat.reduceLeDiff, Nat.reduceLT, reduceIte, reduceCtorEq, Int.reduceToNat, Int.reduceLE, Int.reduceLT, Int.reduceNeg, Bool.not_not, and_self, Bool.and_eq_false_iff, Int.cast_ofNat_Int, Int.reduceAdd, Int.reduceSub, Int.reduceMul, Int.reduceEq, Int.reduceNe]) (by simp only [go_sem, Nat.reduceEqDiff, Nat.reduceBEq, Nat.reduceAdd, Nat.reduceMul, Nat.reduceSub, Nat.reduceLeDiff, Nat.reduceLT, reduceIte, reduceCtorEq, Int.reduceToNat, Int.reduceLE, Int.reduceLT, Int.reduceNeg, Bool.not_not, and_self, Bool.and_eq_false_iff, Int.cast_ofNat_Int, Int.reduceAdd, Int.reduceSub, Int.reduceMul, Int.reduceEq, Int.reduceNe]) (fn22) ⟨rfl, trivial⟩ trivial ?_
      simp only [go_sem, Nat.reduceEqDiff, Nat.reduceBEq, Nat.reduceAdd, Nat.reduceMul, Nat.reduceSub, Nat.reduceLeDiff, Nat.reduceLT, reduceIte, reduceCtorEq, Int.reduceToNat, Int.reduceLE, Int.reduceLT, Int.reduceNeg, Bool.not_not, and_self, Bool.and_eq_false_iff, Int.cast_ofNat_Int, Int.reduceAdd, Int.reduceSub, Int.reduceMul, Int.reduceEq, Int.reduceNe]
end Go.Vc

namespace Go.Vc
open Go.Proofs
set_option linter.unusedSimpArgs false

theorem u8_of {p : PV} (h : ArgOk (false, [.int .u8]) p) : ∃ n : Nat, p = p8 n ∧ n ≤ 255 := by
  obtain ⟨n, rfl, hn⟩ := int_of h
  have := Go.bounds_u8 hn
  obtain ⟨m, rfl⟩ := Int.eq_ofNat_of_zero_le this.1
  exact ⟨m, rfl, by omega⟩
theorem u8s_of {p : PV} (h : ArgOk (false, [.lst false [.int .u8]]) p) : ∃ l : List Int, p = .lst (l.map p8) ∧ l.length ≤ 9223372036854775807 ∧ ∀ x ∈ l, 0 ≤ x ∧ x ≤ 255 := by
  obtain ⟨l, rfl, hl, hx⟩ := ints_of (OkShs_one h)
  exact ⟨l, rfl, hl, fun x h' => Go.bounds_u8 (hx x h')⟩
end Go.Vc
