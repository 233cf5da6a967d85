/- A part of the proofs of the seat YtjkldmepdenlfaaDoor: the contracts of functions, each proved out of its code. -/
import Derived.Test.YtjkldmepdenlfaaDoorVh
import Derived.Test.YtjkldmepdenlfaaDoorProg
import Derived.Test.YtjkldmepdenlfaaDoorMtd
import Derived.Test.YtjkldmepdenlfaaDoorMtc
import Derived.Test.YtjkldmepdenlfaaDoorMta
namespace Go.Vc
open Go.Proofs
set_option maxRecDepth 100000

/-- 'trystlaw08.Few' -/
def B10_0 : MC := (.seq (.seq (.reg [⟨(some 10), none, (.q (.mv (.t 4)))⟩, ⟨(some 11), none, (.q (.fa (.t 1) 0))⟩, ⟨(some 12), none, (.q (.ld (.t 11) 1 false))⟩, ⟨(some 13), none, (.q (.len (.t 12)
  false))⟩, ⟨(some 14), none, (.q (.bin .lss (.t 10) (.t 13)))⟩, ⟨(some 15), none, (.q (.mv (.t 14)))⟩, ⟨(some 16), (some (15, true)), (.q (.mv (.t 4)))⟩, ⟨(some 17), (some (15, true)),
  (.q (.bin .lss (.t 16) (.c (.int .i64 6))))⟩, ⟨(some 18), none, (.q (.pick (.t 15) (.t 17) (.c (.bool false))))⟩] [] [1, 2, 3, 4, 18] [1, 2, 3, 30, 59, 88]) (.cond (.t 18) .skip (.exit 0)))
  (.seq (.block 1 (.reg [⟨(some 21), none, (.q (.fa (.t 3) 0))⟩, ⟨(some 22), none, (.q (.ld (.t 21) 1 false))⟩, ⟨(some 23), none, (.q (.fa (.t 1) 0))⟩, ⟨(some 24), none, (.q (.ld (.t 23) 1 false))⟩,
  ⟨(some 25), none, (.q (.mv (.t 4)))⟩, ⟨(some 26), none, (.q (.ia (.t 24) (.t 25) 1))⟩, ⟨(some 27), none, (.q (.ld (.t 26) 1 false))⟩, ⟨(some 28), none, (.call (.f 19) [(.t 27)])⟩, ⟨(some 29), none,
  (.lits [(.t 28)] 1)⟩, ⟨(some 30), none, (.app (.t 22) (.t 29) 1 16)⟩, ⟨(some 31), none, (.q (.fa (.t 3) 0))⟩, ⟨none, none, (.st (.t 31) (.t 30) 1)⟩] [] [1, 2, 3, 4] [1, 2, 3, 30, 59, 88]))
  (.reg [⟨(some 19), none, (.q (.mv (.t 4)))⟩, ⟨(some 20), none, (.q (.bin .add (.t 19) (.c (.int .i64 1))))⟩, ⟨(some 4), none, (.q (.mv (.t 20)))⟩] [] [1, 2, 3, 4] [1, 2, 3, 30, 59, 88])))
def B10_1 : MC := (.seq (.seq (.reg [⟨(some 32), none, (.q (.mv (.t 5)))⟩, ⟨(some 33), none, (.q (.fa (.t 1) 1))⟩, ⟨(some 34), none, (.q (.ld (.t 33) 1 false))⟩, ⟨(some 35), none, (.q (.len (.t 34)
  false))⟩, ⟨(some 36), none, (.q (.bin .lss (.t 32) (.t 35)))⟩, ⟨(some 37), none, (.q (.mv (.t 36)))⟩, ⟨(some 38), (some (37, true)), (.q (.mv (.t 5)))⟩, ⟨(some 39), (some (37, true)),
  (.q (.bin .lss (.t 38) (.c (.int .i64 14))))⟩, ⟨(some 40), none, (.q (.pick (.t 37) (.t 39) (.c (.bool false))))⟩] [] [1, 2, 3, 5, 40] [1, 2, 3, 30, 59, 88]) (.cond (.t 40) .skip (.exit 2)))
  (.seq (.block 3 (.seq (.reg [⟨(some 43), none, (.q (.fa (.t 1) 1))⟩, ⟨(some 44), none, (.q (.ld (.t 43) 1 false))⟩, ⟨(some 45), none, (.q (.mv (.t 5)))⟩, ⟨(some 46), none, (.q (.ia (.t 44) (.t 45)
  1))⟩, ⟨(some 47), none, (.q (.ld (.t 46) 1 false))⟩, ⟨(some 6), none, (.q (.mv (.t 47)))⟩] [] [1, 2, 3, 5, 6] [1, 2, 3, 30, 59, 88]) (.seq (.seq (.reg [⟨(some 48), none, (.q (.mv (.t 6)))⟩,
  ⟨(some 49), none, (.q (.len (.t 48) false))⟩, ⟨(some 50), none, (.q (.bin .gtr (.t 49) (.c (.int .i64 8))))⟩] [] [1, 2, 3, 5, 6, 50] [1, 2, 3, 30, 59, 88]) (.cond (.t 50) (.reg [⟨(some 51), none,
  (.q (.mv (.t 6)))⟩, ⟨(some 52), none, (.q (.slc (.t 51) none (some (.c (.int .i64 8))) 1 false))⟩, ⟨(some 6), none, (.q (.mv (.t 52)))⟩] [] [1, 2, 3, 5, 6] [1, 2, 3, 30, 59, 88]) .skip))
  (.reg [⟨(some 53), none, (.q (.fa (.t 3) 1))⟩, ⟨(some 54), none, (.q (.ld (.t 53) 1 false))⟩, ⟨(some 56), none, (.q (.mv (.t 6)))⟩, ⟨(some 55), none, (.lits [] 1)⟩, ⟨(some 57), none, (.appn (.t 55)
  (.t 56) 1 8)⟩, ⟨(some 58), none, (.lits [(.t 57)] 1)⟩, ⟨(some 59), none, (.app (.t 54) (.t 58) 1 24)⟩, ⟨(some 60), none, (.q (.fa (.t 3) 1))⟩, ⟨none, none, (.st (.t 60) (.t 59) 1)⟩] [] [1, 2, 3,
  5] [1, 2, 3, 30, 59, 88])))) (.reg [⟨(some 41), none, (.q (.mv (.t 5)))⟩, ⟨(some 42), none, (.q (.bin .add (.t 41) (.c (.int .i64 1))))⟩, ⟨(some 5), none, (.q (.mv (.t 42)))⟩] [] [1, 2, 3, 5] [1, 2,
  3, 30, 59, 88])))
def B10_2 : MC := (.seq (.seq (.reg [⟨(some 61), none, (.q (.mv (.t 7)))⟩, ⟨(some 62), none, (.q (.fa (.t 1) 2))⟩, ⟨(some 63), none, (.q (.ld (.t 62) 1 false))⟩, ⟨(some 64), none, (.q (.len (.t 63)
  false))⟩, ⟨(some 65), none, (.q (.bin .lss (.t 61) (.t 64)))⟩, ⟨(some 66), none, (.q (.mv (.t 65)))⟩, ⟨(some 67), (some (66, true)), (.q (.mv (.t 7)))⟩, ⟨(some 68), (some (66, true)),
  (.q (.bin .lss (.t 67) (.c (.int .i64 14))))⟩, ⟨(some 69), none, (.q (.pick (.t 66) (.t 68) (.c (.bool false))))⟩] [] [1, 2, 3, 7, 69] [1, 2, 3, 30, 59, 88]) (.cond (.t 69) .skip (.exit 4)))
  (.seq (.block 5 (.seq (.reg [⟨(some 72), none, (.q (.fa (.t 1) 2))⟩, ⟨(some 73), none, (.q (.ld (.t 72) 1 false))⟩, ⟨(some 74), none, (.q (.mv (.t 7)))⟩, ⟨(some 75), none, (.q (.ia (.t 73) (.t 74)
  1))⟩, ⟨(some 76), none, (.q (.ld (.t 75) 1 false))⟩, ⟨(some 8), none, (.q (.mv (.t 76)))⟩] [] [1, 2, 3, 7, 8] [1, 2, 3, 30, 59, 88]) (.seq (.seq (.reg [⟨(some 77), none, (.q (.mv (.t 8)))⟩,
  ⟨(some 78), none, (.q (.len (.t 77) false))⟩, ⟨(some 79), none, (.q (.bin .gtr (.t 78) (.c (.int .i64 5))))⟩] [] [1, 2, 3, 7, 8, 79] [1, 2, 3, 30, 59, 88]) (.cond (.t 79) (.reg [⟨(some 80), none,
  (.q (.mv (.t 8)))⟩, ⟨(some 81), none, (.q (.slc (.t 80) none (some (.c (.int .i64 5))) 1 false))⟩, ⟨(some 8), none, (.q (.mv (.t 81)))⟩] [] [1, 2, 3, 7, 8] [1, 2, 3, 30, 59, 88]) .skip))
  (.reg [⟨(some 82), none, (.q (.fa (.t 3) 2))⟩, ⟨(some 83), none, (.q (.ld (.t 82) 1 false))⟩, ⟨(some 85), none, (.q (.mv (.t 8)))⟩, ⟨(some 84), none, (.lits [] 1)⟩, ⟨(some 86), none, (.appn (.t 84)
  (.t 85) 1 8)⟩, ⟨(some 87), none, (.lits [(.t 86)] 1)⟩, ⟨(some 88), none, (.app (.t 83) (.t 87) 1 24)⟩, ⟨(some 89), none, (.q (.fa (.t 3) 2))⟩, ⟨none, none, (.st (.t 89) (.t 88) 1)⟩] [] [1, 2, 3,
  7] [1, 2, 3, 30, 59, 88])))) (.reg [⟨(some 70), none, (.q (.mv (.t 7)))⟩, ⟨(some 71), none, (.q (.bin .add (.t 70) (.c (.int .i64 1))))⟩, ⟨(some 7), none, (.q (.mv (.t 71)))⟩] [] [1, 2, 3, 7] [1, 2,
  3, 30, 59, 88])))
def R10_2 : MC := (.seq (.reg [⟨(some 90), none, (.q (.ld (.t 3) 3 true))⟩, ⟨none, none, (.st (.t 2) (.t 90) 3)⟩] [] [2] [2, 30, 59, 88]) .ret)
def R10_1 : MC := (.seq (.seq (.reg [⟨(some 7), none, (.q (.mv (.c (.int .i64 0))))⟩] [] [1, 2, 3, 7] [1, 2, 3, 30, 59, 88]) (.block 4 (.loop B10_2))) R10_2)
def R10_0 : MC := (.seq (.seq (.reg [⟨(some 5), none, (.q (.mv (.c (.int .i64 0))))⟩] [] [1, 2, 3, 5] [1, 2, 3, 30, 59, 88]) (.block 2 (.loop B10_1))) R10_1)
def M10 : MC := (.seq (.reg [⟨(some 1), none, (.box (.t 0))⟩, ⟨(some 2), none, (.alloc [.e0, .e0, .e0])⟩] [] [1, 2] [1, 2, 30, 59, 88]) (.seq (.reg [⟨(some 9), none, (.q (.mk [.e0, .e0, .e0] []))⟩,
  ⟨(some 3), none, (.alloc [.e0, .e0, .e0])⟩, ⟨none, none, (.st (.t 3) (.t 9) 3)⟩] [] [1, 2, 3] [1, 2, 3, 30, 59, 88]) (.seq (.seq (.reg [⟨(some 4), none, (.q (.mv (.c (.int .i64 0))))⟩] [] [1, 2, 3,
  4] [1, 2, 3, 30, 59, 88]) (.block 0 (.loop B10_0))) R10_0)))
theorem mc10 : ofCode Tryd.prog [1000057, 1000086] Tryd.f10.ntmps [(0, ⟨[1, 2], [1, 2, 30, 59, 88], [], 0, [], none⟩),
    (1, ⟨[1, 2, 3], [1, 2, 3, 30, 59, 88], [], 0, [], none⟩),
    (2, ⟨[1, 2, 3, 4], [1, 2, 3, 30, 59, 88], [], 0, [], none⟩),
    (3, ⟨[1, 2, 3, 4, 18], [1, 2, 3, 30, 59, 88], [], 0, [], none⟩),
    (4, ⟨[1, 2, 3, 4], [1, 2, 3, 30, 59, 88], [], 0, [], none⟩),
    (5, ⟨[1, 2, 3, 4], [1, 2, 3, 30, 59, 88], [(0, 3587), (1, 3586), (2, 4076), (3, 4072), (4, 4080), (5, 4064), (6, 4032), (7, 0), (8, 0), (9, 0), (10, 3072), (11, 0)], 1535, [], none⟩),
    (6, ⟨[1, 2, 3, 5], [1, 2, 3, 30, 59, 88], [], 0, [], none⟩),
    (7, ⟨[1, 2, 3, 5, 40], [1, 2, 3, 30, 59, 88], [], 0, [], none⟩),
    (8, ⟨[1, 2, 3, 5], [1, 2, 3, 30, 59, 88], [], 0, [], none⟩),
    (9, ⟨[1, 2, 3, 5, 6], [1, 2, 3, 30, 59, 88], [], 0, [], none⟩),
    (10, ⟨[1, 2, 3, 5, 6, 50], [1, 2, 3, 30, 59, 88], [], 0, [], none⟩),
    (11, ⟨[1, 2, 3, 5, 6], [1, 2, 3, 30, 59, 88], [], 0, [], none⟩),
    (12, ⟨[1, 2, 3, 5], [1, 2, 3, 30, 59, 88], [(0, 451), (1, 450), (3, 504), (2, 0), (4, 0), (5, 0), (6, 0), (7, 384), (8, 0)], 191, [], none⟩),
    (13, ⟨[1, 2, 3, 7], [1, 2, 3, 30, 59, 88], [], 0, [], none⟩),
    (14, ⟨[1, 2, 3, 7, 69], [1, 2, 3, 30, 59, 88], [], 0, [], none⟩),
    (15, ⟨[1, 2, 3, 7], [1, 2, 3, 30, 59, 88], [], 0, [], none⟩),
    (16, ⟨[1, 2, 3, 7, 8], [1, 2, 3, 30, 59, 88], [], 0, [], none⟩),
    (17, ⟨[1, 2, 3, 7, 8, 79], [1, 2, 3, 30, 59, 88], [], 0, [], none⟩),
    (18, ⟨[1, 2, 3, 7, 8], [1, 2, 3, 30, 59, 88], [], 0, [], none⟩),
    (19, ⟨[1, 2, 3, 7], [1, 2, 3, 30, 59, 88], [(0, 451), (1, 450), (3, 504), (2, 0), (4, 0), (5, 0), (6, 0), (7, 384), (8, 0)], 191, [], none⟩),
    (20, ⟨[2], [2, 30, 59, 88], [], 0, [], none⟩)] (Tryd.f10.body.getD .skip) = some M10 := by kernel_rfl
theorem Run10 {args : List PV} {v : AV} {rs : List (Nat × List PV)} (ids : List Bool) (h : args.length ≤ 91) (hv : run Tryd.prog (retK [RV.cell 2 3 true] ids v rs) M10 [] ⟨entry 0 args, []⟩) : Fn Tryd.prog 10 args v rs :=
  Fn_run ids (by kernel_rfl) Tryd.func10 (by decide) rfl mc10 (by kernel_rfl) (by rw [Tryd.ntmps10]; exact h) (by rw [Tryd.ntmps10]; decide) hv

/-- 'trystref08.May' -/
def B14_0 : MC := (.seq (.seq (.reg [⟨(some 20), none, (.q (.mv (.t 3)))⟩, ⟨(some 21), none, (.q (.fa (.t 1) 0))⟩, ⟨(some 22), none, (.q (.ld (.t 21) 1 false))⟩, ⟨(some 23), none, (.q (.len (.t 22)
  false))⟩, ⟨(some 24), none, (.q (.bin .lss (.t 20) (.t 23)))⟩] [] [1, 3, 24] [1]) (.cond (.t 24) .skip (.exit 0))) (.seq (.block 1 (.seq (.reg [⟨(some 27), none, (.q (.fa (.t 1) 0))⟩, ⟨(some 28),
  none, (.q (.ld (.t 27) 1 false))⟩, ⟨(some 29), none, (.q (.mv (.t 3)))⟩, ⟨(some 30), none, (.q (.bin .sub (.t 29) (.c (.int .i64 1))))⟩, ⟨(some 31), none, (.q (.ia (.t 28) (.t 30) 1))⟩, ⟨(some 32),
  none, (.q (.ld (.t 31) 1 false))⟩, ⟨(some 33), none, (.q (.fa (.t 1) 0))⟩, ⟨(some 34), none, (.q (.ld (.t 33) 1 false))⟩, ⟨(some 35), none, (.q (.mv (.t 3)))⟩, ⟨(some 36), none, (.q (.ia (.t 34)
  (.t 35) 1))⟩, ⟨(some 37), none, (.q (.ld (.t 36) 1 false))⟩, ⟨(some 38), none, (.q (.bin .geq (.t 32) (.t 37)))⟩] [] [1, 3, 38] [1]) (.cond (.t 38) (.seq (.reg [⟨(some 2), none,
  (.q (.mv (.c (.bool false))))⟩] [] [2] []) .ret) .skip))) (.reg [⟨(some 25), none, (.q (.mv (.t 3)))⟩, ⟨(some 26), none, (.q (.bin .add (.t 25) (.c (.int .i64 1))))⟩, ⟨(some 3), none,
  (.q (.mv (.t 26)))⟩] [] [1, 3] [1])))
def B14_2 : MC := (.seq (.seq (.reg [⟨(some 57), none, (.q (.mv (.t 5)))⟩, ⟨(some 58), none, (.q (.fa (.t 1) 1))⟩, ⟨(some 59), none, (.q (.ld (.t 58) 1 false))⟩, ⟨(some 60), none, (.q (.mv (.t 4)))⟩,
  ⟨(some 61), none, (.q (.ia (.t 59) (.t 60) 1))⟩, ⟨(some 62), none, (.q (.ld (.t 61) 1 false))⟩, ⟨(some 63), none, (.q (.len (.t 62) false))⟩, ⟨(some 64), none, (.q (.bin .lss (.t 57)
  (.t 63)))⟩] [] [1, 4, 5, 64] [1]) (.cond (.t 64) .skip (.exit 4))) (.seq (.block 5 (.seq (.reg [⟨(some 67), none, (.q (.fa (.t 1) 1))⟩, ⟨(some 68), none, (.q (.ld (.t 67) 1 false))⟩, ⟨(some 69),
  none, (.q (.mv (.t 4)))⟩, ⟨(some 70), none, (.q (.ia (.t 68) (.t 69) 1))⟩, ⟨(some 71), none, (.q (.ld (.t 70) 1 false))⟩, ⟨(some 72), none, (.q (.mv (.t 5)))⟩, ⟨(some 73), none, (.q (.ia (.t 71)
  (.t 72) 1))⟩, ⟨(some 74), none, (.q (.ld (.t 73) 1 false))⟩, ⟨(some 75), none, (.q (.bin .lss (.t 74) (.c (.int .i64 (-1)))))⟩, ⟨(some 76), none, (.q (.mv (.t 75)))⟩, ⟨(some 77), (some (76, false)),
  (.q (.fa (.t 1) 1))⟩, ⟨(some 78), (some (76, false)), (.q (.ld (.t 77) 1 false))⟩, ⟨(some 79), (some (76, false)), (.q (.mv (.t 4)))⟩, ⟨(some 80), (some (76, false)), (.q (.ia (.t 78) (.t 79) 1))⟩,
  ⟨(some 81), (some (76, false)), (.q (.ld (.t 80) 1 false))⟩, ⟨(some 82), (some (76, false)), (.q (.mv (.t 5)))⟩, ⟨(some 83), (some (76, false)), (.q (.ia (.t 81) (.t 82) 1))⟩, ⟨(some 84), (some (76,
  false)), (.q (.ld (.t 83) 1 false))⟩, ⟨(some 85), (some (76, false)), (.q (.fa (.t 1) 1))⟩, ⟨(some 86), (some (76, false)), (.q (.ld (.t 85) 1 false))⟩, ⟨(some 87), (some (76, false)),
  (.q (.len (.t 86) false))⟩, ⟨(some 88), (some (76, false)), (.q (.bin .geq (.t 84) (.t 87)))⟩, ⟨(some 89), none, (.q (.pick (.t 76) (.c (.bool true)) (.t 88)))⟩] [] [1, 4, 5, 89] [1]) (.cond (.t 89)
  (.seq (.reg [⟨(some 2), none, (.q (.mv (.c (.bool false))))⟩] [] [2] []) .ret) .skip))) (.reg [⟨(some 65), none, (.q (.mv (.t 5)))⟩, ⟨(some 66), none, (.q (.bin .add (.t 65) (.c (.int .i64 1))))⟩,
  ⟨(some 5), none, (.q (.mv (.t 66)))⟩] [] [1, 4, 5] [1])))
def B14_3 : MC := (.seq (.seq (.reg [⟨(some 90), none, (.q (.mv (.t 6)))⟩, ⟨(some 91), none, (.q (.fa (.t 1) 2))⟩, ⟨(some 92), none, (.q (.ld (.t 91) 1 false))⟩, ⟨(some 93), none, (.q (.mv (.t 4)))⟩,
  ⟨(some 94), none, (.q (.ia (.t 92) (.t 93) 1))⟩, ⟨(some 95), none, (.q (.ld (.t 94) 1 false))⟩, ⟨(some 96), none, (.q (.len (.t 95) false))⟩, ⟨(some 97), none, (.q (.bin .lss (.t 90)
  (.t 96)))⟩] [] [1, 4, 6, 97] [1]) (.cond (.t 97) .skip (.exit 6))) (.seq (.block 7 (.seq (.reg [⟨(some 100), none, (.q (.fa (.t 1) 2))⟩, ⟨(some 101), none, (.q (.ld (.t 100) 1 false))⟩, ⟨(some 102),
  none, (.q (.mv (.t 4)))⟩, ⟨(some 103), none, (.q (.ia (.t 101) (.t 102) 1))⟩, ⟨(some 104), none, (.q (.ld (.t 103) 1 false))⟩, ⟨(some 105), none, (.q (.mv (.t 6)))⟩, ⟨(some 106), none,
  (.q (.ia (.t 104) (.t 105) 1))⟩, ⟨(some 107), none, (.q (.ld (.t 106) 1 false))⟩, ⟨(some 108), none, (.q (.bin .lss (.t 107) (.c (.int .i64 0))))⟩, ⟨(some 109), none, (.q (.mv (.t 108)))⟩,
  ⟨(some 110), (some (109, false)), (.q (.mv (.t 6)))⟩, ⟨(some 111), (some (109, false)), (.q (.bin .gtr (.t 110) (.c (.int .i64 0))))⟩, ⟨(some 112), (some (109, false)), (.q (.mv (.t 111)))⟩,
  ⟨(some 113), (some (112, true)), (.q (.fa (.t 1) 2))⟩, ⟨(some 114), (some (112, true)), (.q (.ld (.t 113) 1 false))⟩, ⟨(some 115), (some (112, true)), (.q (.mv (.t 4)))⟩, ⟨(some 116), (some (112,
  true)), (.q (.ia (.t 114) (.t 115) 1))⟩, ⟨(some 117), (some (112, true)), (.q (.ld (.t 116) 1 false))⟩, ⟨(some 118), (some (112, true)), (.q (.mv (.t 6)))⟩, ⟨(some 119), (some (112, true)),
  (.q (.bin .sub (.t 118) (.c (.int .i64 1))))⟩, ⟨(some 120), (some (112, true)), (.q (.ia (.t 117) (.t 119) 1))⟩, ⟨(some 121), (some (112, true)), (.q (.ld (.t 120) 1 false))⟩, ⟨(some 122),
  (some (112, true)), (.q (.fa (.t 1) 2))⟩, ⟨(some 123), (some (112, true)), (.q (.ld (.t 122) 1 false))⟩, ⟨(some 124), (some (112, true)), (.q (.mv (.t 4)))⟩, ⟨(some 125), (some (112, true)),
  (.q (.ia (.t 123) (.t 124) 1))⟩, ⟨(some 126), (some (112, true)), (.q (.ld (.t 125) 1 false))⟩, ⟨(some 127), (some (112, true)), (.q (.mv (.t 6)))⟩, ⟨(some 128), (some (112, true)),
  (.q (.ia (.t 126) (.t 127) 1))⟩, ⟨(some 129), (some (112, true)), (.q (.ld (.t 128) 1 false))⟩, ⟨(some 130), (some (112, true)), (.q (.bin .geq (.t 121) (.t 129)))⟩, ⟨(some 131), (some (109,
  false)), (.q (.pick (.t 112) (.t 130) (.c (.bool false))))⟩, ⟨(some 132), none, (.q (.pick (.t 109) (.c (.bool true)) (.t 131)))⟩] [] [1, 4, 6, 132] [1]) (.cond (.t 132) (.seq (.reg [⟨(some 2),
  none, (.q (.mv (.c (.bool false))))⟩] [] [2] []) .ret) .skip))) (.reg [⟨(some 98), none, (.q (.mv (.t 6)))⟩, ⟨(some 99), none, (.q (.bin .add (.t 98) (.c (.int .i64 1))))⟩, ⟨(some 6), none,
  (.q (.mv (.t 99)))⟩] [] [1, 4, 6] [1])))
def R14_2 : MC := (.seq (.reg [⟨(some 6), none, (.q (.mv (.c (.int .i64 0))))⟩] [] [1, 4, 6] [1]) (.block 6 (.loop B14_3)))
def B14_1 : MC := (.seq (.seq (.reg [⟨(some 39), none, (.q (.mv (.t 4)))⟩, ⟨(some 40), none, (.q (.fa (.t 1) 1))⟩, ⟨(some 41), none, (.q (.ld (.t 40) 1 false))⟩, ⟨(some 42), none, (.q (.len (.t 41)
  false))⟩, ⟨(some 43), none, (.q (.bin .lss (.t 39) (.t 42)))⟩] [] [1, 4, 43] [1]) (.cond (.t 43) .skip (.exit 2))) (.seq (.block 3 (.seq (.seq (.reg [⟨(some 46), none, (.q (.fa (.t 1) 1))⟩,
  ⟨(some 47), none, (.q (.ld (.t 46) 1 false))⟩, ⟨(some 48), none, (.q (.mv (.t 4)))⟩, ⟨(some 49), none, (.q (.ia (.t 47) (.t 48) 1))⟩, ⟨(some 50), none, (.q (.ld (.t 49) 1 false))⟩, ⟨(some 51), none,
  (.q (.len (.t 50) false))⟩, ⟨(some 52), none, (.q (.fa (.t 1) 0))⟩, ⟨(some 53), none, (.q (.ld (.t 52) 1 false))⟩, ⟨(some 54), none, (.q (.len (.t 53) false))⟩, ⟨(some 55), none,
  (.q (.bin .add (.t 54) (.c (.int .i64 1))))⟩, ⟨(some 56), none, (.q (.bin .neq (.t 51) (.t 55)))⟩] [] [1, 4, 56] [1]) (.cond (.t 56) (.seq (.reg [⟨(some 2), none,
  (.q (.mv (.c (.bool false))))⟩] [] [2] []) .ret) .skip)) (.seq (.seq (.reg [⟨(some 5), none, (.q (.mv (.c (.int .i64 0))))⟩] [] [1, 4, 5] [1]) (.block 4 (.loop B14_2))) R14_2))) (.reg [⟨(some 44),
  none, (.q (.mv (.t 4)))⟩, ⟨(some 45), none, (.q (.bin .add (.t 44) (.c (.int .i64 1))))⟩, ⟨(some 4), none, (.q (.mv (.t 45)))⟩] [] [1, 4] [1])))
def R14_1 : MC := (.seq (.reg [⟨(some 2), none, (.q (.mv (.c (.bool true))))⟩] [] [2] []) .ret)
def R14_0 : MC := (.seq (.seq (.reg [⟨(some 4), none, (.q (.mv (.c (.int .i64 0))))⟩] [] [1, 4] [1]) (.block 2 (.loop B14_1))) R14_1)
def M14 : MC := (.seq (.reg [⟨(some 1), none, (.box (.t 0))⟩, ⟨(some 2), none, (.q (.mv (.c (.bool false))))⟩] [] [1] [1]) (.seq (.seq (.reg [⟨(some 7), none, (.q (.fa (.t 1) 1))⟩, ⟨(some 8), none,
  (.q (.ld (.t 7) 1 false))⟩, ⟨(some 9), none, (.q (.len (.t 8) false))⟩, ⟨(some 10), none, (.q (.bin .eql (.t 9) (.c (.int .i64 0))))⟩, ⟨(some 11), none, (.q (.mv (.t 10)))⟩, ⟨(some 12), (some (11,
  false)), (.q (.fa (.t 1) 2))⟩, ⟨(some 13), (some (11, false)), (.q (.ld (.t 12) 1 false))⟩, ⟨(some 14), (some (11, false)), (.q (.len (.t 13) false))⟩, ⟨(some 15), (some (11, false)),
  (.q (.fa (.t 1) 1))⟩, ⟨(some 16), (some (11, false)), (.q (.ld (.t 15) 1 false))⟩, ⟨(some 17), (some (11, false)), (.q (.len (.t 16) false))⟩, ⟨(some 18), (some (11, false)), (.q (.bin .neq (.t 14)
  (.t 17)))⟩, ⟨(some 19), none, (.q (.pick (.t 11) (.c (.bool true)) (.t 18)))⟩] [] [1, 19] [1]) (.cond (.t 19) (.seq (.reg [⟨(some 2), none, (.q (.mv (.c (.bool false))))⟩] [] [2] []) .ret) .skip))
  (.seq (.seq (.reg [⟨(some 3), none, (.q (.mv (.c (.int .i64 1))))⟩] [] [1, 3] [1]) (.block 0 (.loop B14_0))) R14_0)))
theorem mc14 : ofCode Tryd.prog [] Tryd.f14.ntmps [(0, ⟨[1], [1], [], 0, [], none⟩),
    (1, ⟨[1, 19], [1], [], 0, [], none⟩),
    (2, ⟨[2], [], [], 0, [], none⟩),
    (3, ⟨[1, 3], [1], [], 0, [], none⟩),
    (4, ⟨[1, 3, 24], [1], [], 0, [], none⟩),
    (5, ⟨[1, 3], [1], [], 0, [], none⟩),
    (6, ⟨[1, 3, 38], [1], [(0, 2099), (1, 2098), (2, 2108), (3, 2104), (4, 2096), (5, 2080), (6, 3776), (7, 3712), (8, 3840), (9, 3584), (10, 3072), (11, 2048)], 4095, [], none⟩),
    (7, ⟨[2], [], [], 0, [], none⟩),
    (8, ⟨[1, 4], [1], [], 0, [], none⟩),
    (9, ⟨[1, 4, 43], [1], [], 0, [], none⟩),
    (10, ⟨[1, 4], [1], [], 0, [], none⟩),
    (11, ⟨[1, 4, 56], [1], [(0, 1083), (1, 1082), (2, 1084), (3, 1080), (4, 1072), (5, 1056), (6, 1984), (7, 1920), (8, 1792), (9, 1536), (10, 1024)], 2047, [], none⟩),
    (12, ⟨[2], [], [], 0, [], none⟩),
    (13, ⟨[1, 4, 5], [1], [], 0, [], none⟩),
    (14, ⟨[1, 4, 5, 64], [1], [], 0, [], none⟩),
    (15, ⟨[1, 4, 5], [1], [], 0, [], none⟩),
    (16, ⟨[1, 4, 5, 89], [1], [(0, 8388571), (1, 8388570), (2, 8388572), (3, 8388568), (4, 8388560), (5, 8388576), (6, 8388544), (7, 8388480), (8, 8388352), (9, 8388096), (10, 6515712), (11, 6514688), (12, 6516736), (13, 6512640), (14, 6504448), (15, 6520832), (16, 6488064), (17, 6422528), (18, 8126464), (19, 7864320), (20, 7340032), (21, 6291456), (22, 4194304)], 8388607, [], none⟩),
    (17, ⟨[2], [], [], 0, [], none⟩),
    (18, ⟨[1, 4, 6], [1], [], 0, [], none⟩),
    (19, ⟨[1, 4, 6, 97], [1], [], 0, [], none⟩),
    (20, ⟨[1, 4, 6], [1], [], 0, [], none⟩),
    (21, ⟨[1, 4, 6, 132], [1], [(0, 8589934555), (1, 8589934554), (2, 8589934556), (3, 8589934552), (4, 8589934544), (5, 8589934560), (6, 8589934528), (7, 8589934464), (8, 8589934336), (9, 8589934080), (10, 8589933568), (11, 8589932544), (12, 8589930496), (13, 7519559680), (14, 7519551488), (15, 7519567872), (16, 7519535104), (17, 7519469568), (18, 7520124928), (19, 7519862784), (20, 7519338496), (21, 7518289920), (22, 8434745344), (23, 8430551040), (24, 8438939648), (25, 8422162432), (26, 8388608000), (27, 8455716864), (28, 8321499136), (29, 8053063680), (30, 7516192768), (31, 6442450944), (32, 4294967296)], 8589934591, [], none⟩),
    (22, ⟨[2], [], [], 0, [], none⟩),
    (23, ⟨[2], [], [], 0, [], none⟩)] (Tryd.f14.body.getD .skip) = some M14 := by kernel_rfl
theorem Run14 {args : List PV} {v : AV} {rs : List (Nat × List PV)} (ids : List Bool) (h : args.length ≤ 133) (hv : run Tryd.prog (retK [RV.tmp 2] ids v rs) M14 [] ⟨entry 0 args, []⟩) : Fn Tryd.prog 14 args v rs :=
  Fn_run ids (by kernel_rfl) Tryd.func14 (by decide) rfl mc14 (by kernel_rfl) (by rw [Tryd.ntmps14]; exact h) (by rw [Tryd.ntmps14]; decide) hv

end Go.Vc

namespace Go.Vc
open Go.Proofs
set_option linter.unusedSimpArgs false
set_option linter.unusedVariables false

/-! ## 'Few' of an automaton; the document's 'May' -/
def fewD (d : DI) : DI := ⟨(d.signs.take 6).map fewS, (d.next.take 14).map (·.take 8), (d.done.take 14).map (·.take 5)⟩
theorem take_end {α : Type} {l : List α} {i n : Nat} (hi : i ≤ l.length) (hn : i ≤ n) (h : ¬ (i < l.length ∧ i < n)) : l.take i = l.take n := by
  by_cases h1 : i < l.length
  · have : i = n := by
      apply Classical.byContradiction
      intro hne
      exact h ⟨h1, by omega⟩
    rw [this]
  · rw [List.take_of_length_le (by omega), List.take_of_length_le (by omega)]
theorem dec2 {i n m : Nat} (h : ¬ (i < n ∧ i < m)) : (decide ((i : Int) < (n : Int)) && decide ((i : Int) < (m : Int))) = false := by
  rw [← Bool.not_eq_true, Bool.and_eq_true, decide_eq_true_eq, decide_eq_true_eq]
  rintro ⟨a, b⟩
  exact h ⟨by omega, by omega⟩
theorem map_snoc {α β : Type} (f : α → β) {l : List α} {i : Nat} (h : i < l.length) : (l.take (i + 1)).map f = (l.take i).map f ++ [f l[i]] := by
  rw [List.take_succ_eq_append_getElem h, List.map_append]; rfl
abbrev tk8 (n : Nat) (l : List Int) : PV := ints (l.take n)
set_option maxHeartbeats 2000000 in
theorem fn10 (d : DI) : Fn Tryd.prog 10 [pDi d] (.pv (pDi (fewD d))) [] := by
  refine Run10 [] (by simp) ?_
  simp only [go_sem, Nat.reduceEqDiff, Nat.reduceBEq, Nat.reduceAdd, Nat.reduceMul, Nat.reduceSub, Nat.reduceLeDiff, Nat.reduceLT, reduceIte, reduceCtorEq, Int.reduceToNat, Int.reduceLE, Int.reduceLT, Int.reduceNeg, Bool.not_not, and_self, Bool.and_eq_false_iff, Int.cast_ofNat_Int, Int.reduceAdd, Int.reduceSub, Int.reduceMul, Int.reduceEq, Int.reduceNe, M10]
  refine run_loopX (T := Nat) [1, 2, 3, 4] [1, 2, 3, 30]
    (fun i => ⟨[(1, .ptr 1 0), (2, .ptr 2 0), (3, .ptr 3 0), (4, .pv (pI i))], [(1, .box (dBox d)), (2, .box [.e0, .e0, .e0]), (3, .box [.row 30 0 i, .e0, .e0]), (30, .sl 1 ((d.signs.take i).map fun s => pS (fewS s)))]⟩)
    (fun i => i ≤ d.signs.length ∧ i ≤ 6) (fun i => 6 - i) 0 ?_ ⟨Nat.zero_le _, by omega⟩ ?_
  · refine ⟨_, Weak.virtBs _ [(3, 0, 30, 1)], ?_⟩
    simp only [go_sem, Nat.reduceEqDiff, Nat.reduceBEq, Nat.reduceAdd, Nat.reduceMul, Nat.reduceSub, Nat.reduceLeDiff, Nat.reduceLT, reduceIte, reduceCtorEq, Int.reduceToNat, Int.reduceLE, Int.reduceLT, Int.reduceNeg, Bool.not_not, and_self, Bool.and_eq_false_iff, Int.cast_ofNat_Int, Int.reduceAdd, Int.reduceSub, Int.reduceMul, Int.reduceEq, Int.reduceNe]
  rintro i ⟨hi, hi6⟩
  by_cases hlt : i < d.signs.length ∧ i < 6
  · obtain ⟨h1, h2⟩ := hlt
    have htk : List.take i ((d.signs.take i).map fun s => pS (fewS s)) = (d.signs.take i).map fun s => pS (fewS s) := List.take_of_length_le (by simp; omega)
    have hsn := map_snoc (fun s => pS (fewS s)) h1
    simp only [go_sem, Nat.reduceEqDiff, Nat.reduceBEq, Nat.reduceAdd, Nat.reduceMul, Nat.reduceSub, Nat.reduceLeDiff, Nat.reduceLT, reduceIte, reduceCtorEq, Int.reduceToNat, Int.reduceLE, Int.reduceLT, Int.reduceNeg, Bool.not_not, and_self, Bool.and_eq_false_iff, Int.cast_ofNat_Int, Int.reduceAdd, Int.reduceSub, Int.reduceMul, Int.reduceEq, Int.reduceNe, B10_0, show (i : Int) < (d.signs.length : Int) by omega, show (i : Int) < 6 by omega, wf_ss, getD_map h1]
    refine runR_callf (by simp only [go_sem, Nat.reduceEqDiff, Nat.reduceBEq, Nat.reduceAdd, Nat.reduceMul, Nat.reduceSub, Nat.reduceLeDiff, Nat.reduceLT, reduceIte, reduceCtorEq, Int.reduceToNat, Int.reduceLE, Int.reduceLT, Int.reduceNeg, Bool.not_not, and_self, Bool.and_eq_false_iff, Int.cast_ofNat_Int, Int.reduceAdd, Int.reduceSub, Int.reduceMul, Int.reduceEq, Int.reduceNe]) (by simp only [go_sem, Nat.reduceEqDiff, Nat.reduceBEq, Nat.reduceAdd, Nat.reduceMul, Nat.reduceSub, Nat.reduceLeDiff, Nat.reduceLT, reduceIte, reduceCtorEq, Int.reduceToNat, Int.reduceLE, Int.reduceLT, Int.reduceNeg, Bool.not_not, and_self, Bool.and_eq_false_iff, Int.cast_ofNat_Int, Int.reduceAdd, Int.reduceSub, Int.reduceMul, Int.reduceEq, Int.reduceNe] <;> rfl) (fn19 d.signs[i]) ⟨rfl, trivial⟩ trivial ?_
    simp only [go_sem, Nat.reduceEqDiff, Nat.reduceBEq, Nat.reduceAdd, Nat.reduceMul, Nat.reduceSub, Nat.reduceLeDiff, Nat.reduceLT, reduceIte, reduceCtorEq, Int.reduceToNat, Int.reduceLE, Int.reduceLT, Int.reduceNeg, Bool.not_not, and_self, Bool.and_eq_false_iff, Int.cast_ofNat_Int, Int.reduceAdd, Int.reduceSub, Int.reduceMul, Int.reduceEq, Int.reduceNe, htk]
    refine ⟨⟨wf_ss [fewS d.signs[i]], by omega, by omega⟩, ⟨by omega, by omega⟩, i + 1, ⟨_, Weak.refl' _, ?_⟩, ⟨by omega, by omega⟩, by omega⟩
    rw [hsn]
    simp only [go_sem, Nat.reduceEqDiff, Nat.reduceBEq, Nat.reduceAdd, Nat.reduceMul, Nat.reduceSub, Nat.reduceLeDiff, Nat.reduceLT, reduceIte, reduceCtorEq, Int.reduceToNat, Int.reduceLE, Int.reduceLT, Int.reduceNeg, Bool.not_not, and_self, Bool.and_eq_false_iff, Int.cast_ofNat_Int, Int.reduceAdd, Int.reduceSub, Int.reduceMul, Int.reduceEq, Int.reduceNe]
    rfl
  · have he : List.take i d.signs = List.take 6 d.signs := take_end hi hi6 hlt
    have hd0 : (decide ((i : Int) < (d.signs.length : Int)) && decide ((i : Int) < 6)) = false := dec2 hlt
    rw [he]
    have hn0 : ((d.signs.take 6).map fun s => pS (fewS s)).length = i := by rw [← he]; simp; omega
    obtain ⟨S, hS⟩ : ∃ S, S = (d.signs.take 6).map fun s => pS (fewS s) := ⟨_, rfl⟩
    rw [← hS] at hn0 ⊢
    simp only [go_sem, Nat.reduceEqDiff, Nat.reduceBEq, Nat.reduceAdd, Nat.reduceMul, Nat.reduceSub, Nat.reduceLeDiff, Nat.reduceLT, reduceIte, reduceCtorEq, Int.reduceToNat, Int.reduceLE, Int.reduceLT, Int.reduceNeg, Bool.not_not, and_self, Bool.and_eq_false_iff, Int.cast_ofNat_Int, Int.reduceAdd, Int.reduceSub, Int.reduceMul, Int.reduceEq, Int.reduceNe, B10_0, hd0, R10_0]
    clear hlt he hi hi6 hd0
    refine run_loopX (T := Nat) [1, 2, 3, 5] [1, 2, 3, 30, 59]
      (fun j => ⟨[(1, .ptr 1 0), (2, .ptr 2 0), (3, .ptr 3 0), (5, .pv (pI j))], [(1, .box (dBox d)), (2, .box [.e0, .e0, .e0]), (3, .box [.row 30 0 i, .row 59 0 j, .e0]), (30, .sl 1 S), (59, .sl 1 ((d.next.take j).map (tk8 8)))]⟩)
      (fun j => j ≤ d.next.length ∧ j ≤ 14) (fun j => 14 - j) 0 ?_ ⟨Nat.zero_le _, by omega⟩ ?_
    · refine ⟨_, Weak.virtBs _ [(3, 1, 59, 1)], ?_⟩
      simp only [go_sem, Nat.reduceEqDiff, Nat.reduceBEq, Nat.reduceAdd, Nat.reduceMul, Nat.reduceSub, Nat.reduceLeDiff, Nat.reduceLT, reduceIte, reduceCtorEq, Int.reduceToNat, Int.reduceLE, Int.reduceLT, Int.reduceNeg, Bool.not_not, and_self, Bool.and_eq_false_iff, Int.cast_ofNat_Int, Int.reduceAdd, Int.reduceSub, Int.reduceMul, Int.reduceEq, Int.reduceNe]
    rintro j ⟨hj, hj14⟩
    by_cases hlt : j < d.next.length ∧ j < 14
    · obtain ⟨h1, h2⟩ := hlt
      have htk : List.take j ((d.next.take j).map (tk8 8)) = (d.next.take j).map (tk8 8) := List.take_of_length_le (by simp; omega)
      have hsn := map_snoc (tk8 8) h1
      obtain ⟨row, hrow⟩ : ∃ row, row = d.next[j] := ⟨_, rfl⟩
      rw [← hrow] at hsn
      by_cases h8 : 8 < row.length
      · simp only [go_sem, Nat.reduceEqDiff, Nat.reduceBEq, Nat.reduceAdd, Nat.reduceMul, Nat.reduceSub, Nat.reduceLeDiff, Nat.reduceLT, reduceIte, reduceCtorEq, Int.reduceToNat, Int.reduceLE, Int.reduceLT, Int.reduceNeg, Bool.not_not, and_self, Bool.and_eq_false_iff, Int.cast_ofNat_Int, Int.reduceAdd, Int.reduceSub, Int.reduceMul, Int.reduceEq, Int.reduceNe, B10_1, show (j : Int) < (d.next.length : Int) by omega, show (j : Int) < 14 by omega, wf_intss, wf_ints, getD_map h1, ← hrow, show (8 : Int) < (row.length : Int) by omega, htk, ← List.map_take]
        refine ⟨by omega, ⟨by simp; omega, by simp; omega⟩, ⟨wf_intss [row.take 8], by omega, by omega⟩, ⟨by omega, by omega⟩, j + 1, ⟨_, Weak.refl' _, ?_⟩, ⟨by omega, by omega⟩, by omega⟩
        rw [hsn]
        simp only [go_sem, Nat.reduceEqDiff, Nat.reduceBEq, Nat.reduceAdd, Nat.reduceMul, Nat.reduceSub, Nat.reduceLeDiff, Nat.reduceLT, reduceIte, reduceCtorEq, Int.reduceToNat, Int.reduceLE, Int.reduceLT, Int.reduceNeg, Bool.not_not, and_self, Bool.and_eq_false_iff, Int.cast_ofNat_Int, Int.reduceAdd, Int.reduceSub, Int.reduceMul, Int.reduceEq, Int.reduceNe]
        rfl
      · simp only [go_sem, Nat.reduceEqDiff, Nat.reduceBEq, Nat.reduceAdd, Nat.reduceMul, Nat.reduceSub, Nat.reduceLeDiff, Nat.reduceLT, reduceIte, reduceCtorEq, Int.reduceToNat, Int.reduceLE, Int.reduceLT, Int.reduceNeg, Bool.not_not, and_self, Bool.and_eq_false_iff, Int.cast_ofNat_Int, Int.reduceAdd, Int.reduceSub, Int.reduceMul, Int.reduceEq, Int.reduceNe, B10_1, show (j : Int) < (d.next.length : Int) by omega, show (j : Int) < 14 by omega, wf_intss, wf_ints, getD_map h1, ← hrow, show ¬ (8 : Int) < (row.length : Int) by omega, htk]
        refine ⟨⟨by omega, by omega⟩, ⟨wf_intss [row], by omega, by omega⟩, ⟨by omega, by omega⟩, j + 1, ⟨_, Weak.refl' _, ?_⟩, ⟨by omega, by omega⟩, by omega⟩
        rw [hsn, show tk8 8 row = ints row by unfold tk8; rw [List.take_of_length_le (by omega)]]
        simp only [go_sem, Nat.reduceEqDiff, Nat.reduceBEq, Nat.reduceAdd, Nat.reduceMul, Nat.reduceSub, Nat.reduceLeDiff, Nat.reduceLT, reduceIte, reduceCtorEq, Int.reduceToNat, Int.reduceLE, Int.reduceLT, Int.reduceNeg, Bool.not_not, and_self, Bool.and_eq_false_iff, Int.cast_ofNat_Int, Int.reduceAdd, Int.reduceSub, Int.reduceMul, Int.reduceEq, Int.reduceNe]
        rfl
    · have he : List.take j d.next = List.take 14 d.next := take_end hj hj14 hlt
      have hd1 : (decide ((j : Int) < (d.next.length : Int)) && decide ((j : Int) < 14)) = false := dec2 hlt
      rw [he]
      have hn1 : ((d.next.take 14).map (tk8 8)).length = j := by rw [← he]; simp; omega
      obtain ⟨N, hN⟩ : ∃ N, N = (d.next.take 14).map (tk8 8) := ⟨_, rfl⟩
      rw [← hN] at hn1 ⊢
      simp only [go_sem, Nat.reduceEqDiff, Nat.reduceBEq, Nat.reduceAdd, Nat.reduceMul, Nat.reduceSub, Nat.reduceLeDiff, Nat.reduceLT, reduceIte, reduceCtorEq, Int.reduceToNat, Int.reduceLE, Int.reduceLT, Int.reduceNeg, Bool.not_not, and_self, Bool.and_eq_false_iff, Int.cast_ofNat_Int, Int.reduceAdd, Int.reduceSub, Int.reduceMul, Int.reduceEq, Int.reduceNe, B10_1, hd1, R10_1]
      clear hlt he hj hj14 hd1
      refine run_loopX (T := Nat) [1, 2, 3, 7] [1, 2, 3, 30, 59, 88]
        (fun k => ⟨[(1, .ptr 1 0), (2, .ptr 2 0), (3, .ptr 3 0), (7, .pv (pI k))], [(1, .box (dBox d)), (2, .box [.e0, .e0, .e0]), (3, .box [.row 30 0 i, .row 59 0 j, .row 88 0 k]), (30, .sl 1 S), (59, .sl 1 N), (88, .sl 1 ((d.done.take k).map (tk8 5)))]⟩)
        (fun k => k ≤ d.done.length ∧ k ≤ 14) (fun k => 14 - k) 0 ?_ ⟨Nat.zero_le _, by omega⟩ ?_
      · refine ⟨_, Weak.virtBs _ [(3, 2, 88, 1)], ?_⟩
        simp only [go_sem, Nat.reduceEqDiff, Nat.reduceBEq, Nat.reduceAdd, Nat.reduceMul, Nat.reduceSub, Nat.reduceLeDiff, Nat.reduceLT, reduceIte, reduceCtorEq, Int.reduceToNat, Int.reduceLE, Int.reduceLT, Int.reduceNeg, Bool.not_not, and_self, Bool.and_eq_false_iff, Int.cast_ofNat_Int, Int.reduceAdd, Int.reduceSub, Int.reduceMul, Int.reduceEq, Int.reduceNe]
      rintro k ⟨hk, hk14⟩
      by_cases hlt : k < d.done.length ∧ k < 14
      · obtain ⟨h1, h2⟩ := hlt
        have htk : List.take k ((d.done.take k).map (tk8 5)) = (d.done.take k).map (tk8 5) := List.take_of_length_le (by simp; omega)
        have hsn := map_snoc (tk8 5) h1
        obtain ⟨row, hrow⟩ : ∃ row, row = d.done[k] := ⟨_, rfl⟩
        rw [← hrow] at hsn
        by_cases h8 : 5 < row.length
        · simp only [go_sem, Nat.reduceEqDiff, Nat.reduceBEq, Nat.reduceAdd, Nat.reduceMul, Nat.reduceSub, Nat.reduceLeDiff, Nat.reduceLT, reduceIte, reduceCtorEq, Int.reduceToNat, Int.reduceLE, Int.reduceLT, Int.reduceNeg, Bool.not_not, and_self, Bool.and_eq_false_iff, Int.cast_ofNat_Int, Int.reduceAdd, Int.reduceSub, Int.reduceMul, Int.reduceEq, Int.reduceNe, B10_2, show (k : Int) < (d.done.length : Int) by omega, show (k : Int) < 14 by omega, wf_intss, wf_ints, getD_map h1, ← hrow, show (5 : Int) < (row.length : Int) by omega, htk, ← List.map_take]
          refine ⟨by omega, ⟨by simp; omega, by simp; omega⟩, ⟨wf_intss [row.take 5], by omega, by omega⟩, ⟨by omega, by omega⟩, k + 1, ⟨_, Weak.refl' _, ?_⟩, ⟨by omega, by omega⟩, by omega⟩
          rw [hsn]
          simp only [go_sem, Nat.reduceEqDiff, Nat.reduceBEq, Nat.reduceAdd, Nat.reduceMul, Nat.reduceSub, Nat.reduceLeDiff, Nat.reduceLT, reduceIte, reduceCtorEq, Int.reduceToNat, Int.reduceLE, Int.reduceLT, Int.reduceNeg, Bool.not_not, and_self, Bool.and_eq_false_iff, Int.cast_ofNat_Int, Int.reduceAdd, Int.reduceSub, Int.reduceMul, Int.reduceEq, Int.reduceNe]
          rfl
        · simp only [go_sem, Nat.reduceEqDiff, Nat.reduceBEq, Nat.reduceAdd, Nat.reduceMul, Nat.reduceSub, Nat.reduceLeDiff, Nat.reduceLT, reduceIte, reduceCtorEq, Int.reduceToNat, Int.reduceLE, Int.reduceLT, Int.reduceNeg, Bool.not_not, and_self, Bool.and_eq_false_iff, Int.cast_ofNat_Int, Int.reduceAdd, Int.reduceSub, Int.reduceMul, Int.reduceEq, Int.reduceNe, B10_2, show (k : Int) < (d.done.length : Int) by omega, show (k : Int) < 14 by omega, wf_intss, wf_ints, getD_map h1, ← hrow, show ¬ (5 : Int) < (row.length : Int) by omega, htk]
          refine ⟨⟨by omega, by omega⟩, ⟨wf_intss [row], by omega, by omega⟩, ⟨by omega, by omega⟩, k + 1, ⟨_, Weak.refl' _, ?_⟩, ⟨by omega, by omega⟩, by omega⟩
          rw [hsn, show tk8 5 row = ints row by unfold tk8; rw [List.take_of_length_le (by omega)]]
          simp only [go_sem, Nat.reduceEqDiff, Nat.reduceBEq, Nat.reduceAdd, Nat.reduceMul, Nat.reduceSub, Nat.reduceLeDiff, Nat.reduceLT, reduceIte, reduceCtorEq, Int.reduceToNat, Int.reduceLE, Int.reduceLT, Int.reduceNeg, Bool.not_not, and_self, Bool.and_eq_false_iff, Int.cast_ofNat_Int, Int.reduceAdd, Int.reduceSub, Int.reduceMul, Int.reduceEq, Int.reduceNe]
          rfl
      · have he : List.take k d.done = List.take 14 d.done := take_end hk hk14 hlt
        have hd2 : (decide ((k : Int) < (d.done.length : Int)) && decide ((k : Int) < 14)) = false := dec2 hlt
        rw [he]
        have hn2 : ((d.done.take 14).map (tk8 5)).length = k := by rw [← he]; simp; omega
        have t1 : List.take i S = S := List.take_of_length_le (by omega)
        have t2 : List.take j N = N := List.take_of_length_le (by omega)
        have t3 : List.take k ((d.done.take 14).map (tk8 5)) = (d.done.take 14).map (tk8 5) := List.take_of_length_le (by omega)
        simp only [go_sem, Nat.reduceEqDiff, Nat.reduceBEq, Nat.reduceAdd, Nat.reduceMul, Nat.reduceSub, Nat.reduceLeDiff, Nat.reduceLT, reduceIte, reduceCtorEq, Int.reduceToNat, Int.reduceLE, Int.reduceLT, Int.reduceNeg, Bool.not_not, and_self, Bool.and_eq_false_iff, Int.cast_ofNat_Int, Int.reduceAdd, Int.reduceSub, Int.reduceMul, Int.reduceEq, Int.reduceNe, B10_2, hd2, R10_2, t1, t2, t3]
        rw [hS, hN]
        show _ = PV.agg [.lst (((d.signs.take 6).map fewS).map pS), .lst (((d.next.take 14).map (·.take 8)).map ints), .lst (((d.done.take 14).map (·.take 5)).map ints)]
        rw [List.map_map, List.map_map, List.map_map]
        rfl
end Go.Vc

namespace Go.Vc
open Go.Proofs
set_option linter.unusedSimpArgs false
set_option linter.unusedVariables false

/-! ## the document's 'May' -/
theorem risk_of {l : List Int} (hr : risI l = true) (h0 : l.length = 0 ∨ 0 ≤ l.getD 0 0) : ∀ k, k < l.length → 0 ≤ l.getD k 0
  | 0, hk => by omega
  | k + 1, hk => by
    have h1 := risI_iff.1 hr k hk
    have h2 := risk_of hr h0 k (by omega)
    omega
set_option maxHeartbeats 4000000 in
theorem fn14 (d : DI) (hd : d.Sm) : Fn Tryd.prog 14 [pDi d] (.pv (pB (mayB d))) [] := by
  have h1 := hd.signs
  have h2 := hd.next
  have h3 := hd.done
  refine Run14 [] (by simp) ?_
  by_cases hn : d.next.length = 0
  · have hm : mayB d = false := by unfold mayB; rw [hn]; rfl
    simp only [go_sem, Nat.reduceEqDiff, Nat.reduceBEq, Nat.reduceAdd, Nat.reduceMul, Nat.reduceSub, Nat.reduceLeDiff, Nat.reduceLT, reduceIte, reduceCtorEq, Int.reduceToNat, Int.reduceLE, Int.reduceLT, Int.reduceNeg, Bool.not_not, and_self, Bool.and_eq_false_iff, Int.cast_ofNat_Int, Int.reduceAdd, Int.reduceSub, Int.reduceMul, Int.reduceEq, Int.reduceNe, M14, hn, hm]
  by_cases hl : ¬ d.done.length = d.next.length
  · have hm : mayB d = false := by unfold mayB; rw [decide_eq_false hl]; simp
    simp only [go_sem, Nat.reduceEqDiff, Nat.reduceBEq, Nat.reduceAdd, Nat.reduceMul, Nat.reduceSub, Nat.reduceLeDiff, Nat.reduceLT, reduceIte, reduceCtorEq, Int.reduceToNat, Int.reduceLE, Int.reduceLT, Int.reduceNeg, Bool.not_not, and_self, Bool.and_eq_false_iff, Int.cast_ofNat_Int, Int.reduceAdd, Int.reduceSub, Int.reduceMul, Int.reduceEq, Int.reduceNe, M14, hn, show ¬ ((d.next.length : Nat) : Int) = 0 by omega, show ¬ ((d.done.length : Nat) : Int) = (d.next.length : Int) by omega, hm]
  replace hl := Classical.not_not.1 hl
  simp only [go_sem, Nat.reduceEqDiff, Nat.reduceBEq, Nat.reduceAdd, Nat.reduceMul, Nat.reduceSub, Nat.reduceLeDiff, Nat.reduceLT, reduceIte, reduceCtorEq, Int.reduceToNat, Int.reduceLE, Int.reduceLT, Int.reduceNeg, Bool.not_not, and_self, Bool.and_eq_false_iff, Int.cast_ofNat_Int, Int.reduceAdd, Int.reduceSub, Int.reduceMul, Int.reduceEq, Int.reduceNe, M14, hn, hl, show ¬ ((d.next.length : Nat) : Int) = 0 by omega]
  refine run_loopN (T := Nat) [1, 3] [1] (fun k => ⟨[(1, .ptr 1 0), (3, .pv (pI (k + 1 : Nat)))], [(1, .box (dBox d))]⟩) (fun k => (k < d.signs.length ∨ k = 0) ∧ ∀ j, j < k → ltB (d.signs.getD j ⟨#[]⟩) (d.signs.getD (j + 1) ⟨#[]⟩) = true) (fun k => d.signs.length - k) 0 ?_ ⟨.inr rfl, by omega⟩ ?_
  · simp only [go_sem, Nat.reduceEqDiff, Nat.reduceBEq, Nat.reduceAdd, Nat.reduceMul, Nat.reduceSub, Nat.reduceLeDiff, Nat.reduceLT, reduceIte, reduceCtorEq, Int.reduceToNat, Int.reduceLE, Int.reduceLT, Int.reduceNeg, Bool.not_not, and_self, Bool.and_eq_false_iff, Int.cast_ofNat_Int, Int.reduceAdd, Int.reduceSub, Int.reduceMul, Int.reduceEq, Int.reduceNe]
  rintro k ⟨hk, hr⟩
  have e1 : (((k + 1 : Nat) : Int) - 1).toNat = k := by omega
  by_cases hlt : k + 1 < d.signs.length
  · have g1 : d.signs.getD k ⟨#[]⟩ = d.signs[k] := by simp [List.getD_eq_getElem?_getD, show k < d.signs.length by omega]
    have g2 : d.signs.getD (k + 1) ⟨#[]⟩ = d.signs[k + 1] := by simp [List.getD_eq_getElem?_getD, hlt]
    cases hlt2 : Op.bytesLess d.signs[k].toList d.signs[k + 1].toList with
    | true =>
      simp only [go_sem, Nat.reduceEqDiff, Nat.reduceBEq, Nat.reduceAdd, Nat.reduceMul, Nat.reduceSub, Nat.reduceLeDiff, Nat.reduceLT, reduceIte, reduceCtorEq, Int.reduceToNat, Int.reduceLE, Int.reduceLT, Int.reduceNeg, Bool.not_not, and_self, Bool.and_eq_false_iff, Int.cast_ofNat_Int, Int.reduceAdd, Int.reduceSub, Int.reduceMul, Int.reduceEq, Int.reduceNe, B14_0, show ((k + 1 : Nat) : Int) < (d.signs.length : Int) by omega, e1, wf_ss, getD_map hlt, getD_map (show k < d.signs.length by omega), hlt2]
      refine ⟨⟨by omega, by omega⟩, ⟨by omega, by omega⟩, ⟨by omega, by omega⟩, k + 1, rfl, ⟨.inl hlt, fun j hj => ?_⟩, by omega⟩
      by_cases hjk : j = k
      · subst hjk; rw [g1, g2]; exact hlt2
      · exact hr j (by omega)
    | false =>
      have hf : risS d.signs = false := by
        rw [← Bool.not_eq_true]
        intro ht
        have := risS_iff.1 ht k hlt
        rw [g1, g2] at this
        unfold ltB at this
        rw [hlt2] at this; cases this
      have hm : mayB d = false := by unfold mayB; rw [hf]; simp
      simp only [go_sem, Nat.reduceEqDiff, Nat.reduceBEq, Nat.reduceAdd, Nat.reduceMul, Nat.reduceSub, Nat.reduceLeDiff, Nat.reduceLT, reduceIte, reduceCtorEq, Int.reduceToNat, Int.reduceLE, Int.reduceLT, Int.reduceNeg, Bool.not_not, and_self, Bool.and_eq_false_iff, Int.cast_ofNat_Int, Int.reduceAdd, Int.reduceSub, Int.reduceMul, Int.reduceEq, Int.reduceNe, B14_0, show ((k + 1 : Nat) : Int) < (d.signs.length : Int) by omega, e1, wf_ss, getD_map hlt, getD_map (show k < d.signs.length by omega), hlt2, hm]
      exact ⟨⟨by omega, by omega⟩, by omega, by omega⟩
  · have hs : risS d.signs = true := risS_iff.2 fun j hj => hr j (by omega)
    simp only [go_sem, Nat.reduceEqDiff, Nat.reduceBEq, Nat.reduceAdd, Nat.reduceMul, Nat.reduceSub, Nat.reduceLeDiff, Nat.reduceLT, reduceIte, reduceCtorEq, Int.reduceToNat, Int.reduceLE, Int.reduceLT, Int.reduceNeg, Bool.not_not, and_self, Bool.and_eq_false_iff, Int.cast_ofNat_Int, Int.reduceAdd, Int.reduceSub, Int.reduceMul, Int.reduceEq, Int.reduceNe, B14_0, R14_0, show ¬ ((k + 1 : Nat) : Int) < (d.signs.length : Int) by omega]
    clear hr hk e1 hlt
    refine run_loopN (T := Nat) [1, 4] [1] (fun i => ⟨[(1, .ptr 1 0), (4, .pv (pI i))], [(1, .box (dBox d))]⟩)
      (fun i => i ≤ d.next.length ∧ ∀ j, j < i → okRow d j = true) (fun i => d.next.length - i) 0 rfl ⟨Nat.zero_le _, by omega⟩ ?_
    rintro i ⟨hi, hok⟩
    by_cases hlt : i < d.next.length
    · obtain ⟨row, hrow⟩ : ∃ row, row = d.next.getD i [] := ⟨_, rfl⟩
      have hnx : d.next[i] = row := by rw [hrow]; simp [List.getD_eq_getElem?_getD, hlt]
      obtain ⟨dn, hdn⟩ : ∃ dn, dn = d.done.getD i [] := ⟨_, rfl⟩
      have hid : i < d.done.length := by omega
      have hil : (i : Int) < (d.next.length : Int) := by omega
      have hid' : (i : Int) < (d.done.length : Int) := by omega
      have hdx : d.done[i] = dn := by rw [hdn]; simp [List.getD_eq_getElem?_getD, hid]
      have hrl : row.length ≤ 1000 := by rw [hrow]; exact hd.nexts i
      have hdl : dn.length ≤ 1000 := by rw [hdn]; exact hd.dones i
      have hokr : okRow d i = (decide (row.length = d.signs.length + 1) && (row.all (fun t => decide (-1 ≤ t ∧ t < (d.next.length : Int))) && (risI dn && (decide (dn.length = 0) || decide (0 ≤ dn.getD 0 0))))) := by
        unfold okRow; rw [← hrow, ← hdn]
      by_cases hw : row.length = d.signs.length + 1
      · have hdw : decide (((row.length : Nat) : Int) = (d.signs.length : Int) + 1) = true := decide_eq_true (by omega)
        simp only [go_sem, Nat.reduceEqDiff, Nat.reduceBEq, Nat.reduceAdd, Nat.reduceMul, Nat.reduceSub, Nat.reduceLeDiff, Nat.reduceLT, reduceIte, reduceCtorEq, Int.reduceToNat, Int.reduceLE, Int.reduceLT, Int.reduceNeg, Bool.not_not, and_self, Bool.and_eq_false_iff, Int.cast_ofNat_Int, Int.reduceAdd, Int.reduceSub, Int.reduceMul, Int.reduceEq, Int.reduceNe, B14_1, show (i : Int) < (d.next.length : Int) by omega, hil, getD_map hlt, hnx, wf_intss, hdw]
        refine ⟨⟨by omega, by omega⟩, ?_⟩
        refine run_loopN (T := Nat) [1, 4, 5] [1] (fun k => ⟨[(1, .ptr 1 0), (4, .pv (pI i)), (5, .pv (pI k))], [(1, .box (dBox d))]⟩)
          (fun k => k ≤ row.length ∧ ∀ t ∈ row.take k, -1 ≤ t ∧ t < (d.next.length : Int)) (fun k => row.length - k) 0 ?_ ⟨Nat.zero_le _, by simp⟩ ?_
        · simp only [go_sem, Nat.reduceEqDiff, Nat.reduceBEq, Nat.reduceAdd, Nat.reduceMul, Nat.reduceSub, Nat.reduceLeDiff, Nat.reduceLT, reduceIte, reduceCtorEq, Int.reduceToNat, Int.reduceLE, Int.reduceLT, Int.reduceNeg, Bool.not_not, and_self, Bool.and_eq_false_iff, Int.cast_ofNat_Int, Int.reduceAdd, Int.reduceSub, Int.reduceMul, Int.reduceEq, Int.reduceNe]
        rintro k ⟨hk, hall⟩
        by_cases hkl : k < row.length
        · by_cases hlo : row[k] < -1
          · have hm : mayB d = false := may_false hlt (by
              rw [hokr]
              have : (row.all fun t => decide (-1 ≤ t ∧ t < (d.next.length : Int))) = false := by
                rw [List.all_eq_false]
                exact ⟨row[k], List.getElem_mem hkl, by simp; omega⟩
              rw [this]; simp)
            simp only [go_sem, Nat.reduceEqDiff, Nat.reduceBEq, Nat.reduceAdd, Nat.reduceMul, Nat.reduceSub, Nat.reduceLeDiff, Nat.reduceLT, reduceIte, reduceCtorEq, Int.reduceToNat, Int.reduceLE, Int.reduceLT, Int.reduceNeg, Bool.not_not, and_self, Bool.and_eq_false_iff, Int.cast_ofNat_Int, Int.reduceAdd, Int.reduceSub, Int.reduceMul, Int.reduceEq, Int.reduceNe, B14_2, show (k : Int) < (row.length : Int) by omega, hil, getD_map hlt, hnx, wf_intss, getD_map hkl, wf_ints, hlo, hm]
          · by_cases hhi : (d.next.length : Int) ≤ row[k]
            · have hm : mayB d = false := may_false hlt (by
                rw [hokr]
                have : (row.all fun t => decide (-1 ≤ t ∧ t < (d.next.length : Int))) = false := by
                  rw [List.all_eq_false]
                  exact ⟨row[k], List.getElem_mem hkl, by simp; omega⟩
                rw [this]; simp)
              simp only [go_sem, Nat.reduceEqDiff, Nat.reduceBEq, Nat.reduceAdd, Nat.reduceMul, Nat.reduceSub, Nat.reduceLeDiff, Nat.reduceLT, reduceIte, reduceCtorEq, Int.reduceToNat, Int.reduceLE, Int.reduceLT, Int.reduceNeg, Bool.not_not, and_self, Bool.and_eq_false_iff, Int.cast_ofNat_Int, Int.reduceAdd, Int.reduceSub, Int.reduceMul, Int.reduceEq, Int.reduceNe, B14_2, show (k : Int) < (row.length : Int) by omega, hil, getD_map hlt, hnx, wf_intss, getD_map hkl, wf_ints, hlo, hhi, hm]
            · simp only [go_sem, Nat.reduceEqDiff, Nat.reduceBEq, Nat.reduceAdd, Nat.reduceMul, Nat.reduceSub, Nat.reduceLeDiff, Nat.reduceLT, reduceIte, reduceCtorEq, Int.reduceToNat, Int.reduceLE, Int.reduceLT, Int.reduceNeg, Bool.not_not, and_self, Bool.and_eq_false_iff, Int.cast_ofNat_Int, Int.reduceAdd, Int.reduceSub, Int.reduceMul, Int.reduceEq, Int.reduceNe, B14_2, show (k : Int) < (row.length : Int) by omega, hil, getD_map hlt, hnx, wf_intss, getD_map hkl, wf_ints, hlo, hhi]
              refine ⟨⟨by omega, by omega⟩, k + 1, rfl, ⟨hkl, fun t ht => ?_⟩, by omega⟩
              rw [List.take_succ_eq_append_getElem hkl] at ht
              rcases List.mem_append.1 ht with ht | ht
              · exact hall t ht
              · rw [List.mem_singleton] at ht
                subst ht
                exact ⟨by omega, by omega⟩
        · have hall2 : (row.all fun t => decide (-1 ≤ t ∧ t < (d.next.length : Int))) = true := by
            rw [List.all_eq_true]
            intro t ht
            have := hall t (by rw [List.take_of_length_le (by omega)]; exact ht)
            simpa using this
          simp only [go_sem, Nat.reduceEqDiff, Nat.reduceBEq, Nat.reduceAdd, Nat.reduceMul, Nat.reduceSub, Nat.reduceLeDiff, Nat.reduceLT, reduceIte, reduceCtorEq, Int.reduceToNat, Int.reduceLE, Int.reduceLT, Int.reduceNeg, Bool.not_not, and_self, Bool.and_eq_false_iff, Int.cast_ofNat_Int, Int.reduceAdd, Int.reduceSub, Int.reduceMul, Int.reduceEq, Int.reduceNe, B14_2, R14_2, show ¬ (k : Int) < (row.length : Int) by omega, hil, getD_map hlt, hnx, wf_intss]
          clear hall hkl hk
          refine run_loopN (T := Nat) [1, 4, 6] [1] (fun k => ⟨[(1, .ptr 1 0), (4, .pv (pI i)), (6, .pv (pI k))], [(1, .box (dBox d))]⟩)
            (fun k => k ≤ dn.length ∧ (∀ j, j < k → 0 ≤ dn.getD j 0) ∧ ∀ j, j + 1 < k → dn.getD j 0 < dn.getD (j + 1) 0) (fun k => dn.length - k) 0 ?_ ⟨Nat.zero_le _, by simp, by simp⟩ ?_
          · simp only [go_sem, Nat.reduceEqDiff, Nat.reduceBEq, Nat.reduceAdd, Nat.reduceMul, Nat.reduceSub, Nat.reduceLeDiff, Nat.reduceLT, reduceIte, reduceCtorEq, Int.reduceToNat, Int.reduceLE, Int.reduceLT, Int.reduceNeg, Bool.not_not, and_self, Bool.and_eq_false_iff, Int.cast_ofNat_Int, Int.reduceAdd, Int.reduceSub, Int.reduceMul, Int.reduceEq, Int.reduceNe]
          rintro k ⟨hk, hpos, hris⟩
          by_cases hkl : k < dn.length
          · have gk : dn.getD k 0 = dn[k] := by simp [List.getD_eq_getElem?_getD, hkl]
            by_cases hneg : dn[k] < 0
            · have hm : mayB d = false := may_false hlt (by
                rw [hokr]
                cases hr : risI dn with
                | false => simp
                | true =>
                  have h0 : ¬ (dn.length = 0 ∨ 0 ≤ dn.getD 0 0) := fun h => by
                    have := risk_of hr h k hkl
                    omega
                  rw [decide_eq_false (fun h => h0 (.inl h)), decide_eq_false (fun h => h0 (.inr h))]; simp)
              simp only [go_sem, Nat.reduceEqDiff, Nat.reduceBEq, Nat.reduceAdd, Nat.reduceMul, Nat.reduceSub, Nat.reduceLeDiff, Nat.reduceLT, reduceIte, reduceCtorEq, Int.reduceToNat, Int.reduceLE, Int.reduceLT, Int.reduceNeg, Bool.not_not, and_self, Bool.and_eq_false_iff, Int.cast_ofNat_Int, Int.reduceAdd, Int.reduceSub, Int.reduceMul, Int.reduceEq, Int.reduceNe, B14_3, show (k : Int) < (dn.length : Int) by omega, hil, hid', getD_map hid, hdx, wf_intss, getD_map hkl, wf_ints, hneg, hm]
              done
            · by_cases hk0 : k = 0
              · subst hk0
                simp only [go_sem, Nat.reduceEqDiff, Nat.reduceBEq, Nat.reduceAdd, Nat.reduceMul, Nat.reduceSub, Nat.reduceLeDiff, Nat.reduceLT, reduceIte, reduceCtorEq, Int.reduceToNat, Int.reduceLE, Int.reduceLT, Int.reduceNeg, Bool.not_not, and_self, Bool.and_eq_false_iff, Int.cast_ofNat_Int, Int.reduceAdd, Int.reduceSub, Int.reduceMul, Int.reduceEq, Int.reduceNe, B14_3, show (0 : Int) < (dn.length : Int) by omega, hil, hid', getD_map hid, hdx, wf_intss, getD_map hkl, wf_ints, hneg]
                refine ⟨1, rfl, ⟨by omega, fun j hj => ?_, fun j hj => by omega⟩, by omega⟩
                obtain rfl : j = 0 := by omega
                omega
              · obtain ⟨m, rfl⟩ : ∃ m, k = m + 1 := ⟨k - 1, by omega⟩
                have e1 : (((m + 1 : Nat) : Int) - 1).toNat = m := by omega
                have gm : dn.getD m 0 = dn[m] := by simp [List.getD_eq_getElem?_getD, show m < dn.length by omega]
                by_cases hcmp : dn[m] < dn[m + 1]
                · simp only [go_sem, Nat.reduceEqDiff, Nat.reduceBEq, Nat.reduceAdd, Nat.reduceMul, Nat.reduceSub, Nat.reduceLeDiff, Nat.reduceLT, reduceIte, reduceCtorEq, Int.reduceToNat, Int.reduceLE, Int.reduceLT, Int.reduceNeg, Bool.not_not, and_self, Bool.and_eq_false_iff, Int.cast_ofNat_Int, Int.reduceAdd, Int.reduceSub, Int.reduceMul, Int.reduceEq, Int.reduceNe, B14_3, show ((m + 1 : Nat) : Int) < (dn.length : Int) by omega, show (0 : Int) < ((m + 1 : Nat) : Int) by omega, e1, hil, hid', getD_map hid, hdx, wf_intss, getD_map hkl, getD_map (show m < dn.length by omega), wf_ints, hneg, show ¬ dn[m + 1] ≤ dn[m] by omega]
                  refine ⟨⟨by omega, by omega⟩, ⟨by omega, by omega⟩, ⟨by omega, by omega⟩, m + 1 + 1, rfl, ⟨by omega, fun j hj => ?_, fun j hj => ?_⟩, by omega⟩
                  · by_cases hjm : j = m + 1
                    · subst hjm; omega
                    · exact hpos j (by omega)
                  · by_cases hjm : j = m
                    · subst hjm; omega
                    · exact hris j (by omega)
                · have hm : mayB d = false := may_false hlt (by
                    rw [hokr]
                    have : risI dn = false := by
                      rw [← Bool.not_eq_true]
                      intro ht
                      have := risI_iff.1 ht m hkl
                      omega
                    rw [this]; simp)
                  simp only [go_sem, Nat.reduceEqDiff, Nat.reduceBEq, Nat.reduceAdd, Nat.reduceMul, Nat.reduceSub, Nat.reduceLeDiff, Nat.reduceLT, reduceIte, reduceCtorEq, Int.reduceToNat, Int.reduceLE, Int.reduceLT, Int.reduceNeg, Bool.not_not, and_self, Bool.and_eq_false_iff, Int.cast_ofNat_Int, Int.reduceAdd, Int.reduceSub, Int.reduceMul, Int.reduceEq, Int.reduceNe, B14_3, show ((m + 1 : Nat) : Int) < (dn.length : Int) by omega, show (0 : Int) < ((m + 1 : Nat) : Int) by omega, e1, hil, hid', getD_map hid, hdx, wf_intss, getD_map hkl, getD_map (show m < dn.length by omega), wf_ints, hneg, show dn[m + 1] ≤ dn[m] by omega, hm]
                  exact ⟨by omega, by omega⟩
          · have hrd : risI dn = true := risI_iff.2 fun j hj => hris j (by omega)
            have h0 : (decide (dn.length = 0) || decide (0 ≤ dn.getD 0 0)) = true := by
              by_cases hz : dn.length = 0
              · rw [decide_eq_true hz]; rfl
              · rw [decide_eq_true (hpos 0 (by omega))]; simp
            simp only [go_sem, Nat.reduceEqDiff, Nat.reduceBEq, Nat.reduceAdd, Nat.reduceMul, Nat.reduceSub, Nat.reduceLeDiff, Nat.reduceLT, reduceIte, reduceCtorEq, Int.reduceToNat, Int.reduceLE, Int.reduceLT, Int.reduceNeg, Bool.not_not, and_self, Bool.and_eq_false_iff, Int.cast_ofNat_Int, Int.reduceAdd, Int.reduceSub, Int.reduceMul, Int.reduceEq, Int.reduceNe, B14_3, show ¬ (k : Int) < (dn.length : Int) by omega, hil, hid', getD_map hid, hdx, wf_intss]
            refine ⟨⟨by omega, by omega⟩, i + 1, rfl, ⟨hlt, fun j hj => ?_⟩, by omega⟩
            by_cases hji : j = i
            · subst hji; rw [hokr, hw, hall2, hrd, h0]; simp
            · exact hok j (by omega)
      · have hm : mayB d = false := may_false hlt (by rw [hokr, decide_eq_false hw]; simp)
        simp only [go_sem, Nat.reduceEqDiff, Nat.reduceBEq, Nat.reduceAdd, Nat.reduceMul, Nat.reduceSub, Nat.reduceLeDiff, Nat.reduceLT, reduceIte, reduceCtorEq, Int.reduceToNat, Int.reduceLE, Int.reduceLT, Int.reduceNeg, Bool.not_not, and_self, Bool.and_eq_false_iff, Int.cast_ofNat_Int, Int.reduceAdd, Int.reduceSub, Int.reduceMul, Int.reduceEq, Int.reduceNe, B14_1, show (i : Int) < (d.next.length : Int) by omega, hil, getD_map hlt, hnx, wf_intss, show ¬ ((row.length : Nat) : Int) = (d.signs.length : Int) + 1 by omega, hm]
        exact ⟨by omega, by omega⟩
    · have hm : mayB d = true := by
        unfold mayB
        rw [decide_eq_true hn, decide_eq_true hl, hs, List.all_eq_true.2 fun j hj => hok j (by have := List.mem_range.1 hj; omega)]
        rfl
      simp only [go_sem, Nat.reduceEqDiff, Nat.reduceBEq, Nat.reduceAdd, Nat.reduceMul, Nat.reduceSub, Nat.reduceLeDiff, Nat.reduceLT, reduceIte, reduceCtorEq, Int.reduceToNat, Int.reduceLE, Int.reduceLT, Int.reduceNeg, Bool.not_not, and_self, Bool.and_eq_false_iff, Int.cast_ofNat_Int, Int.reduceAdd, Int.reduceSub, Int.reduceMul, Int.reduceEq, Int.reduceNe, B14_1, R14_1, show ¬ (i : Int) < (d.next.length : Int) by omega, hm]
end Go.Vc
