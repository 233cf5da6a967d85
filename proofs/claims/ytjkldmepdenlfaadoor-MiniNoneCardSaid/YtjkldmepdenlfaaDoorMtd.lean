/- A part of the proofs of the seat YtjkldmepdenlfaaDoor: the contracts of functions, each proved out of its code. -/
import Derived.Test.YtjkldmepdenlfaaDoorVh
import Derived.Test.YtjkldmepdenlfaaDoorProg
import Derived.Test.YtjkldmepdenlfaaDoorMtc
import Derived.Test.YtjkldmepdenlfaaDoorDc
namespace Go.Vc
open Go.Proofs
set_option maxRecDepth 100000


/-- 'slices.Clone[[]string,string]' -/
def M31 : MC := (.seq (.reg [⟨(some 2), none, (.q (.mv .nil))⟩] [] [0] []) (.seq (.seq (.reg [⟨(some 3), none, (.q (.mv (.t 0)))⟩, ⟨(some 4), none, (.isnil (.t 3) false)⟩] [] [0, 4] []) (.cond (.t 4)
  (.seq (.reg [⟨(some 2), none, (.q (.mv .nil))⟩] [(2, 2002, 1)] [2] [7, 2002]) .ret) .skip)) (.seq (.reg [⟨(some 5), none, (.lits [] 1)⟩, ⟨(some 6), none, (.q (.mv (.t 0)))⟩, ⟨(some 7), none,
  (.app (.t 5) (.t 6) 1 16)⟩, ⟨(some 2), none, (.q (.mv (.t 7)))⟩] [] [2] [7, 2002]) .ret)))
theorem mc31 : ofCode Tryd.prog [] Tryd.f31.ntmps [(0, ⟨[0], [], [], 0, [], none⟩),
    (1, ⟨[0, 4], [], [], 0, [], none⟩),
    (2, ⟨[2], [7, 2002], [], 0, [(2, 2002, 1)], none⟩),
    (3, ⟨[2], [7, 2002], [], 0, [], none⟩)] (Tryd.f31.body.getD .skip) = some M31 := by kernel_rfl
theorem Run31 {args : List PV} {v : AV} {rs : List (Nat × List PV)} (ids : List Bool) (h : args.length ≤ 8) (hv : run Tryd.prog (retK [RV.tmp 2] ids v rs) M31 [] ⟨entry 0 args, []⟩) : Fn Tryd.prog 31 args v rs :=
  Fn_run ids (by kernel_rfl) Tryd.func31 (by decide) rfl mc31 (by kernel_rfl) (by rw [Tryd.ntmps31]; exact h) (by rw [Tryd.ntmps31]; decide) hv

/-- 'slices.Clone[[]int,int]' -/
def M32 : MC := (.seq (.reg [⟨(some 2), none, (.q (.mv .nil))⟩] [] [0] []) (.seq (.seq (.reg [⟨(some 3), none, (.q (.mv (.t 0)))⟩, ⟨(some 4), none, (.isnil (.t 3) false)⟩] [] [0, 4] []) (.cond (.t 4)
  (.seq (.reg [⟨(some 2), none, (.q (.mv .nil))⟩] [(2, 2002, 1)] [2] [7, 2002]) .ret) .skip)) (.seq (.reg [⟨(some 5), none, (.lits [] 1)⟩, ⟨(some 6), none, (.q (.mv (.t 0)))⟩, ⟨(some 7), none,
  (.app (.t 5) (.t 6) 1 8)⟩, ⟨(some 2), none, (.q (.mv (.t 7)))⟩] [] [2] [7, 2002]) .ret)))
theorem mc32 : ofCode Tryd.prog [] Tryd.f32.ntmps [(0, ⟨[0], [], [], 0, [], none⟩),
    (1, ⟨[0, 4], [], [], 0, [], none⟩),
    (2, ⟨[2], [7, 2002], [], 0, [(2, 2002, 1)], none⟩),
    (3, ⟨[2], [7, 2002], [], 0, [], none⟩)] (Tryd.f32.body.getD .skip) = some M32 := by kernel_rfl
theorem Run32 {args : List PV} {v : AV} {rs : List (Nat × List PV)} (ids : List Bool) (h : args.length ≤ 8) (hv : run Tryd.prog (retK [RV.tmp 2] ids v rs) M32 [] ⟨entry 0 args, []⟩) : Fn Tryd.prog 32 args v rs :=
  Fn_run ids (by kernel_rfl) Tryd.func32 (by decide) rfl mc32 (by kernel_rfl) (by rw [Tryd.ntmps32]; exact h) (by rw [Tryd.ntmps32]; decide) hv

end Go.Vc

namespace Go.Vc
open Go.Proofs
set_option maxRecDepth 100000

/-- 'mini.Least' -/
def B11_1 : MC := (.seq (.reg [⟨(some 59), none, (.q (.bin .lss (.t 58) (.t 57)))⟩] [] [1, 2, 4, 5, 6, 7, 8, 9, 10, 11, 56, 57, 58, 59] [1, 2, 6, 29, 34, 51, 97, 107, 118, 1021, 1024, 1027])
  (.seq (.cond (.t 59) .skip (.exit 2)) (.seq (.block 3 (.seq (.reg [⟨(some 60), none, (.q (.mv (.t 58)))⟩, ⟨(some 61), none, (.q (.ia (.t 56) (.t 58) 1))⟩, ⟨(some 62), none, (.q (.ld (.t 61)
  1 false))⟩, ⟨(some 12), none, (.q (.mv (.t 60)))⟩, ⟨(some 13), none, (.q (.mv (.t 62)))⟩] [] [1, 2, 4, 5, 6, 7, 8, 9, 10, 11, 12, 13, 56, 57, 58] [1, 2, 6, 29, 34, 51, 97, 107, 118, 1021, 1024,
  1027]) (.seq (.seq (.reg [⟨(some 63), none, (.q (.mv (.t 13)))⟩, ⟨(some 64), none, (.q (.bin .eql (.t 63) (.c (.int .i64 (-1)))))⟩, ⟨(some 65), none, (.q (.mv (.t 64)))⟩, ⟨(some 66), (some (65,
  false)), (.q (.mv (.t 4)))⟩, ⟨(some 67), (some (65, false)), (.q (.mv (.t 13)))⟩, ⟨(some 68), (some (65, false)), (.q (.ia (.t 66) (.t 67) 1))⟩, ⟨(some 69), (some (65, false)), (.q (.ld (.t 68)
  1 false))⟩, ⟨(some 70), (some (65, false)), (.q (.not (.t 69)))⟩, ⟨(some 71), none, (.q (.pick (.t 65) (.c (.bool true)) (.t 70)))⟩] [] [1, 2, 4, 5, 6, 7, 8, 9, 10, 11, 12, 13, 56, 57, 58, 71] [1,
  2, 6, 29, 34, 51, 97, 107, 118, 1021, 1024, 1027]) (.cond (.t 71) (.seq (.reg [⟨(some 72), none, (.q (.mv (.t 11)))⟩, ⟨(some 73), none, (.q (.mv (.t 12)))⟩, ⟨(some 74), none, (.q (.ia (.t 72)
  (.t 73) 1))⟩, ⟨none, none, (.st (.t 74) (.c (.int .i64 (-1))) 1)⟩] [] [1, 2, 4, 5, 6, 7, 8, 9, 10, 11, 56, 57, 58] [1, 2, 6, 29, 34, 51, 97, 107, 118, 1021, 1024, 1027]) (.exit 3)) .skip))
  (.seq (.reg [⟨(some 76), none, (.q (.mv (.t 7)))⟩, ⟨(some 77), none, (.q (.mv (.t 5)))⟩, ⟨(some 78), none, (.q (.mv (.t 13)))⟩, ⟨(some 79), none, (.q (.ia (.t 77) (.t 78) 1))⟩, ⟨(some 80), none,
  (.q (.ld (.t 79) 1 false))⟩, ⟨(some 81), none, (.q (.mget (.t 76) (.t 80) true Kk.int (.pv (.sc (.int .i64 0)))))⟩, ⟨(some 75), none, (.q (.mv (.t 81)))⟩, ⟨(some 82), none, (.q (.ext (.t 75) 0))⟩,
  ⟨(some 83), none, (.q (.ext (.t 75) 1))⟩, ⟨(some 14), none, (.q (.mv (.t 82)))⟩, ⟨(some 15), none, (.q (.mv (.t 83)))⟩] [] [1, 2, 4, 5, 6, 7, 8, 9, 10, 11, 12, 13, 14, 15, 56, 57, 58] [1, 2, 6, 29,
  34, 51, 97, 107, 118, 1021, 1024, 1027]) (.seq (.seq (.reg [⟨(some 84), none, (.q (.mv (.t 15)))⟩, ⟨(some 85), none, (.q (.not (.t 84)))⟩] [] [1, 2, 4, 5, 6, 7, 8, 9, 10, 11, 12, 13, 14, 56, 57, 58,
  85] [1, 2, 6, 29, 34, 51, 97, 107, 118, 1021, 1024, 1027]) (.cond (.t 85) (.seq (.reg [⟨(some 86), none, (.q (.mv (.t 8)))⟩, ⟨(some 87), none, (.q (.len (.t 86) false))⟩, ⟨(some 14), none,
  (.q (.mv (.t 87)))⟩] [] [1, 2, 4, 5, 6, 7, 8, 9, 10, 11, 12, 13, 14, 56, 57, 58] [1, 2, 6, 29, 34, 51, 97, 107, 118, 1021, 1024, 1027]) (.seq (.reg [⟨(some 88), none, (.q (.mv (.t 7)))⟩, ⟨(some 89),
  none, (.q (.mv (.t 5)))⟩, ⟨(some 90), none, (.q (.mv (.t 13)))⟩, ⟨(some 91), none, (.q (.ia (.t 89) (.t 90) 1))⟩, ⟨(some 92), none, (.q (.ld (.t 91) 1 false))⟩, ⟨(some 93), none,
  (.q (.mv (.t 14)))⟩, ⟨none, none, (.mset (.t 88) (.t 92) (.t 93) Kk.int)⟩] [] [1, 2, 4, 5, 6, 7, 8, 9, 10, 11, 12, 13, 14, 56, 57, 58] [1, 2, 6, 29, 34, 51, 97, 107, 118, 1021, 1024, 1027])
  (.reg [⟨(some 94), none, (.q (.mv (.t 8)))⟩, ⟨(some 95), none, (.q (.mv (.t 13)))⟩, ⟨(some 96), none, (.lits [(.t 95)] 1)⟩, ⟨(some 97), none, (.app (.t 94) (.t 96) 1 8)⟩, ⟨(some 8), none,
  (.q (.mv (.t 97)))⟩] [] [1, 2, 4, 5, 6, 7, 8, 9, 10, 11, 12, 14, 56, 57, 58] [1, 2, 6, 29, 34, 51, 97, 107, 118, 1021, 1024, 1027]))) .skip)) (.reg [⟨(some 98), none, (.q (.mv (.t 11)))⟩,
  ⟨(some 99), none, (.q (.mv (.t 12)))⟩, ⟨(some 100), none, (.q (.mv (.t 14)))⟩, ⟨(some 101), none, (.q (.ia (.t 98) (.t 99) 1))⟩, ⟨none, none, (.st (.t 101) (.t 100) 1)⟩] [] [1, 2, 4, 5, 6, 7, 8, 9,
  10, 11, 56, 57, 58] [1, 2, 6, 29, 34, 51, 97, 107, 118, 1021, 1024, 1027])))))) (.reg [⟨(some 102), none, (.q (.bin .add (.t 58) (.c (.int .i64 1))))⟩, ⟨(some 58), none, (.q (.mv (.t 102)))⟩] [] [1,
  2, 4, 5, 6, 7, 8, 9, 10, 11, 56, 57, 58] [1, 2, 6, 29, 34, 51, 97, 107, 118, 1021, 1024, 1027]))))
def R11_1 : MC := (.seq (.reg [⟨(some 103), none, (.q (.fa (.t 6) 1))⟩, ⟨(some 104), none, (.q (.ld (.t 103) 1 false))⟩, ⟨(some 105), none, (.q (.mv (.t 11)))⟩, ⟨(some 106), none,
  (.lits [(.t 105)] 1)⟩, ⟨(some 107), none, (.app (.t 104) (.t 106) 1 24)⟩, ⟨(some 108), none, (.q (.fa (.t 6) 1))⟩, ⟨none, none, (.st (.t 108) (.t 107) 1)⟩] [] [1, 2, 4, 5, 6, 7, 8, 9, 10] [1, 2, 6,
  29, 34, 97, 107, 118, 1021, 1024, 1027]) (.reg [⟨(some 109), none, (.q (.fa (.t 6) 2))⟩, ⟨(some 110), none, (.q (.ld (.t 109) 1 false))⟩, ⟨(some 111), none, (.q (.fa (.t 1) 2))⟩, ⟨(some 112), none,
  (.q (.ld (.t 111) 1 false))⟩, ⟨(some 113), none, (.q (.mv (.t 10)))⟩, ⟨(some 114), none, (.q (.ia (.t 112) (.t 113) 1))⟩, ⟨(some 115), none, (.q (.ld (.t 114) 1 false))⟩, ⟨(some 116), none,
  (.call (.f 32) [(.t 115)])⟩, ⟨(some 117), none, (.lits [(.t 116)] 1)⟩, ⟨(some 118), none, (.app (.t 110) (.t 117) 1 24)⟩, ⟨(some 119), none, (.q (.fa (.t 6) 2))⟩, ⟨none, none, (.st (.t 119) (.t 118)
  1)⟩] [] [1, 2, 4, 5, 6, 7, 8, 9] [1, 2, 6, 29, 34, 97, 107, 118, 1021, 1024, 1027]))
def B11_0 : MC := (.seq (.seq (.reg [⟨(some 35), none, (.q (.mv (.t 9)))⟩, ⟨(some 36), none, (.q (.mv (.t 8)))⟩, ⟨(some 37), none, (.q (.len (.t 36) false))⟩, ⟨(some 38), none, (.q (.bin .lss (.t 35)
  (.t 37)))⟩] [] [1, 2, 4, 5, 6, 7, 8, 9, 38] [1, 2, 6, 29, 34, 97, 107, 118, 1021, 1024, 1027]) (.cond (.t 38) .skip (.exit 0))) (.seq (.block 1 (.seq (.reg [⟨(some 41), none, (.q (.mv (.t 8)))⟩,
  ⟨(some 42), none, (.q (.mv (.t 9)))⟩, ⟨(some 43), none, (.q (.ia (.t 41) (.t 42) 1))⟩, ⟨(some 44), none, (.q (.ld (.t 43) 1 false))⟩, ⟨(some 10), none, (.q (.mv (.t 44)))⟩] [] [1, 2, 4, 5, 6, 7, 8,
  9, 10] [1, 2, 6, 29, 34, 97, 107, 118, 1021, 1024, 1027]) (.seq (.reg [⟨(some 45), none, (.q (.fa (.t 1) 1))⟩, ⟨(some 46), none, (.q (.ld (.t 45) 1 false))⟩, ⟨(some 47), none, (.q (.mv (.t 10)))⟩,
  ⟨(some 48), none, (.q (.ia (.t 46) (.t 47) 1))⟩, ⟨(some 49), none, (.q (.ld (.t 48) 1 false))⟩, ⟨(some 50), none, (.q (.len (.t 49) false))⟩, ⟨(some 51), none, (.mks (.t 50) (.t 50)
  1 8 (.sc (.int .i64 0)))⟩, ⟨(some 11), none, (.q (.mv (.t 51)))⟩] [] [1, 2, 4, 5, 6, 7, 8, 9, 10, 11] [1, 2, 6, 29, 34, 51, 97, 107, 118, 1021, 1024, 1027]) (.seq (.seq (.reg [⟨(some 52), none,
  (.q (.fa (.t 1) 1))⟩, ⟨(some 53), none, (.q (.ld (.t 52) 1 false))⟩, ⟨(some 54), none, (.q (.mv (.t 10)))⟩, ⟨(some 55), none, (.q (.ia (.t 53) (.t 54) 1))⟩, ⟨(some 56), none, (.q (.ld (.t 55)
  1 false))⟩, ⟨(some 57), none, (.q (.len (.t 56) false))⟩, ⟨(some 58), none, (.q (.mv (.c (.int .i64 0))))⟩] [] [1, 2, 4, 5, 6, 7, 8, 9, 10, 11, 56, 57, 58] [1, 2, 6, 29, 34, 51, 97, 107, 118, 1021,
  1024, 1027]) (.block 2 (.loop B11_1))) R11_1)))) (.reg [⟨(some 39), none, (.q (.mv (.t 9)))⟩, ⟨(some 40), none, (.q (.bin .add (.t 39) (.c (.int .i64 1))))⟩, ⟨(some 9), none,
  (.q (.mv (.t 40)))⟩] [] [1, 2, 4, 5, 6, 7, 8, 9] [1, 2, 6, 29, 34, 97, 107, 118, 1021, 1024, 1027])))
def R11_0 : MC := (.seq (.reg [⟨(some 120), none, (.q (.ld (.t 6) 3 true))⟩, ⟨none, none, (.st (.t 2) (.t 120) 3)⟩, ⟨(some 3), none, (.q (.mv (.c (.int .i64 0))))⟩] [] [2, 3] [2, 107, 118, 1027])
  .ret)
def M11 : MC := (.seq (.reg [⟨(some 1), none, (.box (.t 0))⟩, ⟨(some 2), none, (.alloc [.e0, .e0, .e0])⟩, ⟨(some 3), none, (.q (.mv (.c (.int .i64 0))))⟩] [] [1, 2] [1, 2, 107, 118, 1027])
  (.seq (.seq (.reg [⟨(some 16), none, (.q (.ld (.t 1) 3 true))⟩, ⟨(some 17), none, (.call (.f 28) [(.t 16)])⟩, ⟨(some 18), none, (.q (.not (.t 17)))⟩] [] [1, 2, 18] [1, 2, 107, 118, 1017, 1027])
  (.cond (.t 18) (.seq (.reg [⟨(some 19), none, (.q (.mk [.e0, .e0, .e0] []))⟩, ⟨none, none, (.st (.t 2) (.t 19) 3)⟩, ⟨(some 3), none, (.q (.mv (.c (.int .i64 1))))⟩] [] [2, 3] [2, 107, 118, 1027])
  .ret) .skip)) (.seq (.reg [⟨(some 20), none, (.q (.ld (.t 1) 3 true))⟩, ⟨(some 21), none, (.call (.f 29) [(.t 20)])⟩, ⟨(some 4), none, (.q (.mv (.t 21)))⟩] [] [1, 2, 4] [1, 2, 107, 118, 1021, 1027])
  (.seq (.reg [⟨(some 22), none, (.q (.ld (.t 1) 3 true))⟩, ⟨(some 23), none, (.q (.mv (.t 4)))⟩, ⟨(some 24), none, (.call (.f 30) [(.t 22), (.t 23)])⟩, ⟨(some 5), none, (.q (.mv (.t 24)))⟩] [] [1, 2,
  4, 5] [1, 2, 107, 118, 1021, 1024, 1027]) (.seq (.reg [⟨(some 25), none, (.q (.fa (.t 1) 0))⟩, ⟨(some 26), none, (.q (.ld (.t 25) 1 false))⟩, ⟨(some 27), none, (.call (.f 31) [(.t 26)])⟩,
  ⟨(some 28), none, (.q (.mk [.e0, .e0, .e0] [(0, 1, (.t 27))]))⟩, ⟨(some 6), none, (.alloc [.e0, .e0, .e0])⟩, ⟨none, none, (.st (.t 6) (.t 28) 3)⟩] [] [1, 2, 4, 5, 6] [1, 2, 6, 107, 118, 1021, 1024,
  1027]) (.seq (.reg [⟨(some 29), none, .mkm⟩, ⟨(some 30), none, (.q (.mv (.t 5)))⟩, ⟨(some 31), none, (.q (.ia (.t 30) (.c (.int .i64 0)) 1))⟩, ⟨(some 32), none, (.q (.ld (.t 31) 1 false))⟩, ⟨none,
  none, (.mset (.t 29) (.t 32) (.c (.int .i64 0)) Kk.int)⟩, ⟨(some 33), none, (.q (.mv (.t 29)))⟩, ⟨(some 7), none, (.q (.mv (.t 33)))⟩] [] [1, 2, 4, 5, 6, 7] [1, 2, 6, 29, 107, 118, 1021, 1024,
  1027]) (.seq (.reg [⟨(some 34), none, (.own [(.c (.int .i64 0))] 1)⟩, ⟨(some 8), none, (.q (.mv (.t 34)))⟩] [] [1, 2, 4, 5, 6, 7, 8] [1, 2, 6, 29, 34, 97, 107, 118, 1021, 1024, 1027])
  (.seq (.seq (.reg [⟨(some 9), none, (.q (.mv (.c (.int .i64 0))))⟩] [] [1, 2, 4, 5, 6, 7, 8, 9] [1, 2, 6, 29, 34, 97, 107, 118, 1021, 1024, 1027]) (.block 0 (.loop B11_0))) R11_0))))))))
theorem mc11 : ofCode Tryd.prog [34] Tryd.f11.ntmps [(0, ⟨[1, 2], [1, 2, 107, 118, 1027], [], 0, [], none⟩),
    (1, ⟨[1, 2, 18], [1, 2, 107, 118, 1017, 1027], [], 0, [], none⟩),
    (2, ⟨[2, 3], [2, 107, 118, 1027], [], 0, [], none⟩),
    (3, ⟨[1, 2, 4], [1, 2, 107, 118, 1021, 1027], [], 0, [], none⟩),
    (4, ⟨[1, 2, 4, 5], [1, 2, 107, 118, 1021, 1024, 1027], [], 0, [], none⟩),
    (5, ⟨[1, 2, 4, 5, 6], [1, 2, 6, 107, 118, 1021, 1024, 1027], [], 0, [], none⟩),
    (6, ⟨[1, 2, 4, 5, 6, 7], [1, 2, 6, 29, 107, 118, 1021, 1024, 1027], [], 0, [], none⟩),
    (7, ⟨[1, 2, 4, 5, 6, 7, 8], [1, 2, 6, 29, 34, 97, 107, 118, 1021, 1024, 1027], [], 0, [], none⟩),
    (8, ⟨[1, 2, 4, 5, 6, 7, 8, 9], [1, 2, 6, 29, 34, 97, 107, 118, 1021, 1024, 1027], [], 0, [], none⟩),
    (9, ⟨[1, 2, 4, 5, 6, 7, 8, 9, 38], [1, 2, 6, 29, 34, 97, 107, 118, 1021, 1024, 1027], [], 0, [], none⟩),
    (10, ⟨[1, 2, 4, 5, 6, 7, 8, 9], [1, 2, 6, 29, 34, 97, 107, 118, 1021, 1024, 1027], [], 0, [], none⟩),
    (11, ⟨[1, 2, 4, 5, 6, 7, 8, 9, 10], [1, 2, 6, 29, 34, 97, 107, 118, 1021, 1024, 1027], [], 0, [], none⟩),
    (12, ⟨[1, 2, 4, 5, 6, 7, 8, 9, 10, 11], [1, 2, 6, 29, 34, 51, 97, 107, 118, 1021, 1024, 1027], [], 0, [], none⟩),
    (13, ⟨[1, 2, 4, 5, 6, 7, 8, 9, 10, 11, 56, 57, 58], [1, 2, 6, 29, 34, 51, 97, 107, 118, 1021, 1024, 1027], [], 0, [], none⟩),
    (14, ⟨[1, 2, 4, 5, 6, 7, 8, 9, 10, 11, 56, 57, 58, 59], [1, 2, 6, 29, 34, 51, 97, 107, 118, 1021, 1024, 1027], [], 0, [], none⟩),
    (15, ⟨[1, 2, 4, 5, 6, 7, 8, 9, 10, 11, 12, 13, 56, 57, 58], [1, 2, 6, 29, 34, 51, 97, 107, 118, 1021, 1024, 1027], [], 0, [], none⟩),
    (16, ⟨[1, 2, 4, 5, 6, 7, 8, 9, 10, 11, 12, 13, 56, 57, 58, 71], [1, 2, 6, 29, 34, 51, 97, 107, 118, 1021, 1024, 1027], [], 0, [], none⟩),
    (17, ⟨[1, 2, 4, 5, 6, 7, 8, 9, 10, 11, 56, 57, 58], [1, 2, 6, 29, 34, 51, 97, 107, 118, 1021, 1024, 1027], [], 0, [], none⟩),
    (18, ⟨[1, 2, 4, 5, 6, 7, 8, 9, 10, 11, 12, 13, 14, 15, 56, 57, 58], [1, 2, 6, 29, 34, 51, 97, 107, 118, 1021, 1024, 1027], [], 0, [], none⟩),
    (19, ⟨[1, 2, 4, 5, 6, 7, 8, 9, 10, 11, 12, 13, 14, 56, 57, 58, 85], [1, 2, 6, 29, 34, 51, 97, 107, 118, 1021, 1024, 1027], [], 0, [], none⟩),
    (20, ⟨[1, 2, 4, 5, 6, 7, 8, 9, 10, 11, 12, 13, 14, 56, 57, 58], [1, 2, 6, 29, 34, 51, 97, 107, 118, 1021, 1024, 1027], [], 0, [], none⟩),
    (21, ⟨[1, 2, 4, 5, 6, 7, 8, 9, 10, 11, 12, 13, 14, 56, 57, 58], [1, 2, 6, 29, 34, 51, 97, 107, 118, 1021, 1024, 1027], [], 0, [], none⟩),
    (22, ⟨[1, 2, 4, 5, 6, 7, 8, 9, 10, 11, 12, 14, 56, 57, 58], [1, 2, 6, 29, 34, 51, 97, 107, 118, 1021, 1024, 1027], [], 0, [], none⟩),
    (23, ⟨[1, 2, 4, 5, 6, 7, 8, 9, 10, 11, 56, 57, 58], [1, 2, 6, 29, 34, 51, 97, 107, 118, 1021, 1024, 1027], [], 0, [], none⟩),
    (24, ⟨[1, 2, 4, 5, 6, 7, 8, 9, 10, 11, 56, 57, 58], [1, 2, 6, 29, 34, 51, 97, 107, 118, 1021, 1024, 1027], [], 0, [], none⟩),
    (25, ⟨[1, 2, 4, 5, 6, 7, 8, 9, 10], [1, 2, 6, 29, 34, 97, 107, 118, 1021, 1024, 1027], [], 0, [], none⟩),
    (26, ⟨[1, 2, 4, 5, 6, 7, 8, 9], [1, 2, 6, 29, 34, 97, 107, 118, 1021, 1024, 1027], [(0, 3587), (1, 3586), (2, 4076), (3, 4072), (4, 4080), (5, 4064), (6, 4032), (7, 0), (8, 0), (9, 0), (10, 3072), (11, 0)], 1535, [], none⟩),
    (27, ⟨[2, 3], [2, 107, 118, 1027], [], 0, [], none⟩)] (Tryd.f11.body.getD .skip) = some M11 := by kernel_rfl
theorem Run11 {args : List PV} {v : AV} {rs : List (Nat × List PV)} (ids : List Bool) (h : args.length ≤ 121) (hv : run Tryd.prog (retK [RV.cell 2 3 true, RV.tmp 3] ids v rs) M11 [] ⟨entry 0 args, []⟩) : Fn Tryd.prog 11 args v rs :=
  Fn_run ids (by kernel_rfl) Tryd.func11 (by decide) rfl mc11 (by kernel_rfl) (by rw [Tryd.ntmps11]; exact h) (by rw [Tryd.ntmps11]; decide) hv

end Go.Vc

namespace Go.Vc
open Go.Proofs
set_option linter.unusedSimpArgs false
set_option linter.unusedVariables false

/-! ## 'mini.Least' -/
theorem fn31 (l : List ByteArray) (h : l.length ≤ 100000) : Fn Tryd.prog 31 [ss l] (.pv (ss l)) [] := by
  refine Fn.row (n := l.length) (s := 1) ?_ (by simp)
  refine Run31 [true] (by simp) ?_
  simp only [go_sem, Nat.reduceEqDiff, Nat.reduceBEq, Nat.reduceAdd, Nat.reduceMul, Nat.reduceSub, Nat.reduceLeDiff, Nat.reduceLT, reduceIte, reduceCtorEq, Int.reduceToNat, Int.reduceLE, Int.reduceLT, Int.reduceNeg, Bool.not_not, and_self, Bool.and_eq_false_iff, Int.cast_ofNat_Int, Int.reduceAdd, Int.reduceSub, Int.reduceMul, Int.reduceEq, Int.reduceNe, M31, wf_ss]
  refine runR_isnil rfl rfl ?_
  intro b hb
  simp only [go_sem, Nat.reduceEqDiff, Nat.reduceBEq, Nat.reduceAdd, Nat.reduceMul, Nat.reduceSub, Nat.reduceLeDiff, Nat.reduceLT, reduceIte, reduceCtorEq, Int.reduceToNat, Int.reduceLE, Int.reduceLT, Int.reduceNeg, Bool.not_not, and_self, Bool.and_eq_false_iff, Int.cast_ofNat_Int, Int.reduceAdd, Int.reduceSub, Int.reduceMul, Int.reduceEq, Int.reduceNe, wf_ss]
  refine ⟨fun h => ?_, fun h => ⟨⟨by omega, by omega⟩, ?_⟩⟩
  · have : l = [] := by simpa using hb h
    subst this
    simp
  · simp
theorem fn32i (l : List Int) (h : l.length ≤ 100000) : Fn Tryd.prog 32 [ints l] (.pv (ints l)) [] := by
  refine Fn.row (n := l.length) (s := 1) ?_ (by simp)
  have hw := wf_ints l
  refine Run32 [true] (by simp) ?_
  simp only [go_sem, Nat.reduceEqDiff, Nat.reduceBEq, Nat.reduceAdd, Nat.reduceMul, Nat.reduceSub, Nat.reduceLeDiff, Nat.reduceLT, reduceIte, reduceCtorEq, Int.reduceToNat, Int.reduceLE, Int.reduceLT, Int.reduceNeg, Bool.not_not, and_self, Bool.and_eq_false_iff, Int.cast_ofNat_Int, Int.reduceAdd, Int.reduceSub, Int.reduceMul, Int.reduceEq, Int.reduceNe, M32, hw]
  refine runR_isnil rfl rfl ?_
  intro b hb
  simp only [go_sem, Nat.reduceEqDiff, Nat.reduceBEq, Nat.reduceAdd, Nat.reduceMul, Nat.reduceSub, Nat.reduceLeDiff, Nat.reduceLT, reduceIte, reduceCtorEq, Int.reduceToNat, Int.reduceLE, Int.reduceLT, Int.reduceNeg, Bool.not_not, and_self, Bool.and_eq_false_iff, Int.cast_ofNat_Int, Int.reduceAdd, Int.reduceSub, Int.reduceMul, Int.reduceEq, Int.reduceNe, hw]
  refine ⟨fun h => ?_, fun h => ⟨⟨by omega, by omega⟩, ?_⟩⟩
  · have : l = [] := by simpa using hb h
    subst this
    simp
  · simp
theorem goC_ok {d : DI} {lv : List Bool} (hn : d.next.length ≤ 1000) : ∀ {f : Nat} {cl : List Nat} {c : Nat}, cl.length = d.next.length → (∀ x ∈ cl, x ≤ 1000) → (goC d lv f cl c).length = d.next.length ∧ ∀ x ∈ goC d lv f cl c, x ≤ 1000
  | 0, cl, c, h1, h2 => ⟨h1, h2⟩
  | f + 1, cl, c, h1, h2 => by
    rw [goC]
    split
    · exact ⟨h1, h2⟩
    · exact goC_ok hn (by rw [clsOf_len]; simp [keysC]) (cls_le (by simp [keysC]; exact hn))
theorem classR_ok {d : DI} {lv : List Bool} (hn : d.next.length ≤ 1000) : (classR d lv).length = d.next.length ∧ ∀ x ∈ classR d lv, x ≤ 1000 :=
  goC_ok hn (by rw [clsOf_len]; simp [keys0]) (cls_le (by simp [keys0]; exact hn))
def enI : Nat → List Nat → List (PV × PV)
  | _, [] => []
  | k, c :: L => (pI (c : Int), pI (k : Int)) :: enI (k + 1) L
theorem enI_app : ∀ (L : List Nat) (k c : Nat), enI k (L ++ [c]) = enI k L ++ [(pI (c : Int), pI ((k + L.length : Nat) : Int))]
  | [], k, c => rfl
  | u :: L, k, c => by simp [enI, enI_app L (k + 1) c]; omega
theorem lkp_I (c : Nat) : ∀ {L : List Nat} (k : Nat), lkp (pI (c : Int)) (enI k L) = if c ∈ L then some (pI ((k + ixOf L c : Nat) : Int)) else none
  | [], k => by simp [enI, lkp]
  | u :: L, k => by
    have ih := lkp_I c (L := L) (k + 1)
    simp only [enI, lkp, keyEq]
    by_cases he : c = u
    · subst he; simp [ixOf_cons]
    · have h2 : ¬ ((c : Int) = (u : Int)) := by omega
      simp only [h2, decide_false, Bool.false_eq_true, if_false, ih, List.mem_cons, he, false_or]
      split
      · rw [ixOf_cons, if_neg (Ne.symm he)]
        congr 3; omega
      · rfl
theorem mput_I {c : Nat} {v : PV} : ∀ {L : List Nat} (k : Nat), c ∉ L → mput (pI (c : Int)) v (enI k L) = enI k L ++ [(pI (c : Int), v)]
  | [], k, _ => rfl
  | u :: L, k, hn => by
    have he : c ≠ u := fun e => hn (by simp [e])
    simp only [enI, mput, keyEq, decide_eq_false (show ¬ ((c : Int) = (u : Int)) by omega), Bool.false_eq_true, if_false, List.cons_append, List.cons.injEq, true_and]
    exact mput_I (k + 1) fun hm => hn (List.mem_cons_of_mem _ hm)
theorem like_I (x : Int) : ∀ (L : List Nat) (k : Nat), keysLike .int (pI x) (enI k L)
  | [], _ => trivial
  | u :: L, k => by
    simp only [enI, keysLike, keyLike]
    exact ⟨trivial, like_I x L (k + 1)⟩
/-- the ways that are known -/
abbrev nmW (lv : List Bool) (cl first : List Nat) (row : List Int) (k : Nat) : Int := numF lv cl (rowF lv cl first row k) (row.getD k 0)
theorem rowW_tb (lv : List Bool) (cl first : List Nat) (row : List Int) : ∀ j, rowW lv cl first row j = tb j (nmW lv cl first row)
  | 0 => rfl
  | j + 1 => by
    rw [rowW, rowW_tb lv cl first row j]
    unfold tb
    rw [List.range_succ, List.map_append]
    rfl
abbrev wsN (lv : List Bool) (cl first : List Nat) (row : List Int) (j : Nat) : List PV := tb row.length fun k => if k < j then pI (nmW lv cl first row k) else pI 0
theorem wsN_set {lv : List Bool} {cl first : List Nat} {row : List Int} {j : Nat} (h : j < row.length) : (wsN lv cl first row j).set j (pI (nmW lv cl first row j)) = wsN lv cl first row (j + 1) := by
  rw [tb_set h]
  refine tb_ext fun k hk => ?_
  by_cases h1 : k = j
  · subst h1; rw [if_pos rfl, if_pos (by omega)]
  · rw [if_neg h1]
    by_cases h2 : k < j
    · rw [if_pos h2, if_pos (by omega)]
    · rw [if_neg h2, if_neg (by omega)]
theorem wsN_end (lv : List Bool) (cl first : List Nat) (row : List Int) : wsN lv cl first row row.length = (rowW lv cl first row row.length).map fun n => pI n := by
  rw [rowW_tb, tb_map]
  exact tb_ext fun k hk => by rw [if_pos hk]
theorem wsN_at {lv : List Bool} {cl first : List Nat} {row : List Int} {j : Nat} (h : j < row.length) : (wsN lv cl first row j).getD j default = pI 0 := by rw [tb_get h, if_neg (by omega)]
theorem may_ok {d : DI} (hs : d.Sm) (hI : ∀ i, ∀ n ∈ d.done.getD i [], I64 n) (hm : mayB d = true) : d.Ok := by
  unfold mayB at hm
  simp only [Bool.and_eq_true, decide_eq_true_eq, List.all_eq_true, List.mem_range] at hm
  obtain ⟨h1, h2, h3, h4⟩ := hm
  refine ⟨by omega, hs.next, h2, hs.signs, hs.nexts, fun i t ht => ?_, ⟨hs.dones, hI⟩⟩
  by_cases hi : i < d.next.length
  · have := h4 i hi
    unfold okRow at this
    simp only [Bool.and_eq_true, decide_eq_true_eq, List.all_eq_true] at this
    exact this.2.1 t ht
  · rw [List.getD_eq_getElem?_getD, List.getElem?_eq_none (by omega)] at ht
    cases ht
def zDi : DI := ⟨[], [], []⟩
abbrev clsL (cl first : List Nat) : List Nat := first.map fun s => cl.getD s 0
set_option maxHeartbeats 2000000 in
theorem fn11 (d : DI) (hs : d.Sm) (hI : ∀ i, ∀ n ∈ d.done.getD i [], I64 n) : Fn Tryd.prog 11 [pDi d] (.pv (.tup [pDi (if mayB d = true then leastR d else zDi), pI (if mayB d = true then 0 else 1)])) [] := by
  refine Run11 [] (by simp) ?_
  simp only [go_sem, Nat.reduceEqDiff, Nat.reduceBEq, Nat.reduceAdd, Nat.reduceMul, Nat.reduceSub, Nat.reduceLeDiff, Nat.reduceLT, reduceIte, reduceCtorEq, Int.reduceToNat, Int.reduceLE, Int.reduceLT, Int.reduceNeg, Bool.not_not, and_self, Bool.and_eq_false_iff, Int.cast_ofNat_Int, Int.reduceAdd, Int.reduceSub, Int.reduceMul, Int.reduceEq, Int.reduceNe, M11]
  refine runR_call (by simp only [go_sem, Nat.reduceEqDiff, Nat.reduceBEq, Nat.reduceAdd, Nat.reduceMul, Nat.reduceSub, Nat.reduceLeDiff, Nat.reduceLT, reduceIte, reduceCtorEq, Int.reduceToNat, Int.reduceLE, Int.reduceLT, Int.reduceNeg, Bool.not_not, and_self, Bool.and_eq_false_iff, Int.cast_ofNat_Int, Int.reduceAdd, Int.reduceSub, Int.reduceMul, Int.reduceEq, Int.reduceNe]) rfl (fn28 d hs) (.inl rfl) trivial ?_
  cases hm : mayB d with
  | false =>
    simp only [go_sem, Nat.reduceEqDiff, Nat.reduceBEq, Nat.reduceAdd, Nat.reduceMul, Nat.reduceSub, Nat.reduceLeDiff, Nat.reduceLT, reduceIte, reduceCtorEq, Int.reduceToNat, Int.reduceLE, Int.reduceLT, Int.reduceNeg, Bool.not_not, and_self, Bool.and_eq_false_iff, Int.cast_ofNat_Int, Int.reduceAdd, Int.reduceSub, Int.reduceMul, Int.reduceEq, Int.reduceNe]
    rfl
  | true =>
    have hd := may_ok hs hI hm
    have hn := hd.n
    have hn0 := hd.n0
    simp only [go_sem, Nat.reduceEqDiff, Nat.reduceBEq, Nat.reduceAdd, Nat.reduceMul, Nat.reduceSub, Nat.reduceLeDiff, Nat.reduceLT, reduceIte, reduceCtorEq, Int.reduceToNat, Int.reduceLE, Int.reduceLT, Int.reduceNeg, Bool.not_not, and_self, Bool.and_eq_false_iff, Int.cast_ofNat_Int, Int.reduceAdd, Int.reduceSub, Int.reduceMul, Int.reduceEq, Int.reduceNe]
    refine runR_call (by simp only [go_sem, Nat.reduceEqDiff, Nat.reduceBEq, Nat.reduceAdd, Nat.reduceMul, Nat.reduceSub, Nat.reduceLeDiff, Nat.reduceLT, reduceIte, reduceCtorEq, Int.reduceToNat, Int.reduceLE, Int.reduceLT, Int.reduceNeg, Bool.not_not, and_self, Bool.and_eq_false_iff, Int.cast_ofNat_Int, Int.reduceAdd, Int.reduceSub, Int.reduceMul, Int.reduceEq, Int.reduceNe]) rfl (fn29 d hd) (.inl rfl) trivial ?_
    simp only [go_sem, Nat.reduceEqDiff, Nat.reduceBEq, Nat.reduceAdd, Nat.reduceMul, Nat.reduceSub, Nat.reduceLeDiff, Nat.reduceLT, reduceIte, reduceCtorEq, Int.reduceToNat, Int.reduceLE, Int.reduceLT, Int.reduceNeg, Bool.not_not, and_self, Bool.and_eq_false_iff, Int.cast_ofNat_Int, Int.reduceAdd, Int.reduceSub, Int.reduceMul, Int.reduceEq, Int.reduceNe]
    refine runR_call (by simp only [go_sem, Nat.reduceEqDiff, Nat.reduceBEq, Nat.reduceAdd, Nat.reduceMul, Nat.reduceSub, Nat.reduceLeDiff, Nat.reduceLT, reduceIte, reduceCtorEq, Int.reduceToNat, Int.reduceLE, Int.reduceLT, Int.reduceNeg, Bool.not_not, and_self, Bool.and_eq_false_iff, Int.cast_ofNat_Int, Int.reduceAdd, Int.reduceSub, Int.reduceMul, Int.reduceEq, Int.reduceNe]) rfl (fn30 d (liveL d) hd (liveL_len d)) (.inl rfl) trivial ?_
    simp only [go_sem, Nat.reduceEqDiff, Nat.reduceBEq, Nat.reduceAdd, Nat.reduceMul, Nat.reduceSub, Nat.reduceLeDiff, Nat.reduceLT, reduceIte, reduceCtorEq, Int.reduceToNat, Int.reduceLE, Int.reduceLT, Int.reduceNeg, Bool.not_not, and_self, Bool.and_eq_false_iff, Int.cast_ofNat_Int, Int.reduceAdd, Int.reduceSub, Int.reduceMul, Int.reduceEq, Int.reduceNe]
    refine runR_call (by simp only [go_sem, Nat.reduceEqDiff, Nat.reduceBEq, Nat.reduceAdd, Nat.reduceMul, Nat.reduceSub, Nat.reduceLeDiff, Nat.reduceLT, reduceIte, reduceCtorEq, Int.reduceToNat, Int.reduceLE, Int.reduceLT, Int.reduceNeg, Bool.not_not, and_self, Bool.and_eq_false_iff, Int.cast_ofNat_Int, Int.reduceAdd, Int.reduceSub, Int.reduceMul, Int.reduceEq, Int.reduceNe]) rfl (fn31 d.signs (by have := hd.signs; omega)) (.inl rfl) trivial ?_
    unfold leastR leastOf
    have hlv := liveL_len d
    obtain ⟨hcl, hc⟩ := classR_ok (d := d) (lv := liveL d) hn
    generalize liveL d = lv at hlv hcl hc
    generalize classR d lv = cl at hcl hc
    have hcll : (toI cl).length = d.next.length := by simp [toI, hcl]
    have hcg : ∀ k (h : k < cl.length), (toI cl)[k]'(by simpa [toI] using h) = (cl.getD k 0 : Int) := fun k h => by simp [toI, List.getD_eq_getElem?_getD, h]
    simp only [go_sem, Nat.reduceEqDiff, Nat.reduceBEq, Nat.reduceAdd, Nat.reduceMul, Nat.reduceSub, Nat.reduceLeDiff, Nat.reduceLT, reduceIte, reduceCtorEq, Int.reduceToNat, Int.reduceLE, Int.reduceLT, Int.reduceNeg, Bool.not_not, and_self, Bool.and_eq_false_iff, Int.cast_ofNat_Int, Int.reduceAdd, Int.reduceSub, Int.reduceMul, Int.reduceEq, Int.reduceNe, getD_map (show 0 < (toI cl).length by omega), hcg 0 (by omega), hcll, wf_ints]
    refine ⟨by omega, ⟨by rintro v rfl c hc; simp only [List.mem_cons, List.not_mem_nil, or_false, List.map_cons, List.map_nil] at hc; subst hc; rfl, _, rfl⟩, ?_⟩
    have hFO : ∀ i, FirstOk d.next.length cl (firstL d lv cl i) := firstOk hd.rows hn0
    refine run_loopX (T := Nat) [1, 2, 4, 5, 6, 7, 8, 9] [1, 2, 6, 29, 34, 107, 118]
      (fun i => ⟨[(1, .ptr 1 0), (2, .ptr 2 0), (4, .pv (bools lv)), (5, .pv (pNs cl)), (6, .ptr 6 0), (7, .mp 29), (8, .row 34 0 (firstL d lv cl i).length), (9, .pv (pI i))],
        [(1, .box (dBox d)), (2, .box [.e0, .e0, .e0]), (6, .box [.pv (ss d.signs), .row 107 0 i, .row 118 0 i]), (29, .mp (enI 0 (clsL cl (firstL d lv cl i)))), (34, .sl 1 ((toI (firstL d lv cl i)).map fun n => pI n)),
          (107, .sl 1 ((tb i (waysF d lv cl)).map ints)), (118, .sl 1 ((tb i fun k => d.done.getD ((firstL d lv cl k).getD k 0) []).map ints))]⟩)
      (fun i => i ≤ (firstL d lv cl i).length ∧ endF d lv cl (d.next.length + 1 - i) i = leastK d lv cl) (fun i => d.next.length + 1 - i) 0 ?_ ⟨by simp, rfl⟩ ?_
    · refine ⟨_, Weak.virtBs _ [(6, 1, 107, 1), (6, 2, 118, 1)], ?_⟩
      simp only [go_sem, Nat.reduceEqDiff, Nat.reduceBEq, Nat.reduceAdd, Nat.reduceMul, Nat.reduceSub, Nat.reduceLeDiff, Nat.reduceLT, reduceIte, reduceCtorEq, Int.reduceToNat, Int.reduceLE, Int.reduceLT, Int.reduceNeg, Bool.not_not, and_self, Bool.and_eq_false_iff, Int.cast_ofNat_Int, Int.reduceAdd, Int.reduceSub, Int.reduceMul, Int.reduceEq, Int.reduceNe]
      rfl
    rintro i ⟨hi, hend⟩
    have hLn := (hFO i).len
    by_cases hlt : i < (firstL d lv cl i).length
    · rw [show d.next.length + 1 - i = (d.next.length - i) + 1 by omega, endF, if_neg (by omega)] at hend
      obtain ⟨at_, hat⟩ : ∃ a, a = (firstL d lv cl i).getD i 0 := ⟨_, rfl⟩
      have hfx : (firstL d lv cl i)[i] = at_ := by rw [hat]; simp [List.getD_eq_getElem?_getD, hlt]
      have hatn : at_ < d.next.length := (hFO i).lt _ (by rw [← hfx]; exact List.getElem_mem hlt)
      have hfg : (toI (firstL d lv cl i))[i]'(by simpa [toI] using hlt) = (at_ : Int) := by simp [toI, hfx]
      obtain ⟨row, hrow⟩ : ∃ row, row = d.next.getD at_ [] := ⟨_, rfl⟩
      have hnx : d.next[at_] = row := by rw [hrow]; simp [List.getD_eq_getElem?_getD, hatn]
      have hrl : row.length ≤ 1000 := by rw [hrow]; exact hd.width _
      have hrr : ∀ t ∈ row, -1 ≤ t ∧ t < (d.next.length : Int) := by rw [hrow]; exact hd.rows _
      simp only [go_sem, Nat.reduceEqDiff, Nat.reduceBEq, Nat.reduceAdd, Nat.reduceMul, Nat.reduceSub, Nat.reduceLeDiff, Nat.reduceLT, reduceIte, reduceCtorEq, Int.reduceToNat, Int.reduceLE, Int.reduceLT, Int.reduceNeg, Bool.not_not, and_self, Bool.and_eq_false_iff, Int.cast_ofNat_Int, Int.reduceAdd, Int.reduceSub, Int.reduceMul, Int.reduceEq, Int.reduceNe, B11_0, show (i : Int) < ((firstL d lv cl i).length : Int) by omega, getD_map (show i < (toI (firstL d lv cl i)).length by simpa [toI] using hlt), hfg, getD_map hatn, hnx, wf_intss]
      have hil : i < (toI (firstL d lv cl i)).length := by simpa [toI] using hlt
      refine ⟨hil, by omega, ⟨by omega, by omega, by omega⟩, by omega, ?_⟩
      have hFn : firstL d lv cl (i + 1) = rowF lv cl (firstL d lv cl i) row row.length := by rw [firstL, ← hat, ← hrow]
      have hWf : waysF d lv cl i = rowW lv cl (firstL d lv cl i) row row.length := by unfold waysF; rw [← hat, ← hrow]
      have hdk : d.done.getD ((firstL d lv cl i).getD i 0) [] = d.done.getD at_ [] := by rw [← hat]
      have hFOi := hFO i
      have hLi1 := (firstL_pre d lv cl i).length_le
      have htb1 : (tb (i + 1) (waysF d lv cl)).map ints = (tb i (waysF d lv cl)).map ints ++ [ints (waysF d lv cl i)] := by simp [tb, List.range_succ]
      have htb2 : (tb (i + 1) fun k => d.done.getD ((firstL d lv cl k).getD k 0) []).map ints = (tb i fun k => d.done.getD ((firstL d lv cl k).getD k 0) []).map ints ++ [ints (d.done.getD at_ [])] := by rw [← hdk]; simp [tb, List.range_succ]
      have hW1 : ((tb i (waysF d lv cl)).map ints).length = i := by rw [List.length_map, tb_len]
      have hD1 : ((tb i fun k => d.done.getD ((firstL d lv cl k).getD k 0) []).map ints).length = i := by rw [List.length_map, tb_len]
      have hi2 : i + 1 ≤ (firstL d lv cl (i + 1)).length := by omega
      clear hfg
      generalize (tb i (waysF d lv cl)).map ints = WL at htb1 hW1
      generalize ((tb i fun k => d.done.getD ((firstL d lv cl k).getD k 0) []).map ints) = DL at htb2 hD1
      generalize firstL d lv cl i = F at hFn hWf hFOi hlt hil
      refine run_loopX (T := Nat) [1, 2, 4, 5, 6, 7, 8, 9, 10, 11, 56, 57, 58] [1, 2, 6, 29, 34, 51, 107, 118]
        (fun j => ⟨[(1, .ptr 1 0), (2, .ptr 2 0), (4, .pv (bools lv)), (5, .pv (pNs cl)), (6, .ptr 6 0), (7, .mp 29), (8, .row 34 0 (rowF lv cl F row j).length), (9, .pv (pI i)), (10, .pv (pI at_)), (11, if j < row.length then .row 51 0 row.length else .pv (ints (waysF d lv cl i))),
            (56, .pv (ints row)), (57, .pv (pI row.length)), (58, .pv (pI j))],
          [(1, .box (dBox d)), (2, .box [.e0, .e0, .e0]), (6, .box [.pv (ss d.signs), .row 107 0 i, .row 118 0 i]), (29, .mp (enI 0 (clsL cl (rowF lv cl F row j)))), (34, .sl 1 ((toI (rowF lv cl F row j)).map fun n => pI n))]
          ++ (if j < row.length then [(51, Row.sl 1 (wsN lv cl F row j))] else []) ++ [(107, .sl 1 WL), (118, .sl 1 DL)]⟩)
        (fun j => j ≤ row.length) (fun j => row.length - j) 0 ?_ (Nat.zero_le _) ?_
      · by_cases h0 : 0 < row.length
        · refine ⟨_, Weak.refl' _, ?_⟩
          have hz : wsN lv cl F row 0 = List.replicate row.length (pI 0) := by rw [tb_rep]; exact tb_ext fun k _ => by simp
          rw [if_pos h0, if_pos h0, hz]
          simp only [go_sem, Nat.reduceEqDiff, Nat.reduceBEq, Nat.reduceAdd, Nat.reduceMul, Nat.reduceSub, Nat.reduceLeDiff, Nat.reduceLT, reduceIte, reduceCtorEq, Int.reduceToNat, Int.reduceLE, Int.reduceLT, Int.reduceNeg, Bool.not_not, and_self, Bool.and_eq_false_iff, Int.cast_ofNat_Int, Int.reduceAdd, Int.reduceSub, Int.reduceMul, Int.reduceEq, Int.reduceNe, List.cons_append, List.nil_append, List.append_nil]
          rfl
        · have h00 : row.length = 0 := by omega
          refine ⟨_, Weak.virts _ [(51, 51, 0)], ?_⟩
          rw [if_neg h0, if_neg h0, hWf, h00]
          simp only [go_sem, Nat.reduceEqDiff, Nat.reduceBEq, Nat.reduceAdd, Nat.reduceMul, Nat.reduceSub, Nat.reduceLeDiff, Nat.reduceLT, reduceIte, reduceCtorEq, Int.reduceToNat, Int.reduceLE, Int.reduceLT, Int.reduceNeg, Bool.not_not, and_self, Bool.and_eq_false_iff, Int.cast_ofNat_Int, Int.reduceAdd, Int.reduceSub, Int.reduceMul, Int.reduceEq, Int.reduceNe, List.cons_append, List.nil_append, List.append_nil, h00]
          rfl
      intro j hj
      have hFOj := hFOi.row (lv := lv) hrr hj
      have hFjl := hFOj.len
      by_cases hjl : j < row.length
      · simp only [if_pos hjl]
        have hlss : (wsN lv cl F row j).length = row.length := tb_len _ _
        have nxt : ∀ (L : List Nat) (v : Int), L = rowF lv cl F row (j + 1) → v = nmW lv cl F row j → GX [1, 2, 4, 5, 6, 7, 8, 9, 10, 11, 56, 57, 58] [1, 2, 6, 29, 34, 51, 107, 118]
            ⟨[(1, .ptr 1 0), (2, .ptr 2 0), (4, .pv (bools lv)), (5, .pv (pNs cl)), (6, .ptr 6 0), (7, .mp 29), (8, .row 34 0 L.length), (9, .pv (pI i)), (10, .pv (pI at_)), (11, .row 51 0 row.length), (56, .pv (ints row)), (57, .pv (pI row.length)), (58, .pv (pI ((j : Int) + 1)))],
              [(1, .box (dBox d)), (2, .box [.e0, .e0, .e0]), (6, .box [.pv (ss d.signs), .row 107 0 i, .row 118 0 i]), (29, .mp (enI 0 (clsL cl L))), (34, .sl 1 ((toI L).map fun n => pI n)), (51, .sl 1 ((wsN lv cl F row j).set j (pI v))), (107, .sl 1 WL), (118, .sl 1 DL)]⟩
            ⟨[(1, .ptr 1 0), (2, .ptr 2 0), (4, .pv (bools lv)), (5, .pv (pNs cl)), (6, .ptr 6 0), (7, .mp 29), (8, .row 34 0 (rowF lv cl F row (j + 1)).length), (9, .pv (pI i)), (10, .pv (pI at_)), (11, if j + 1 < row.length then .row 51 0 row.length else .pv (ints (waysF d lv cl i))),
                (56, .pv (ints row)), (57, .pv (pI row.length)), (58, .pv (pI (j + 1 : Nat)))],
              [(1, .box (dBox d)), (2, .box [.e0, .e0, .e0]), (6, .box [.pv (ss d.signs), .row 107 0 i, .row 118 0 i]), (29, .mp (enI 0 (clsL cl (rowF lv cl F row (j + 1))))), (34, .sl 1 ((toI (rowF lv cl F row (j + 1))).map fun n => pI n))]
              ++ (if j + 1 < row.length then [(51, Row.sl 1 (wsN lv cl F row (j + 1)))] else []) ++ [(107, .sl 1 WL), (118, .sl 1 DL)]⟩ := by
          rintro L v rfl rfl
          rw [wsN_set hjl]
          by_cases h1 : j + 1 < row.length
          · refine ⟨_, Weak.refl' _, ?_⟩
            rw [if_pos h1, if_pos h1]
            simp only [go_sem, Nat.reduceEqDiff, Nat.reduceBEq, Nat.reduceAdd, Nat.reduceMul, Nat.reduceSub, Nat.reduceLeDiff, Nat.reduceLT, reduceIte, reduceCtorEq, Int.reduceToNat, Int.reduceLE, Int.reduceLT, Int.reduceNeg, Bool.not_not, and_self, Bool.and_eq_false_iff, Int.cast_ofNat_Int, Int.reduceAdd, Int.reduceSub, Int.reduceMul, Int.reduceEq, Int.reduceNe, List.cons_append, List.nil_append, List.append_nil]
            rfl
          · have he : j + 1 = row.length := by omega
            refine ⟨_, Weak.virts _ [(51, 51, 0)], ?_⟩
            rw [if_neg h1, if_neg h1, hWf, he, wsN_end]
            have htk : List.take row.length (List.map (fun n => pI n) (rowW lv cl F row row.length)) = List.map (fun n => pI n) (rowW lv cl F row row.length) := List.take_of_length_le (by rw [List.length_map, rowW_len]; exact Nat.le_refl _)
            simp only [go_sem, Nat.reduceEqDiff, Nat.reduceBEq, Nat.reduceAdd, Nat.reduceMul, Nat.reduceSub, Nat.reduceLeDiff, Nat.reduceLT, reduceIte, reduceCtorEq, Int.reduceToNat, Int.reduceLE, Int.reduceLT, Int.reduceNeg, Bool.not_not, and_self, Bool.and_eq_false_iff, Int.cast_ofNat_Int, Int.reduceAdd, Int.reduceSub, Int.reduceMul, Int.reduceEq, Int.reduceNe, List.cons_append, List.nil_append, List.append_nil, htk, show (j : Int) + 1 = (row.length : Int) by omega]
        obtain ⟨hr1, hr2⟩ := hrr row[j] (List.getElem_mem hjl)
        have hgj : row.getD j 0 = row[j] := by simp [List.getD_eq_getElem?_getD, hjl]
        have hwj := wsN_at (lv := lv) (cl := cl) (first := F) hjl
        by_cases hm1 : row[j] = -1
        · have hdd : dead lv row[j] = true := by simp [dead, hm1]
          have hR : rowF lv cl F row j = rowF lv cl F row (j + 1) := by rw [rowF, hgj]; unfold stepF; rw [if_pos hdd]
          have hN : (-1 : Int) = nmW lv cl F row j := by unfold nmW; rw [hgj]; unfold numF; rw [if_pos hdd]
          have hx := nxt _ _ hR hN
          clear nxt
          simp only [go_sem, Nat.reduceEqDiff, Nat.reduceBEq, Nat.reduceAdd, Nat.reduceMul, Nat.reduceSub, Nat.reduceLeDiff, Nat.reduceLT, reduceIte, reduceCtorEq, Int.reduceToNat, Int.reduceLE, Int.reduceLT, Int.reduceNeg, Bool.not_not, and_self, Bool.and_eq_false_iff, Int.cast_ofNat_Int, Int.reduceAdd, Int.reduceSub, Int.reduceMul, Int.reduceEq, Int.reduceNe, B11_1, show (j : Int) < (row.length : Int) by omega, getD_map hjl, wf_ints, hm1, tb_len, hwj, List.cons_append, List.nil_append]
          exact ⟨hjl, ⟨by omega, by omega⟩, j + 1, hx, hjl, by omega⟩
        · obtain ⟨k, hk⟩ : ∃ k : Nat, row[j] = (k : Int) := ⟨row[j].toNat, by omega⟩
          have hkn : k < lv.length := by omega
          have hkc : k < (toI cl).length := by omega
          have hlvg : lv.getD k false = lv[k] := by simp [List.getD_eq_getElem?_getD, hkn]
          cases hb : lv[k] with
          | false =>
            have hdd : dead lv row[j] = true := by unfold dead; rw [hk, Int.toNat_natCast, hlvg, hb]; simp
            have hR : rowF lv cl F row j = rowF lv cl F row (j + 1) := by rw [rowF, hgj]; unfold stepF; rw [if_pos hdd]
            have hN : (-1 : Int) = nmW lv cl F row j := by unfold nmW; rw [hgj]; unfold numF; rw [if_pos hdd]
            have hx := nxt _ _ hR hN
            clear nxt
            simp only [go_sem, Nat.reduceEqDiff, Nat.reduceBEq, Nat.reduceAdd, Nat.reduceMul, Nat.reduceSub, Nat.reduceLeDiff, Nat.reduceLT, reduceIte, reduceCtorEq, Int.reduceToNat, Int.reduceLE, Int.reduceLT, Int.reduceNeg, Bool.not_not, and_self, Bool.and_eq_false_iff, Int.cast_ofNat_Int, Int.reduceAdd, Int.reduceSub, Int.reduceMul, Int.reduceEq, Int.reduceNe, B11_1, show (j : Int) < (row.length : Int) by omega, getD_map hjl, wf_ints, hk, getD_map hkn, hb, wf_bls, show ¬ (k : Int) = -1 by omega, tb_len, hwj, List.cons_append, List.nil_append]
            exact ⟨by omega, hjl, ⟨by omega, by omega⟩, j + 1, hx, hjl, by omega⟩
          | true =>
            have hdd : dead lv row[j] = false := by unfold dead; rw [hk, Int.toNat_natCast, hlvg, hb]; simp
            have hcx := hcg k (by omega)
            by_cases hin : cl.getD k 0 ∈ clsL cl (rowF lv cl F row j)
            · have hR : rowF lv cl F row j = rowF lv cl F row (j + 1) := by rw [rowF, hgj]; unfold stepF; rw [if_neg (by rw [hdd]; simp), hk, Int.toNat_natCast, if_pos hin]
              have hN : ((ixOf (clsL cl (rowF lv cl F row j)) (cl.getD k 0) : Nat) : Int) = nmW lv cl F row j := by unfold nmW; rw [hgj]; unfold numF; rw [if_neg (by rw [hdd]; simp), hk, Int.toNat_natCast]
              have hx := nxt _ _ hR hN
              clear nxt
              simp only [go_sem, Nat.reduceEqDiff, Nat.reduceBEq, Nat.reduceAdd, Nat.reduceMul, Nat.reduceSub, Nat.reduceLeDiff, Nat.reduceLT, reduceIte, reduceCtorEq, Int.reduceToNat, Int.reduceLE, Int.reduceLT, Int.reduceNeg, Bool.not_not, and_self, Bool.and_eq_false_iff, Int.cast_ofNat_Int, Int.reduceAdd, Int.reduceSub, Int.reduceMul, Int.reduceEq, Int.reduceNe, B11_1, show (j : Int) < (row.length : Int) by omega, getD_map hjl, wf_ints, hk, getD_map hkn, hb, wf_bls, show ¬ (k : Int) = -1 by omega, tb_len, hwj, getD_map hkc, hcx, like_I, lkp_I, hin, List.cons_append, List.nil_append]
              exact ⟨by omega, by omega, hjl, ⟨by omega, by omega⟩, j + 1, hx, hjl, by omega⟩
            · have hR : rowF lv cl F row j ++ [k] = rowF lv cl F row (j + 1) := by rw [rowF, hgj]; unfold stepF; rw [if_neg (by rw [hdd]; simp), hk, Int.toNat_natCast, if_neg hin]
              have hN : ((rowF lv cl F row j).length : Int) = nmW lv cl F row j := by unfold nmW; rw [hgj]; unfold numF; rw [if_neg (by rw [hdd]; simp), hk, Int.toNat_natCast, ixOf_out hin, List.length_map]
              have hx := nxt _ _ hR hN
              clear nxt
              simp only [go_sem, Nat.reduceEqDiff, Nat.reduceBEq, Nat.reduceAdd, Nat.reduceMul, Nat.reduceSub, Nat.reduceLeDiff, Nat.reduceLT, reduceIte, reduceCtorEq, Int.reduceToNat, Int.reduceLE, Int.reduceLT, Int.reduceNeg, Bool.not_not, and_self, Bool.and_eq_false_iff, Int.cast_ofNat_Int, Int.reduceAdd, Int.reduceSub, Int.reduceMul, Int.reduceEq, Int.reduceNe, B11_1, show (j : Int) < (row.length : Int) by omega, getD_map hjl, wf_ints, hk, getD_map hkn, hb, wf_bls, show ¬ (k : Int) = -1 by omega, tb_len, hwj, getD_map hkc, hcx, like_I, lkp_I, hin, mput_I 0 hin, List.cons_append, List.nil_append]
              refine ⟨by omega, by omega, by omega, ⟨wf_ints [(k : Int)], by omega, by omega⟩, hjl, ⟨by omega, by omega⟩, j + 1, ?_, hjl, by omega⟩
              have htk : List.take (rowF lv cl F row j).length (List.map (fun n => pI n) (toI (rowF lv cl F row j))) = List.map (fun n => pI n) (toI (rowF lv cl F row j)) := List.take_of_length_le (by simp [toI])
              rw [htk]
              rw [List.length_append, List.length_singleton, toI_app, List.map_append, clsL, List.map_append, List.map_cons, List.map_nil, enI_app, Nat.zero_add, List.length_map] at hx
              exact hx
      · obtain rfl : j = row.length := by omega
        simp only [if_neg hjl, List.append_nil]
        have had : at_ < d.done.length := by rw [hd.done]; exact hatn
        obtain ⟨dn, hdn⟩ : ∃ dn, dn = d.done.getD at_ [] := ⟨_, rfl⟩
        have hdx : d.done[at_] = dn := by rw [hdn]; simp [List.getD_eq_getElem?_getD, had]
        have hdl : dn.length ≤ 1000 := by rw [hdn]; exact hd.ints.len _
        have tkW : List.take i WL = WL := List.take_of_length_le (by omega)
        have tkD : List.take i DL = DL := List.take_of_length_le (by omega)
        rw [← hdn] at htb2
        simp only [go_sem, Nat.reduceEqDiff, Nat.reduceBEq, Nat.reduceAdd, Nat.reduceMul, Nat.reduceSub, Nat.reduceLeDiff, Nat.reduceLT, reduceIte, reduceCtorEq, Int.reduceToNat, Int.reduceLE, Int.reduceLT, Int.reduceNeg, Bool.not_not, and_self, Bool.and_eq_false_iff, Int.cast_ofNat_Int, Int.reduceAdd, Int.reduceSub, Int.reduceMul, Int.reduceEq, Int.reduceNe, B11_1, R11_1, show ¬ (row.length : Int) < (row.length : Int) by omega, getD_map had, hdx, wf_intss, tkW]
        refine ⟨⟨wf_intss [waysF d lv cl i], by omega, by omega⟩, by omega, ?_⟩
        refine runR_call (by simp only [go_sem, Nat.reduceEqDiff, Nat.reduceBEq, Nat.reduceAdd, Nat.reduceMul, Nat.reduceSub, Nat.reduceLeDiff, Nat.reduceLT, reduceIte, reduceCtorEq, Int.reduceToNat, Int.reduceLE, Int.reduceLT, Int.reduceNeg, Bool.not_not, and_self, Bool.and_eq_false_iff, Int.cast_ofNat_Int, Int.reduceAdd, Int.reduceSub, Int.reduceMul, Int.reduceEq, Int.reduceNe]) rfl (fn32i dn (by omega)) (.inl rfl) trivial ?_
        simp only [go_sem, Nat.reduceEqDiff, Nat.reduceBEq, Nat.reduceAdd, Nat.reduceMul, Nat.reduceSub, Nat.reduceLeDiff, Nat.reduceLT, reduceIte, reduceCtorEq, Int.reduceToNat, Int.reduceLE, Int.reduceLT, Int.reduceNeg, Bool.not_not, and_self, Bool.and_eq_false_iff, Int.cast_ofNat_Int, Int.reduceAdd, Int.reduceSub, Int.reduceMul, Int.reduceEq, Int.reduceNe, tkD]
        refine ⟨⟨wf_intss [dn], by omega, by omega⟩, ⟨by omega, by omega⟩, i + 1, ⟨_, Weak.refl' _, ?_⟩, ⟨hi2, ?_⟩, by omega⟩
        · simp only [go_sem, Nat.reduceEqDiff, Nat.reduceBEq, Nat.reduceAdd, Nat.reduceMul, Nat.reduceSub, Nat.reduceLeDiff, Nat.reduceLT, reduceIte, reduceCtorEq, Int.reduceToNat, Int.reduceLE, Int.reduceLT, Int.reduceNeg, Bool.not_not, and_self, Bool.and_eq_false_iff, Int.cast_ofNat_Int, Int.reduceAdd, Int.reduceSub, Int.reduceMul, Int.reduceEq, Int.reduceNe]
          rw [hFn, htb1, htb2]
          rfl
        · rw [← hend]
          congr 1
          omega
    · have hend2 : leastK d lv cl = i := by
        rw [show d.next.length + 1 - i = (d.next.length - i) + 1 by omega, endF, if_pos (by omega)] at hend
        exact hend.symm
      have hile : ¬ (i : Int) < ((firstL d lv cl i).length : Int) := by omega
      rw [hend2]
      have hW1 : ((tb i (waysF d lv cl)).map ints).length = i := by rw [List.length_map, tb_len]
      have hD1 : ((tb i fun k => d.done.getD ((firstL d lv cl k).getD k 0) []).map ints).length = i := by rw [List.length_map, tb_len]
      have tkW : List.take i ((tb i (waysF d lv cl)).map ints) = (tb i (waysF d lv cl)).map ints := List.take_of_length_le (by omega)
      have tkD : List.take i ((tb i fun k => d.done.getD ((firstL d lv cl k).getD k 0) []).map ints) = (tb i fun k => d.done.getD ((firstL d lv cl k).getD k 0) []).map ints := List.take_of_length_le (by omega)
      simp only [go_sem, Nat.reduceEqDiff, Nat.reduceBEq, Nat.reduceAdd, Nat.reduceMul, Nat.reduceSub, Nat.reduceLeDiff, Nat.reduceLT, reduceIte, reduceCtorEq, Int.reduceToNat, Int.reduceLE, Int.reduceLT, Int.reduceNeg, Bool.not_not, and_self, Bool.and_eq_false_iff, Int.cast_ofNat_Int, Int.reduceAdd, Int.reduceSub, Int.reduceMul, Int.reduceEq, Int.reduceNe, B11_0, R11_0, hile, tkW, tkD]
      rfl
end Go.Vc

namespace Go.Vc
open Go.Proofs
set_option maxRecDepth 100000

/-- 'trystlaw08.awake' -/
def M12 : MC := (.seq (.reg [⟨(some 0), none, (.q (.mv (.c (.bool false))))⟩] [] [] []) (.seq (.reg [⟨(some 8), none, (.lits [(.c (.int .i64 1))] 1)⟩, ⟨(some 9), none, (.lits [(.c (.int .i64 2))] 1)⟩,
  ⟨(some 10), none, (.lits [(.c (.int .i64 1))] 1)⟩, ⟨(some 11), none, (.lits [(.t 8), (.t 9), (.t 10)] 1)⟩, ⟨(some 12), none, (.lits [(.c (.int .i64 0))] 1)⟩, ⟨(some 13), none,
  (.lits [(.c (.int .i64 0))] 1)⟩, ⟨(some 14), none, (.lits [.nil, (.t 12), (.t 13)] 1)⟩, ⟨(some 15), none, (.q (.mk [.e0, .e0, .e0] [(1, 1, (.t 11)), (2, 1, (.t 14))]))⟩, ⟨(some 1), none,
  (.alloc [.e0, .e0, .e0])⟩, ⟨none, none, (.st (.t 1) (.t 15) 3)⟩] [] [1] [1]) (.seq (.reg [⟨(some 17), none, (.q (.ld (.t 1) 3 true))⟩, ⟨(some 18), none, (.call (.f 11) [(.t 17)])⟩, ⟨(some 16), none,
  (.q (.mv (.t 18)))⟩, ⟨(some 19), none, (.q (.ext (.t 16) 0))⟩, ⟨(some 20), none, (.q (.ext (.t 16) 1))⟩, ⟨(some 2), none, (.alloc [.e0, .e0, .e0])⟩, ⟨none, none, (.st (.t 2) (.t 19) 3)⟩, ⟨(some 3),
  none, (.q (.mv (.t 20)))⟩] [] [2, 3] [2, 1018]) (.seq (.reg [⟨(some 22), none, (.q (.ld (.t 2) 3 true))⟩, ⟨(some 23), none, (.call (.f 11) [(.t 22)])⟩, ⟨(some 21), none, (.q (.mv (.t 23)))⟩,
  ⟨(some 24), none, (.q (.ext (.t 21) 0))⟩, ⟨(some 25), none, (.q (.ext (.t 21) 1))⟩, ⟨(some 4), none, (.alloc [.e0, .e0, .e0])⟩, ⟨none, none, (.st (.t 4) (.t 24) 3)⟩, ⟨(some 5), none,
  (.q (.mv (.t 25)))⟩] [] [2, 3, 4, 5] [2, 4, 1018, 1023]) (.seq (.reg [⟨(some 27), none, (.q (.mk [.e0, .e0, .e0] []))⟩, ⟨(some 28), none, (.call (.f 11) [(.t 27)])⟩, ⟨(some 26), none,
  (.q (.mv (.t 28)))⟩, ⟨(some 29), none, (.q (.ext (.t 26) 0))⟩, ⟨(some 30), none, (.q (.ext (.t 26) 1))⟩, ⟨(some 6), none, (.alloc [.e0, .e0, .e0])⟩, ⟨none, none, (.st (.t 6) (.t 29) 3)⟩, ⟨(some 7),
  none, (.q (.mv (.t 30)))⟩] [] [2, 3, 4, 5, 7] [2, 4, 1018, 1023, 1028]) (.seq (.reg [⟨(some 31), none, (.q (.fa (.t 2) 1))⟩, ⟨(some 32), none, (.q (.ld (.t 31) 1 false))⟩, ⟨(some 33), none,
  (.q (.len (.t 32) false))⟩, ⟨(some 34), none, (.q (.bin .eql (.t 33) (.c (.int .i64 2))))⟩, ⟨(some 35), none, (.q (.mv (.t 34)))⟩, ⟨(some 36), (some (35, true)), (.q (.mv (.t 3)))⟩, ⟨(some 37),
  (some (35, true)), (.q (.bin .eql (.t 36) (.c (.int .i64 0))))⟩, ⟨(some 38), none, (.q (.pick (.t 35) (.t 37) (.c (.bool false))))⟩, ⟨(some 39), none, (.q (.mv (.t 38)))⟩, ⟨(some 40), (some (39,
  true)), (.q (.ld (.t 2) 3 true))⟩, ⟨(some 41), (some (39, true)), (.q (.ld (.t 4) 3 true))⟩, ⟨(some 42), (some (39, true)), (.call (.f 13) [(.t 40), (.t 41)])⟩, ⟨(some 43), none, (.q (.pick (.t 39)
  (.t 42) (.c (.bool false))))⟩, ⟨(some 44), none, (.q (.mv (.t 43)))⟩, ⟨(some 45), (some (44, true)), (.q (.mv (.t 5)))⟩, ⟨(some 46), (some (44, true)), (.q (.bin .eql (.t 45) (.c (.int .i64 0))))⟩,
  ⟨(some 47), none, (.q (.pick (.t 44) (.t 46) (.c (.bool false))))⟩, ⟨(some 48), none, (.q (.mv (.t 47)))⟩, ⟨(some 49), (some (48, true)), (.q (.mv (.t 7)))⟩, ⟨(some 50), (some (48, true)),
  (.q (.bin .eql (.t 49) (.c (.int .i64 1))))⟩, ⟨(some 51), none, (.q (.pick (.t 48) (.t 50) (.c (.bool false))))⟩, ⟨(some 0), none, (.q (.mv (.t 51)))⟩] [] [0] [1018, 1023, 1028, 1042]) .ret))))))
theorem mc12 : ofCode Tryd.prog [] Tryd.f12.ntmps [(0, ⟨[], [], [], 0, [], none⟩),
    (1, ⟨[1], [1], [], 0, [], none⟩),
    (2, ⟨[2, 3], [2, 1018], [], 0, [], none⟩),
    (3, ⟨[2, 3, 4, 5], [2, 4, 1018, 1023], [], 0, [], none⟩),
    (4, ⟨[2, 3, 4, 5, 7], [2, 4, 1018, 1023, 1028], [], 0, [], none⟩),
    (5, ⟨[0], [1018, 1023, 1028, 1042], [], 0, [], none⟩)] (Tryd.f12.body.getD .skip) = some M12 := by kernel_rfl
theorem Run12 {args : List PV} {v : AV} {rs : List (Nat × List PV)} (ids : List Bool) (h : args.length ≤ 52) (hv : run Tryd.prog (retK [RV.tmp 0] ids v rs) M12 [] ⟨entry 0 args, []⟩) : Fn Tryd.prog 12 args v rs :=
  Fn_run ids (by kernel_rfl) Tryd.func12 (by decide) rfl mc12 (by kernel_rfl) (by rw [Tryd.ntmps12]; exact h) (by rw [Tryd.ntmps12]; decide) hv

end Go.Vc

namespace Go.Vc
open Go.Proofs
set_option maxRecDepth 100000

/-- 'trystref07.Same' -/
def B13_0 : MC := (.seq (.seq (.reg [⟨(some 31), none, (.q (.mv (.t 5)))⟩, ⟨(some 32), none, (.q (.fa (.t 2) 1))⟩, ⟨(some 33), none, (.q (.ld (.t 32) 1 false))⟩, ⟨(some 34), none, (.q (.len (.t 33)
  false))⟩, ⟨(some 35), none, (.q (.bin .lss (.t 31) (.t 34)))⟩] [] [2, 3, 5, 35] [2, 3]) (.cond (.t 35) .skip (.exit 0))) (.seq (.block 1 (.seq (.reg [⟨(some 38), none, (.q (.fa (.t 2) 1))⟩,
  ⟨(some 39), none, (.q (.ld (.t 38) 1 false))⟩, ⟨(some 40), none, (.q (.mv (.t 5)))⟩, ⟨(some 41), none, (.q (.ia (.t 39) (.t 40) 1))⟩, ⟨(some 42), none, (.q (.ld (.t 41) 1 false))⟩, ⟨(some 43), none,
  (.q (.fa (.t 3) 1))⟩, ⟨(some 44), none, (.q (.ld (.t 43) 1 false))⟩, ⟨(some 45), none, (.q (.mv (.t 5)))⟩, ⟨(some 46), none, (.q (.ia (.t 44) (.t 45) 1))⟩, ⟨(some 47), none, (.q (.ld (.t 46)
  1 false))⟩, ⟨(some 48), none, (.call (.f 23) [(.t 42), (.t 47)])⟩, ⟨(some 49), none, (.q (.not (.t 48)))⟩] [] [2, 3, 5, 49] [2, 3, 1048]) (.cond (.t 49) (.seq (.reg [⟨(some 4), none,
  (.q (.mv (.c (.bool false))))⟩] [] [4] []) .ret) .skip))) (.reg [⟨(some 36), none, (.q (.mv (.t 5)))⟩, ⟨(some 37), none, (.q (.bin .add (.t 36) (.c (.int .i64 1))))⟩, ⟨(some 5), none,
  (.q (.mv (.t 37)))⟩] [] [2, 3, 5] [2, 3])))
def B13_1 : MC := (.seq (.seq (.reg [⟨(some 50), none, (.q (.mv (.t 6)))⟩, ⟨(some 51), none, (.q (.fa (.t 2) 2))⟩, ⟨(some 52), none, (.q (.ld (.t 51) 1 false))⟩, ⟨(some 53), none, (.q (.len (.t 52)
  false))⟩, ⟨(some 54), none, (.q (.bin .lss (.t 50) (.t 53)))⟩] [] [2, 3, 6, 54] [2, 3]) (.cond (.t 54) .skip (.exit 2))) (.seq (.block 3 (.seq (.reg [⟨(some 57), none, (.q (.fa (.t 2) 2))⟩,
  ⟨(some 58), none, (.q (.ld (.t 57) 1 false))⟩, ⟨(some 59), none, (.q (.mv (.t 6)))⟩, ⟨(some 60), none, (.q (.ia (.t 58) (.t 59) 1))⟩, ⟨(some 61), none, (.q (.ld (.t 60) 1 false))⟩, ⟨(some 62), none,
  (.q (.fa (.t 3) 2))⟩, ⟨(some 63), none, (.q (.ld (.t 62) 1 false))⟩, ⟨(some 64), none, (.q (.mv (.t 6)))⟩, ⟨(some 65), none, (.q (.ia (.t 63) (.t 64) 1))⟩, ⟨(some 66), none, (.q (.ld (.t 65)
  1 false))⟩, ⟨(some 67), none, (.call (.f 23) [(.t 61), (.t 66)])⟩, ⟨(some 68), none, (.q (.not (.t 67)))⟩] [] [2, 3, 6, 68] [2, 3, 1067]) (.cond (.t 68) (.seq (.reg [⟨(some 4), none,
  (.q (.mv (.c (.bool false))))⟩] [] [4] []) .ret) .skip))) (.reg [⟨(some 55), none, (.q (.mv (.t 6)))⟩, ⟨(some 56), none, (.q (.bin .add (.t 55) (.c (.int .i64 1))))⟩, ⟨(some 6), none,
  (.q (.mv (.t 56)))⟩] [] [2, 3, 6] [2, 3])))
def R13_1 : MC := (.seq (.reg [⟨(some 4), none, (.q (.mv (.c (.bool true))))⟩] [] [4] []) .ret)
def R13_0 : MC := (.seq (.seq (.reg [⟨(some 6), none, (.q (.mv (.c (.int .i64 0))))⟩] [] [2, 3, 6] [2, 3]) (.block 2 (.loop B13_1))) R13_1)
def M13 : MC := (.seq (.reg [⟨(some 2), none, (.box (.t 0))⟩, ⟨(some 3), none, (.box (.t 1))⟩, ⟨(some 4), none, (.q (.mv (.c (.bool false))))⟩] [] [2, 3] [2, 3]) (.seq (.seq (.reg [⟨(some 7), none,
  (.q (.fa (.t 2) 0))⟩, ⟨(some 8), none, (.q (.ld (.t 7) 1 false))⟩, ⟨(some 9), none, (.q (.fa (.t 3) 0))⟩, ⟨(some 10), none, (.q (.ld (.t 9) 1 false))⟩, ⟨(some 11), none, (.call (.f 33) [(.t 8),
  (.t 10)])⟩, ⟨(some 12), none, (.q (.not (.t 11)))⟩, ⟨(some 13), none, (.q (.mv (.t 12)))⟩, ⟨(some 14), (some (13, false)), (.q (.fa (.t 2) 1))⟩, ⟨(some 15), (some (13, false)), (.q (.ld (.t 14)
  1 false))⟩, ⟨(some 16), (some (13, false)), (.q (.len (.t 15) false))⟩, ⟨(some 17), (some (13, false)), (.q (.fa (.t 3) 1))⟩, ⟨(some 18), (some (13, false)), (.q (.ld (.t 17) 1 false))⟩, ⟨(some 19),
  (some (13, false)), (.q (.len (.t 18) false))⟩, ⟨(some 20), (some (13, false)), (.q (.bin .neq (.t 16) (.t 19)))⟩, ⟨(some 21), none, (.q (.pick (.t 13) (.c (.bool true)) (.t 20)))⟩, ⟨(some 22),
  none, (.q (.mv (.t 21)))⟩, ⟨(some 23), (some (22, false)), (.q (.fa (.t 2) 2))⟩, ⟨(some 24), (some (22, false)), (.q (.ld (.t 23) 1 false))⟩, ⟨(some 25), (some (22, false)), (.q (.len (.t 24)
  false))⟩, ⟨(some 26), (some (22, false)), (.q (.fa (.t 3) 2))⟩, ⟨(some 27), (some (22, false)), (.q (.ld (.t 26) 1 false))⟩, ⟨(some 28), (some (22, false)), (.q (.len (.t 27) false))⟩, ⟨(some 29),
  (some (22, false)), (.q (.bin .neq (.t 25) (.t 28)))⟩, ⟨(some 30), none, (.q (.pick (.t 22) (.c (.bool true)) (.t 29)))⟩] [] [2, 3, 30] [2, 3, 1011]) (.cond (.t 30) (.seq (.reg [⟨(some 4), none,
  (.q (.mv (.c (.bool false))))⟩] [] [4] []) .ret) .skip)) (.seq (.seq (.reg [⟨(some 5), none, (.q (.mv (.c (.int .i64 0))))⟩] [] [2, 3, 5] [2, 3]) (.block 0 (.loop B13_0))) R13_0)))
theorem mc13 : ofCode Tryd.prog [] Tryd.f13.ntmps [(0, ⟨[2, 3], [2, 3], [], 0, [], none⟩),
    (1, ⟨[2, 3, 30], [2, 3, 1011], [], 0, [], none⟩),
    (2, ⟨[4], [], [], 0, [], none⟩),
    (3, ⟨[2, 3, 5], [2, 3], [], 0, [], none⟩),
    (4, ⟨[2, 3, 5, 35], [2, 3], [], 0, [], none⟩),
    (5, ⟨[2, 3, 5], [2, 3], [], 0, [], none⟩),
    (6, ⟨[2, 3, 5, 49], [2, 3, 1048], [(0, 3099), (1, 3098), (2, 3100), (3, 3096), (4, 3088), (5, 3936), (6, 3904), (7, 3968), (8, 3840), (9, 3584), (10, 0), (11, 2048)], 4095, [], none⟩),
    (7, ⟨[4], [], [], 0, [], none⟩),
    (8, ⟨[2, 3, 6], [2, 3], [], 0, [], none⟩),
    (9, ⟨[2, 3, 6, 54], [2, 3], [], 0, [], none⟩),
    (10, ⟨[2, 3, 6], [2, 3], [], 0, [], none⟩),
    (11, ⟨[2, 3, 6, 68], [2, 3, 1067], [(0, 3099), (1, 3098), (2, 3100), (3, 3096), (4, 3088), (5, 3936), (6, 3904), (7, 3968), (8, 3840), (9, 3584), (10, 0), (11, 2048)], 4095, [], none⟩),
    (12, ⟨[4], [], [], 0, [], none⟩),
    (13, ⟨[4], [], [], 0, [], none⟩)] (Tryd.f13.body.getD .skip) = some M13 := by kernel_rfl
theorem Run13 {args : List PV} {v : AV} {rs : List (Nat × List PV)} (ids : List Bool) (h : args.length ≤ 69) (hv : run Tryd.prog (retK [RV.tmp 4] ids v rs) M13 [] ⟨entry 0 args, []⟩) : Fn Tryd.prog 13 args v rs :=
  Fn_run ids (by kernel_rfl) Tryd.func13 (by decide) rfl mc13 (by kernel_rfl) (by rw [Tryd.ntmps13]; exact h) (by rw [Tryd.ntmps13]; decide) hv

end Go.Vc

namespace Go.Vc
open Go.Proofs
set_option linter.unusedSimpArgs false
set_option linter.unusedVariables false

/-! ## 'Same', 'mini.Of', the chapter's examples -/
theorem getD_in {α : Type} {l : List α} {i : Nat} {d : α} (h : i < l.length) : l.getD i d = l[i] := by simp [List.getD_eq_getElem?_getD, h]
theorem fn13t (d : DI) (h : d.Sm) : Fn Tryd.prog 13 [pDi d, pDi d] (.pv (pB true)) [] := by
  have h1 := h.signs
  have h2 := h.next
  have h3 := h.done
  have h4 := h.nexts
  have h5 := h.dones
  refine Run13 [] (by simp) ?_
  simp only [go_sem, Nat.reduceEqDiff, Nat.reduceBEq, Nat.reduceAdd, Nat.reduceMul, Nat.reduceSub, Nat.reduceLeDiff, Nat.reduceLT, reduceIte, reduceCtorEq, Int.reduceToNat, Int.reduceLE, Int.reduceLT, Int.reduceNeg, Bool.not_not, and_self, Bool.and_eq_false_iff, Int.cast_ofNat_Int, Int.reduceAdd, Int.reduceSub, Int.reduceMul, Int.reduceEq, Int.reduceNe, M13]
  refine runR_callf (by simp only [go_sem, Nat.reduceEqDiff, Nat.reduceBEq, Nat.reduceAdd, Nat.reduceMul, Nat.reduceSub, Nat.reduceLeDiff, Nat.reduceLT, reduceIte, reduceCtorEq, Int.reduceToNat, Int.reduceLE, Int.reduceLT, Int.reduceNeg, Bool.not_not, and_self, Bool.and_eq_false_iff, Int.cast_ofNat_Int, Int.reduceAdd, Int.reduceSub, Int.reduceMul, Int.reduceEq, Int.reduceNe]) (by simp only [go_sem, Nat.reduceEqDiff, Nat.reduceBEq, Nat.reduceAdd, Nat.reduceMul, Nat.reduceSub, Nat.reduceLeDiff, Nat.reduceLT, reduceIte, reduceCtorEq, Int.reduceToNat, Int.reduceLE, Int.reduceLT, Int.reduceNeg, Bool.not_not, and_self, Bool.and_eq_false_iff, Int.cast_ofNat_Int, Int.reduceAdd, Int.reduceSub, Int.reduceMul, Int.reduceEq, Int.reduceNe] <;> rfl) (fn33t d.signs (by omega)) ⟨rfl, trivial⟩ trivial ?_
  simp only [go_sem, Nat.reduceEqDiff, Nat.reduceBEq, Nat.reduceAdd, Nat.reduceMul, Nat.reduceSub, Nat.reduceLeDiff, Nat.reduceLT, reduceIte, reduceCtorEq, Int.reduceToNat, Int.reduceLE, Int.reduceLT, Int.reduceNeg, Bool.not_not, and_self, Bool.and_eq_false_iff, Int.cast_ofNat_Int, Int.reduceAdd, Int.reduceSub, Int.reduceMul, Int.reduceEq, Int.reduceNe]
  refine run_loopN (T := Nat) [2, 3, 5] [2, 3] (fun i => ⟨[(2, .ptr 2 0), (3, .ptr 3 0), (5, .pv (pI i))], [(2, .box (dBox d)), (3, .box (dBox d))]⟩)
    (fun i => i ≤ d.next.length) (fun i => d.next.length - i) 0 rfl (Nat.zero_le _) ?_
  intro i hi
  by_cases hlt : i < d.next.length
  · have hl := h4 i
    rw [getD_in hlt] at hl
    simp only [go_sem, Nat.reduceEqDiff, Nat.reduceBEq, Nat.reduceAdd, Nat.reduceMul, Nat.reduceSub, Nat.reduceLeDiff, Nat.reduceLT, reduceIte, reduceCtorEq, Int.reduceToNat, Int.reduceLE, Int.reduceLT, Int.reduceNeg, Bool.not_not, and_self, Bool.and_eq_false_iff, Int.cast_ofNat_Int, Int.reduceAdd, Int.reduceSub, Int.reduceMul, Int.reduceEq, Int.reduceNe, B13_0, show (i : Int) < (d.next.length : Int) by omega, wf_intss, getD_map hlt]
    refine runR_callf (by simp only [go_sem, Nat.reduceEqDiff, Nat.reduceBEq, Nat.reduceAdd, Nat.reduceMul, Nat.reduceSub, Nat.reduceLeDiff, Nat.reduceLT, reduceIte, reduceCtorEq, Int.reduceToNat, Int.reduceLE, Int.reduceLT, Int.reduceNeg, Bool.not_not, and_self, Bool.and_eq_false_iff, Int.cast_ofNat_Int, Int.reduceAdd, Int.reduceSub, Int.reduceMul, Int.reduceEq, Int.reduceNe]) (by simp only [go_sem, Nat.reduceEqDiff, Nat.reduceBEq, Nat.reduceAdd, Nat.reduceMul, Nat.reduceSub, Nat.reduceLeDiff, Nat.reduceLT, reduceIte, reduceCtorEq, Int.reduceToNat, Int.reduceLE, Int.reduceLT, Int.reduceNeg, Bool.not_not, and_self, Bool.and_eq_false_iff, Int.cast_ofNat_Int, Int.reduceAdd, Int.reduceSub, Int.reduceMul, Int.reduceEq, Int.reduceNe] <;> rfl) (fn23t d.next[i] (by omega)) ⟨rfl, trivial⟩ trivial ?_
    simp only [go_sem, Nat.reduceEqDiff, Nat.reduceBEq, Nat.reduceAdd, Nat.reduceMul, Nat.reduceSub, Nat.reduceLeDiff, Nat.reduceLT, reduceIte, reduceCtorEq, Int.reduceToNat, Int.reduceLE, Int.reduceLT, Int.reduceNeg, Bool.not_not, and_self, Bool.and_eq_false_iff, Int.cast_ofNat_Int, Int.reduceAdd, Int.reduceSub, Int.reduceMul, Int.reduceEq, Int.reduceNe]
    exact ⟨⟨by omega, by omega⟩, i + 1, rfl, hlt, by omega⟩
  · simp only [go_sem, Nat.reduceEqDiff, Nat.reduceBEq, Nat.reduceAdd, Nat.reduceMul, Nat.reduceSub, Nat.reduceLeDiff, Nat.reduceLT, reduceIte, reduceCtorEq, Int.reduceToNat, Int.reduceLE, Int.reduceLT, Int.reduceNeg, Bool.not_not, and_self, Bool.and_eq_false_iff, Int.cast_ofNat_Int, Int.reduceAdd, Int.reduceSub, Int.reduceMul, Int.reduceEq, Int.reduceNe, B13_0, R13_0, show ¬ (i : Int) < (d.next.length : Int) by omega]
    refine run_loopN (T := Nat) [2, 3, 6] [2, 3] (fun i => ⟨[(2, .ptr 2 0), (3, .ptr 3 0), (6, .pv (pI i))], [(2, .box (dBox d)), (3, .box (dBox d))]⟩)
      (fun i => i ≤ d.done.length) (fun i => d.done.length - i) 0 rfl (Nat.zero_le _) ?_
    intro j hj
    by_cases hjl : j < d.done.length
    · have hl := h5 j
      rw [getD_in hjl] at hl
      simp only [go_sem, Nat.reduceEqDiff, Nat.reduceBEq, Nat.reduceAdd, Nat.reduceMul, Nat.reduceSub, Nat.reduceLeDiff, Nat.reduceLT, reduceIte, reduceCtorEq, Int.reduceToNat, Int.reduceLE, Int.reduceLT, Int.reduceNeg, Bool.not_not, and_self, Bool.and_eq_false_iff, Int.cast_ofNat_Int, Int.reduceAdd, Int.reduceSub, Int.reduceMul, Int.reduceEq, Int.reduceNe, B13_1, show (j : Int) < (d.done.length : Int) by omega, wf_intss, getD_map hjl]
      refine runR_callf (by simp only [go_sem, Nat.reduceEqDiff, Nat.reduceBEq, Nat.reduceAdd, Nat.reduceMul, Nat.reduceSub, Nat.reduceLeDiff, Nat.reduceLT, reduceIte, reduceCtorEq, Int.reduceToNat, Int.reduceLE, Int.reduceLT, Int.reduceNeg, Bool.not_not, and_self, Bool.and_eq_false_iff, Int.cast_ofNat_Int, Int.reduceAdd, Int.reduceSub, Int.reduceMul, Int.reduceEq, Int.reduceNe]) (by simp only [go_sem, Nat.reduceEqDiff, Nat.reduceBEq, Nat.reduceAdd, Nat.reduceMul, Nat.reduceSub, Nat.reduceLeDiff, Nat.reduceLT, reduceIte, reduceCtorEq, Int.reduceToNat, Int.reduceLE, Int.reduceLT, Int.reduceNeg, Bool.not_not, and_self, Bool.and_eq_false_iff, Int.cast_ofNat_Int, Int.reduceAdd, Int.reduceSub, Int.reduceMul, Int.reduceEq, Int.reduceNe] <;> rfl) (fn23t d.done[j] (by omega)) ⟨rfl, trivial⟩ trivial ?_
      simp only [go_sem, Nat.reduceEqDiff, Nat.reduceBEq, Nat.reduceAdd, Nat.reduceMul, Nat.reduceSub, Nat.reduceLeDiff, Nat.reduceLT, reduceIte, reduceCtorEq, Int.reduceToNat, Int.reduceLE, Int.reduceLT, Int.reduceNeg, Bool.not_not, and_self, Bool.and_eq_false_iff, Int.cast_ofNat_Int, Int.reduceAdd, Int.reduceSub, Int.reduceMul, Int.reduceEq, Int.reduceNe]
      exact ⟨⟨by omega, by omega⟩, j + 1, rfl, hjl, by omega⟩
    · simp only [go_sem, Nat.reduceEqDiff, Nat.reduceBEq, Nat.reduceAdd, Nat.reduceMul, Nat.reduceSub, Nat.reduceLeDiff, Nat.reduceLT, reduceIte, reduceCtorEq, Int.reduceToNat, Int.reduceLE, Int.reduceLT, Int.reduceNeg, Bool.not_not, and_self, Bool.and_eq_false_iff, Int.cast_ofNat_Int, Int.reduceAdd, Int.reduceSub, Int.reduceMul, Int.reduceEq, Int.reduceNe, B13_1, R13_1, show ¬ (j : Int) < (d.done.length : Int) by omega]
/-! ### the chapter's examples -/
abbrev ex0 : DI := ⟨[], [[1], [2], [1]], [[], [0], [0]]⟩
abbrev ex1 : DI := ⟨[], [[1], [1]], [[], [0]]⟩
theorem live_all {d : DI} (h : ∀ i, i < d.next.length → d.Live i) : liveL d = List.replicate d.next.length true := by
  unfold liveL
  refine List.ext_getElem (by simp) fun i h1 h2 => ?_
  have := h i (by simpa using h1)
  simp [this]
theorem ex0_live : liveL ex0 = [true, true, true] := by
  have h1 : ex0.Live 1 := .done (by decide) (by decide)
  have h2 : ex0.Live 2 := .done (by decide) (by decide)
  have h0 : ex0.Live 0 := .step (to := 1) (by decide) (by decide) h1
  refine live_all fun i hi => ?_
  have : i = 0 ∨ i = 1 ∨ i = 2 := by have : i < 3 := hi; omega
  rcases this with rfl | rfl | rfl <;> assumption
theorem ex1_live : liveL ex1 = [true, true] := by
  have h1 : ex1.Live 1 := .done (by decide) (by decide)
  have h0 : ex1.Live 0 := .step (to := 1) (by decide) (by decide) h1
  refine live_all fun i hi => ?_
  have : i = 0 ∨ i = 1 := by have : i < 2 := hi; omega
  rcases this with rfl | rfl <;> assumption
theorem ex0_least : leastR ex0 = ex1 := by
  unfold leastR
  rw [ex0_live]
  rfl
theorem ex1_least : leastR ex1 = ex1 := by
  unfold leastR
  rw [ex1_live]
  rfl
theorem ex0_may : mayB ex0 = true := by decide +kernel
theorem ex1_may : mayB ex1 = true := by decide +kernel
theorem exz_may : mayB zDi = false := by decide +kernel
theorem small_of {d : DI} (h1 : d.signs.length ≤ 1000) (h2 : d.next.length ≤ 1000) (h3 : d.done.length ≤ 1000) (h4 : ∀ l ∈ d.next, l.length ≤ 1000) (h5 : ∀ l ∈ d.done, l.length ≤ 1000) : d.Sm := by
  refine ⟨h1, h2, h3, fun i => ?_, fun i => ?_⟩
  · by_cases hi : i < d.next.length
    · rw [getD_in hi]; exact h4 _ (List.getElem_mem hi)
    · rw [List.getD_eq_getElem?_getD, List.getElem?_eq_none (by omega)]; simp
  · by_cases hi : i < d.done.length
    · rw [getD_in hi]; exact h5 _ (List.getElem_mem hi)
    · rw [List.getD_eq_getElem?_getD, List.getElem?_eq_none (by omega)]; simp
theorem I64_of {d : DI} (h : ∀ l ∈ d.done, ∀ n ∈ l, I64 n) : ∀ i, ∀ n ∈ d.done.getD i [], I64 n := fun i n hn => by
  by_cases hi : i < d.done.length
  · rw [getD_in hi] at hn; exact h _ (List.getElem_mem hi) n hn
  · rw [List.getD_eq_getElem?_getD, List.getElem?_eq_none (by omega)] at hn; cases hn
theorem fn12 : Fn Tryd.prog 12 [] (.pv (pB true)) [] := by
  have s0 : ex0.Sm := small_of (by decide) (by decide) (by decide) (by decide) (by decide)
  have s1 : ex1.Sm := small_of (by decide) (by decide) (by decide) (by decide) (by decide)
  have sz : zDi.Sm := small_of (by decide) (by decide) (by decide) (by decide) (by decide)
  have i0 : ∀ i, ∀ n ∈ ex0.done.getD i [], I64 n := I64_of (by unfold I64; decide)
  have i1 : ∀ i, ∀ n ∈ ex1.done.getD i [], I64 n := I64_of (by unfold I64; decide)
  have iz : ∀ i, ∀ n ∈ zDi.done.getD i [], I64 n := I64_of (by unfold I64; decide)
  have r0 := fn11 ex0 s0 i0
  have r1 := fn11 ex1 s1 i1
  have rz := fn11 zDi sz iz
  rw [ex0_may, if_pos rfl, if_pos rfl, ex0_least] at r0
  rw [ex1_may, if_pos rfl, if_pos rfl, ex1_least] at r1
  rw [exz_may, if_neg (by simp), if_neg (by simp)] at rz
  have rs := fn13t ex1 s1
  refine Run12 [] (by simp) ?_
  simp only [go_sem, Nat.reduceEqDiff, Nat.reduceBEq, Nat.reduceAdd, Nat.reduceMul, Nat.reduceSub, Nat.reduceLeDiff, Nat.reduceLT, reduceIte, reduceCtorEq, Int.reduceToNat, Int.reduceLE, Int.reduceLT, Int.reduceNeg, Bool.not_not, and_self, Bool.and_eq_false_iff, Int.cast_ofNat_Int, Int.reduceAdd, Int.reduceSub, Int.reduceMul, Int.reduceEq, Int.reduceNe, M12]
  refine runR_call (by simp only [go_sem, Nat.reduceEqDiff, Nat.reduceBEq, Nat.reduceAdd, Nat.reduceMul, Nat.reduceSub, Nat.reduceLeDiff, Nat.reduceLT, reduceIte, reduceCtorEq, Int.reduceToNat, Int.reduceLE, Int.reduceLT, Int.reduceNeg, Bool.not_not, and_self, Bool.and_eq_false_iff, Int.cast_ofNat_Int, Int.reduceAdd, Int.reduceSub, Int.reduceMul, Int.reduceEq, Int.reduceNe]) rfl (r0) (.inl rfl) trivial ?_
  simp only [go_sem, Nat.reduceEqDiff, Nat.reduceBEq, Nat.reduceAdd, Nat.reduceMul, Nat.reduceSub, Nat.reduceLeDiff, Nat.reduceLT, reduceIte, reduceCtorEq, Int.reduceToNat, Int.reduceLE, Int.reduceLT, Int.reduceNeg, Bool.not_not, and_self, Bool.and_eq_false_iff, Int.cast_ofNat_Int, Int.reduceAdd, Int.reduceSub, Int.reduceMul, Int.reduceEq, Int.reduceNe]
  refine runR_call (by simp only [go_sem, Nat.reduceEqDiff, Nat.reduceBEq, Nat.reduceAdd, Nat.reduceMul, Nat.reduceSub, Nat.reduceLeDiff, Nat.reduceLT, reduceIte, reduceCtorEq, Int.reduceToNat, Int.reduceLE, Int.reduceLT, Int.reduceNeg, Bool.not_not, and_self, Bool.and_eq_false_iff, Int.cast_ofNat_Int, Int.reduceAdd, Int.reduceSub, Int.reduceMul, Int.reduceEq, Int.reduceNe]) rfl (r1) (.inl rfl) trivial ?_
  simp only [go_sem, Nat.reduceEqDiff, Nat.reduceBEq, Nat.reduceAdd, Nat.reduceMul, Nat.reduceSub, Nat.reduceLeDiff, Nat.reduceLT, reduceIte, reduceCtorEq, Int.reduceToNat, Int.reduceLE, Int.reduceLT, Int.reduceNeg, Bool.not_not, and_self, Bool.and_eq_false_iff, Int.cast_ofNat_Int, Int.reduceAdd, Int.reduceSub, Int.reduceMul, Int.reduceEq, Int.reduceNe]
  refine runR_callf (by simp only [go_sem, Nat.reduceEqDiff, Nat.reduceBEq, Nat.reduceAdd, Nat.reduceMul, Nat.reduceSub, Nat.reduceLeDiff, Nat.reduceLT, reduceIte, reduceCtorEq, Int.reduceToNat, Int.reduceLE, Int.reduceLT, Int.reduceNeg, Bool.not_not, and_self, Bool.and_eq_false_iff, Int.cast_ofNat_Int, Int.reduceAdd, Int.reduceSub, Int.reduceMul, Int.reduceEq, Int.reduceNe]) (by simp only [go_sem, Nat.reduceEqDiff, Nat.reduceBEq, Nat.reduceAdd, Nat.reduceMul, Nat.reduceSub, Nat.reduceLeDiff, Nat.reduceLT, reduceIte, reduceCtorEq, Int.reduceToNat, Int.reduceLE, Int.reduceLT, Int.reduceNeg, Bool.not_not, and_self, Bool.and_eq_false_iff, Int.cast_ofNat_Int, Int.reduceAdd, Int.reduceSub, Int.reduceMul, Int.reduceEq, Int.reduceNe] <;> rfl) (rz) ⟨rfl, trivial⟩ trivial ?_
  simp only [go_sem, Nat.reduceEqDiff, Nat.reduceBEq, Nat.reduceAdd, Nat.reduceMul, Nat.reduceSub, Nat.reduceLeDiff, Nat.reduceLT, reduceIte, reduceCtorEq, Int.reduceToNat, Int.reduceLE, Int.reduceLT, Int.reduceNeg, Bool.not_not, and_self, Bool.and_eq_false_iff, Int.cast_ofNat_Int, Int.reduceAdd, Int.reduceSub, Int.reduceMul, Int.reduceEq, Int.reduceNe]
  refine runR_callgf (by simp only [go_sem, Nat.reduceEqDiff, Nat.reduceBEq, Nat.reduceAdd, Nat.reduceMul, Nat.reduceSub, Nat.reduceLeDiff, Nat.reduceLT, reduceIte, reduceCtorEq, Int.reduceToNat, Int.reduceLE, Int.reduceLT, Int.reduceNeg, Bool.not_not, and_self, Bool.and_eq_false_iff, Int.cast_ofNat_Int, Int.reduceAdd, Int.reduceSub, Int.reduceMul, Int.reduceEq, Int.reduceNe]) (by simp only [go_sem, Nat.reduceEqDiff, Nat.reduceBEq, Nat.reduceAdd, Nat.reduceMul, Nat.reduceSub, Nat.reduceLeDiff, Nat.reduceLT, reduceIte, reduceCtorEq, Int.reduceToNat, Int.reduceLE, Int.reduceLT, Int.reduceNeg, Bool.not_not, and_self, Bool.and_eq_false_iff, Int.cast_ofNat_Int, Int.reduceAdd, Int.reduceSub, Int.reduceMul, Int.reduceEq, Int.reduceNe]) (by simp only [go_sem, Nat.reduceEqDiff, Nat.reduceBEq, Nat.reduceAdd, Nat.reduceMul, Nat.reduceSub, Nat.reduceLeDiff, Nat.reduceLT, reduceIte, reduceCtorEq, Int.reduceToNat, Int.reduceLE, Int.reduceLT, Int.reduceNeg, Bool.not_not, and_self, Bool.and_eq_false_iff, Int.cast_ofNat_Int, Int.reduceAdd, Int.reduceSub, Int.reduceMul, Int.reduceEq, Int.reduceNe] <;> rfl) (fun _ => rs) rfl ?_
  simp only [go_sem, Nat.reduceEqDiff, Nat.reduceBEq, Nat.reduceAdd, Nat.reduceMul, Nat.reduceSub, Nat.reduceLeDiff, Nat.reduceLT, reduceIte, reduceCtorEq, Int.reduceToNat, Int.reduceLE, Int.reduceLT, Int.reduceNeg, Bool.not_not, and_self, Bool.and_eq_false_iff, Int.cast_ofNat_Int, Int.reduceAdd, Int.reduceSub, Int.reduceMul, Int.reduceEq, Int.reduceNe]
end Go.Vc
