/- A part of the proofs of the seat YtbgobfldphoncaaDoor: the contracts of functions, each proved out of its code. -/
import Derived.Test.YtbgobfldphoncaaDoorVh
import Derived.Test.YtbgobfldphoncaaDoorProg
import Derived.Test.YtbgobfldphoncaaDoorNb
namespace Go.Vc
open Go.Proofs
set_option maxRecDepth 100000

/-- 'name.Meets.1' -/
def M24 : MC := (.seq (.reg [⟨(some 3), none, (.box (.t 0))⟩] [] [1, 2, 3] [3, 20, 150000, 200000, 200001, 200002]) (.seq (.reg [⟨(some 7), none, (.q (.ld (.t 1) 1 false))⟩, ⟨(some 8), none,
  (.q (.ld (.t 3) 2 true))⟩, ⟨(some 9), none, (.q (.mget (.t 7) (.t 8) true (Kk.st [0, 0]) (.pv (.agg []))))⟩, ⟨(some 6), none, (.q (.mv (.t 9)))⟩, ⟨(some 10), none, (.q (.ext (.t 6) 0))⟩, ⟨(some 11),
  none, (.q (.ext (.t 6) 1))⟩, ⟨(some 4), none, (.alloc [])⟩, ⟨none, none, (.st (.t 4) (.t 10) 0)⟩, ⟨(some 5), none, (.q (.mv (.t 11)))⟩] [] [1, 2, 3, 5] [3, 20, 150000, 200000, 200001, 200002])
  (.seq (.reg [⟨(some 12), none, (.q (.mv (.t 5)))⟩, ⟨(some 13), none, (.q (.not (.t 12)))⟩] [] [1, 2, 3, 13] [3, 20, 150000, 200000, 200001, 200002]) (.cond (.t 13) (.seq (.reg [⟨(some 14), none,
  (.q (.ld (.t 1) 1 false))⟩, ⟨(some 15), none, (.q (.ld (.t 3) 2 true))⟩, ⟨(some 16), none, (.q (.mk [] []))⟩, ⟨none, none, (.mset (.t 14) (.t 15) (.t 16) (Kk.st [0, 0]))⟩] [] [2, 3] [3, 20, 150000,
  200000, 200001, 200002]) (.reg [⟨(some 17), none, (.q (.ld (.t 2) 1 false))⟩, ⟨(some 18), none, (.q (.ld (.t 3) 2 true))⟩, ⟨(some 19), none, (.lits [(.t 18)] 2)⟩, ⟨(some 20), none, (.app (.t 17)
  (.t 19) 2 16)⟩, ⟨none, none, (.st (.t 2) (.t 20) 1)⟩] [] [] [20, 150000, 200000, 200001, 200002])) .skip))))
theorem mc24 : ofCode Tryd.prog [] Tryd.f24.ntmps [(0, ⟨[1, 2, 3], [3, 20, 150000, 200000, 200001, 200002], [], 0, [], none⟩),
    (1, ⟨[1, 2, 3, 5], [3, 20, 150000, 200000, 200001, 200002], [], 0, [], none⟩),
    (2, ⟨[1, 2, 3, 13], [3, 20, 150000, 200000, 200001, 200002], [], 0, [], none⟩),
    (3, ⟨[2, 3], [3, 20, 150000, 200000, 200001, 200002], [], 0, [], none⟩),
    (4, ⟨[], [20, 150000, 200000, 200001, 200002], [], 0, [], none⟩)] (Tryd.f24.body.getD .skip) = some M24 := by kernel_rfl
theorem Run24 {args : List PV} {v : AV} {rs : List (Nat × List PV)} (ids : List Bool) (h : args.length ≤ 21) (hv : run Tryd.prog (retK [] ids v rs) M24 [] ⟨entry 0 args, []⟩) : Fn Tryd.prog 24 args v rs :=
  Fn_run ids (by kernel_rfl) Tryd.func24 (by decide) rfl mc24 (by kernel_rfl) (by rw [Tryd.ntmps24]; exact h) (by rw [Tryd.ntmps24]; decide) hv
theorem RunS24 {args : List AV} {st st' : List (Nat × Row)} {v : AV} (h : args.length ≤ 21) (hk : (st'.map (·.1)).Nodup) (hv : run Tryd.prog (retS [] v st') M24 [] ⟨entryA 0 args, st⟩) : FnS Tryd.prog 24 args st v st' :=
  FnS_run (by kernel_rfl) Tryd.func24 (by decide) rfl mc24 (by kernel_rfl) (by rw [Tryd.ntmps24]; exact h) (by rw [Tryd.ntmps24]; decide) hk hv

/-- 'name.Meets' -/
def B11_0 : MC := (.seq (.seq (.reg [⟨(some 34), none, (.q (.ld (.t 8) 1 false))⟩, ⟨(some 35), none, (.q (.len (.t 34) false))⟩, ⟨(some 36), none, (.q (.bin .gtr (.t 35) (.c (.int .i64 0))))⟩] [] [5,
  6, 7, 8, 9, 36] [7, 8, 27, 32, 1024, 1026, 1072, 1081, 1104]) (.cond (.t 36) .skip (.exit 0))) (.block 1 (.seq (.reg [⟨(some 37), none, (.q (.ld (.t 8) 1 false))⟩, ⟨(some 38), none, (.q (.ld (.t 8)
  1 false))⟩, ⟨(some 39), none, (.q (.len (.t 38) false))⟩, ⟨(some 40), none, (.q (.bin .sub (.t 39) (.c (.int .i64 1))))⟩, ⟨(some 41), none, (.q (.ia (.t 37) (.t 40) 2))⟩, ⟨(some 42), none,
  (.q (.ld (.t 41) 2 true))⟩, ⟨(some 10), none, (.alloc [(.pv (.sc (.int .i64 0))), (.pv (.sc (.int .i64 0)))])⟩, ⟨none, none, (.st (.t 10) (.t 42) 2)⟩] [] [5, 6, 7, 8, 9, 10] [7, 8, 10, 27, 32, 1024,
  1026, 1072, 1081, 1104]) (.seq (.reg [⟨(some 43), none, (.q (.ld (.t 8) 1 false))⟩, ⟨(some 44), none, (.q (.ld (.t 8) 1 false))⟩, ⟨(some 45), none, (.q (.len (.t 44) false))⟩, ⟨(some 46), none,
  (.q (.bin .sub (.t 45) (.c (.int .i64 1))))⟩, ⟨(some 47), none, (.q (.slc (.t 43) none (some (.t 46)) 2 false))⟩, ⟨none, none, (.st (.t 8) (.t 47) 1)⟩] [] [5, 6, 7, 8, 9, 10] [7, 8, 10, 27, 32,
  1024, 1026, 1072, 1081, 1104]) (.seq (.seq (.reg [⟨(some 48), none, (.q (.fa (.t 10) 0))⟩, ⟨(some 49), none, (.q (.ld (.t 48) 1 false))⟩, ⟨(some 50), none, (.q (.mv (.t 5)))⟩, ⟨(some 51), none,
  (.q (.len (.t 50) false))⟩, ⟨(some 52), none, (.q (.bin .eql (.t 49) (.t 51)))⟩] [] [5, 6, 7, 8, 9, 10, 52] [7, 8, 10, 27, 32, 1024, 1026, 1072, 1081, 1104]) (.cond (.t 52) (.exit 1) .skip))
  (.seq (.reg [⟨(some 53), none, (.q (.mv (.t 5)))⟩, ⟨(some 54), none, (.q (.fa (.t 10) 0))⟩, ⟨(some 55), none, (.q (.ld (.t 54) 1 false))⟩, ⟨(some 56), none, (.q (.ia (.t 53) (.t 55) 1))⟩,
  ⟨(some 57), none, (.q (.ld (.t 56) 1 false))⟩, ⟨(some 58), none, (.q (.fa (.t 10) 1))⟩, ⟨(some 59), none, (.q (.ld (.t 58) 1 false))⟩, ⟨(some 60), none, (.q (.mv (.t 6)))⟩, ⟨(some 61), none,
  (.q (.len (.t 60) false))⟩, ⟨(some 62), none, (.q (.bin .lss (.t 59) (.t 61)))⟩, ⟨(some 11), none, (.q (.mv (.t 57)))⟩, ⟨(some 12), none, (.q (.mv (.t 62)))⟩] [] [5, 6, 7, 8, 9, 10, 11, 12] [7, 8,
  10, 27, 32, 1024, 1026, 1072, 1081, 1104]) (.seq (.reg [⟨(some 63), none, (.q (.mv (.t 11)))⟩, ⟨(some 64), none, (.q (.bin .eql (.t 63) (.c (.string ⟨#[42, 42]⟩))))⟩] [] [5, 6, 7, 8, 9, 10, 11, 12,
  64] [7, 8, 10, 27, 32, 1024, 1026, 1072, 1081, 1104]) (.cond (.t 64) (.seq (.reg [⟨(some 65), none, (.q (.mv (.t 9)))⟩, ⟨(some 66), none, (.q (.fa (.t 10) 0))⟩, ⟨(some 67), none, (.q (.ld (.t 66)
  1 false))⟩, ⟨(some 68), none, (.q (.bin .add (.t 67) (.c (.int .i64 1))))⟩, ⟨(some 69), none, (.q (.fa (.t 10) 1))⟩, ⟨(some 70), none, (.q (.ld (.t 69) 1 false))⟩, ⟨(some 71), none,
  (.q (.mk [(.pv (.sc (.int .i64 0))), (.pv (.sc (.int .i64 0)))] [(0, 1, (.t 68)), (1, 1, (.t 70))]))⟩, ⟨(some 72), none, (.calls (.t 65) [(.t 71)])⟩] [] [5, 6, 7, 8, 9, 10, 12] [7, 8, 10, 27, 32,
  1024, 1026, 1072, 1081, 1104]) (.seq (.reg [⟨(some 73), none, (.q (.mv (.t 12)))⟩] [] [5, 6, 7, 8, 9, 10, 73] [7, 8, 10, 27, 32, 1024, 1026, 1072, 1081, 1104]) (.cond (.t 73) (.reg [⟨(some 74),
  none, (.q (.mv (.t 9)))⟩, ⟨(some 75), none, (.q (.fa (.t 10) 0))⟩, ⟨(some 76), none, (.q (.ld (.t 75) 1 false))⟩, ⟨(some 77), none, (.q (.fa (.t 10) 1))⟩, ⟨(some 78), none, (.q (.ld (.t 77)
  1 false))⟩, ⟨(some 79), none, (.q (.bin .add (.t 78) (.c (.int .i64 1))))⟩, ⟨(some 80), none, (.q (.mk [(.pv (.sc (.int .i64 0))), (.pv (.sc (.int .i64 0)))] [(0, 1, (.t 76)), (1, 1, (.t 79))]))⟩,
  ⟨(some 81), none, (.calls (.t 74) [(.t 80)])⟩] [] [5, 6, 7, 8, 9] [7, 8, 27, 32, 1024, 1026, 1072, 1081, 1104]) .skip))) (.seq (.reg [⟨(some 82), none, (.q (.mv (.t 12)))⟩, ⟨(some 83), none,
  (.q (.mv (.t 82)))⟩, ⟨(some 84), (some (83, true)), (.q (.mv (.t 11)))⟩, ⟨(some 85), (some (83, true)), (.q (.bin .eql (.t 84) (.c (.string ⟨#[42]⟩))))⟩, ⟨(some 86), (some (83, true)),
  (.q (.mv (.t 85)))⟩, ⟨(some 87), (some (86, false)), (.q (.mv (.t 11)))⟩, ⟨(some 88), (some (86, false)), (.q (.mv (.t 6)))⟩, ⟨(some 89), (some (86, false)), (.q (.fa (.t 10) 1))⟩, ⟨(some 90),
  (some (86, false)), (.q (.ld (.t 89) 1 false))⟩, ⟨(some 91), (some (86, false)), (.q (.ia (.t 88) (.t 90) 1))⟩, ⟨(some 92), (some (86, false)), (.q (.ld (.t 91) 1 false))⟩, ⟨(some 93), (some (86,
  false)), (.q (.bin .eql (.t 87) (.t 92)))⟩, ⟨(some 94), (some (83, true)), (.q (.pick (.t 86) (.c (.bool true)) (.t 93)))⟩, ⟨(some 95), none, (.q (.pick (.t 83) (.t 94) (.c (.bool false))))⟩] [] [5,
  6, 7, 8, 9, 10, 95] [7, 8, 10, 27, 32, 1024, 1026, 1072, 1081, 1104]) (.cond (.t 95) (.reg [⟨(some 96), none, (.q (.mv (.t 9)))⟩, ⟨(some 97), none, (.q (.fa (.t 10) 0))⟩, ⟨(some 98), none,
  (.q (.ld (.t 97) 1 false))⟩, ⟨(some 99), none, (.q (.bin .add (.t 98) (.c (.int .i64 1))))⟩, ⟨(some 100), none, (.q (.fa (.t 10) 1))⟩, ⟨(some 101), none, (.q (.ld (.t 100) 1 false))⟩, ⟨(some 102),
  none, (.q (.bin .add (.t 101) (.c (.int .i64 1))))⟩, ⟨(some 103), none, (.q (.mk [(.pv (.sc (.int .i64 0))), (.pv (.sc (.int .i64 0)))] [(0, 1, (.t 99)), (1, 1, (.t 102))]))⟩, ⟨(some 104), none,
  (.calls (.t 96) [(.t 103)])⟩] [] [5, 6, 7, 8, 9] [7, 8, 27, 32, 1024, 1026, 1072, 1081, 1104]) .skip))))))))))
def R11_0 : MC := (.seq (.reg [⟨(some 106), none, (.q (.ld (.t 7) 1 false))⟩, ⟨(some 107), none, (.q (.mv (.t 5)))⟩, ⟨(some 108), none, (.q (.len (.t 107) false))⟩, ⟨(some 109), none,
  (.q (.mv (.t 6)))⟩, ⟨(some 110), none, (.q (.len (.t 109) false))⟩, ⟨(some 111), none, (.q (.mk [(.pv (.sc (.int .i64 0))), (.pv (.sc (.int .i64 0)))] [(0, 1, (.t 108)), (1, 1, (.t 110))]))⟩,
  ⟨(some 112), none, (.q (.mget (.t 106) (.t 111) true (Kk.st [0, 0]) (.pv (.agg []))))⟩, ⟨(some 105), none, (.q (.mv (.t 112)))⟩, ⟨(some 113), none, (.q (.ext (.t 105) 0))⟩, ⟨(some 114), none,
  (.q (.ext (.t 105) 1))⟩, ⟨(some 13), none, (.alloc [])⟩, ⟨none, none, (.st (.t 13) (.t 113) 0)⟩, ⟨(some 14), none, (.q (.mv (.t 114)))⟩] [] [14] [27, 1072, 1081, 1104]) (.seq (.reg [⟨(some 115),
  none, (.q (.mv (.t 14)))⟩, ⟨(some 4), none, (.q (.mv (.t 115)))⟩] [] [4] [27, 1072, 1081, 1104]) .ret))
def M11 : MC := (.seq (.reg [⟨(some 4), none, (.q (.mv (.c (.bool false))))⟩] [] [0, 1] []) (.seq (.seq (.reg [⟨(some 15), none, (.q (.mv (.t 0)))⟩, ⟨(some 16), none, (.call (.f 14) [(.t 15)])⟩,
  ⟨(some 17), none, (.q (.not (.t 16)))⟩, ⟨(some 18), none, (.q (.mv (.t 17)))⟩, ⟨(some 19), (some (18, false)), (.q (.mv (.t 1)))⟩, ⟨(some 20), (some (18, false)), (.call (.f 12) [(.t 19)])⟩,
  ⟨(some 21), (some (18, false)), (.q (.not (.t 20)))⟩, ⟨(some 22), none, (.q (.pick (.t 18) (.c (.bool true)) (.t 21)))⟩] [] [0, 1, 22] [1016, 1020]) (.cond (.t 22) (.seq (.reg [⟨(some 4), none,
  (.q (.mv (.c (.bool false))))⟩] [] [4] [27, 1072, 1081, 1104]) .ret) .skip)) (.seq (.reg [⟨(some 23), none, (.q (.mv (.t 0)))⟩, ⟨(some 24), none, (.call (.f 23) [(.t 23), (.c (.string ⟨#[46]⟩))])⟩,
  ⟨(some 25), none, (.q (.mv (.t 1)))⟩, ⟨(some 26), none, (.call (.f 23) [(.t 25), (.c (.string ⟨#[46]⟩))])⟩, ⟨(some 5), none, (.q (.mv (.t 24)))⟩, ⟨(some 6), none, (.q (.mv (.t 26)))⟩] [] [5,
  6] [1024, 1026]) (.seq (.reg [⟨(some 27), none, .mkm⟩, ⟨(some 28), none, (.q (.mk [(.pv (.sc (.int .i64 0))), (.pv (.sc (.int .i64 0)))] [(0, 1, (.c (.int .i64 0))), (1, 1, (.c (.int .i64 0)))]))⟩,
  ⟨(some 29), none, (.q (.mk [] []))⟩, ⟨none, none, (.mset (.t 27) (.t 28) (.t 29) (Kk.st [0, 0]))⟩, ⟨(some 30), none, (.q (.mv (.t 27)))⟩, ⟨(some 7), none, (.alloc [(.pv (.sc (.map none)))])⟩, ⟨none,
  none, (.st (.t 7) (.t 30) 1)⟩] [] [5, 6, 7] [7, 27, 1024, 1026, 1072, 1081, 1104]) (.seq (.reg [⟨(some 31), none, (.q (.mk [(.pv (.sc (.int .i64 0))), (.pv (.sc (.int .i64 0)))] [(0, 1,
  (.c (.int .i64 0))), (1, 1, (.c (.int .i64 0)))]))⟩, ⟨(some 32), none, (.own [(.t 31)] 2)⟩, ⟨(some 8), none, (.alloc [.e0])⟩, ⟨none, none, (.st (.t 8) (.t 32) 1)⟩] [] [5, 6, 7, 8] [7, 8, 27, 32,
  1024, 1026, 1072, 1081, 1104]) (.seq (.reg [⟨(some 33), none, (.q (.clo 24 [(.t 7), (.t 8)]))⟩, ⟨(some 9), none, (.q (.mv (.t 33)))⟩] [] [5, 6, 7, 8, 9] [7, 8, 27, 32, 1024, 1026, 1072, 1081, 1104])
  (.seq (.block 0 (.loop B11_0)) R11_0)))))))
theorem mc11 : ofCode Tryd.prog [32, 72, 81, 104] Tryd.f11.ntmps [(0, ⟨[0, 1], [], [], 0, [], none⟩),
    (1, ⟨[0, 1, 22], [1016, 1020], [], 0, [], none⟩),
    (2, ⟨[4], [27, 1072, 1081, 1104], [], 0, [], none⟩),
    (3, ⟨[5, 6], [1024, 1026], [], 0, [], none⟩),
    (4, ⟨[5, 6, 7], [7, 27, 1024, 1026, 1072, 1081, 1104], [], 0, [], none⟩),
    (5, ⟨[5, 6, 7, 8], [7, 8, 27, 32, 1024, 1026, 1072, 1081, 1104], [], 0, [], none⟩),
    (6, ⟨[5, 6, 7, 8, 9], [7, 8, 27, 32, 1024, 1026, 1072, 1081, 1104], [], 0, [], none⟩),
    (7, ⟨[5, 6, 7, 8, 9, 36], [7, 8, 27, 32, 1024, 1026, 1072, 1081, 1104], [], 0, [], none⟩),
    (8, ⟨[5, 6, 7, 8, 9, 10], [7, 8, 10, 27, 32, 1024, 1026, 1072, 1081, 1104], [], 0, [], none⟩),
    (9, ⟨[5, 6, 7, 8, 9, 10], [7, 8, 10, 27, 32, 1024, 1026, 1072, 1081, 1104], [], 0, [], none⟩),
    (10, ⟨[5, 6, 7, 8, 9, 10, 52], [7, 8, 10, 27, 32, 1024, 1026, 1072, 1081, 1104], [], 0, [], none⟩),
    (11, ⟨[5, 6, 7, 8, 9, 10, 11, 12], [7, 8, 10, 27, 32, 1024, 1026, 1072, 1081, 1104], [(0, 3097), (1, 3102), (2, 3100), (3, 3096), (4, 3088), (5, 2656), (6, 2624), (7, 2944), (8, 2816), (9, 2560), (10, 3072), (11, 2048)], 4095, [], none⟩),
    (12, ⟨[5, 6, 7, 8, 9, 10, 11, 12, 64], [7, 8, 10, 27, 32, 1024, 1026, 1072, 1081, 1104], [], 0, [], none⟩),
    (13, ⟨[5, 6, 7, 8, 9, 10, 12], [7, 8, 10, 27, 32, 1024, 1026, 1072, 1081, 1104], [], 0, [], none⟩),
    (14, ⟨[5, 6, 7, 8, 9, 10, 73], [7, 8, 10, 27, 32, 1024, 1026, 1072, 1081, 1104], [], 0, [], none⟩),
    (15, ⟨[5, 6, 7, 8, 9], [7, 8, 27, 32, 1024, 1026, 1072, 1081, 1104], [], 0, [], none⟩),
    (16, ⟨[5, 6, 7, 8, 9, 10, 95], [7, 8, 10, 27, 32, 1024, 1026, 1072, 1081, 1104], [], 0, [], none⟩),
    (17, ⟨[5, 6, 7, 8, 9], [7, 8, 27, 32, 1024, 1026, 1072, 1081, 1104], [], 0, [], none⟩),
    (18, ⟨[14], [27, 1072, 1081, 1104], [], 0, [], none⟩),
    (19, ⟨[4], [27, 1072, 1081, 1104], [], 0, [], none⟩)] (Tryd.f11.body.getD .skip) = some M11 := by kernel_rfl
theorem Run11 {args : List PV} {v : AV} {rs : List (Nat × List PV)} (ids : List Bool) (h : args.length ≤ 116) (hv : run Tryd.prog (retK [RV.tmp 4] ids v rs) M11 [] ⟨entry 0 args, []⟩) : Fn Tryd.prog 11 args v rs :=
  Fn_run ids (by kernel_rfl) Tryd.func11 (by decide) rfl mc11 (by kernel_rfl) (by rw [Tryd.ntmps11]; exact h) (by rw [Tryd.ntmps11]; decide) hv

/-- 'trystlaw02.awake' -/
def M13 : MC := (.seq (.reg [⟨(some 0), none, (.q (.mv (.c (.bool false))))⟩] [] [] []) (.seq (.reg [⟨(some 1), none, (.call (.f 11) [(.c (.string ⟨#[97, 46, 42, 46, 99]⟩)), (.c (.string ⟨#[97, 46,
  98, 46, 99]⟩))])⟩, ⟨(some 2), none, (.q (.mv (.t 1)))⟩, ⟨(some 3), (some (2, true)), (.call (.f 11) [(.c (.string ⟨#[97, 46, 42, 42]⟩)), (.c (.string ⟨#[97]⟩))])⟩, ⟨(some 4), none, (.q (.pick (.t 2)
  (.t 3) (.c (.bool false))))⟩, ⟨(some 5), none, (.q (.mv (.t 4)))⟩, ⟨(some 6), (some (5, true)), (.call (.f 11) [(.c (.string ⟨#[42, 46, 98]⟩)), (.c (.string ⟨#[98]⟩))])⟩, ⟨(some 7), (some (5,
  true)), (.q (.not (.t 6)))⟩, ⟨(some 8), none, (.q (.pick (.t 5) (.t 7) (.c (.bool false))))⟩, ⟨(some 9), none, (.q (.mv (.t 8)))⟩, ⟨(some 10), (some (9, true)), (.call (.f 12) [(.c (.string ⟨#[97,
  46, 98, 95, 49]⟩))])⟩, ⟨(some 11), none, (.q (.pick (.t 9) (.t 10) (.c (.bool false))))⟩, ⟨(some 12), none, (.q (.mv (.t 11)))⟩, ⟨(some 13), (some (12, true)), (.call (.f 12) [(.c (.string ⟨#[97,
  46, 46, 98]⟩))])⟩, ⟨(some 14), (some (12, true)), (.q (.not (.t 13)))⟩, ⟨(some 15), none, (.q (.pick (.t 12) (.t 14) (.c (.bool false))))⟩, ⟨(some 16), none, (.q (.mv (.t 15)))⟩, ⟨(some 17), none,
  (.q (.pick (.t 16) (.c (.bool true)) (.c (.bool false))))⟩, ⟨(some 18), none, (.q (.mv (.t 17)))⟩, ⟨(some 19), none, (.q (.pick (.t 18) (.c (.bool true)) (.c (.bool false))))⟩, ⟨(some 0), none,
  (.q (.mv (.t 19)))⟩] [] [0] [1001, 1003, 1006, 1010, 1013]) .ret))
theorem mc13 : ofCode Tryd.prog [] Tryd.f13.ntmps [(0, ⟨[], [], [], 0, [], none⟩),
    (1, ⟨[0], [1001, 1003, 1006, 1010, 1013], [], 0, [], none⟩)] (Tryd.f13.body.getD .skip) = some M13 := by kernel_rfl
theorem Run13 {args : List PV} {v : AV} {rs : List (Nat × List PV)} (ids : List Bool) (h : args.length ≤ 20) (hv : run Tryd.prog (retK [RV.tmp 0] ids v rs) M13 [] ⟨entry 0 args, []⟩) : Fn Tryd.prog 13 args v rs :=
  Fn_run ids (by kernel_rfl) Tryd.func13 (by decide) rfl mc13 (by kernel_rfl) (by rw [Tryd.ntmps13]; exact h) (by rw [Tryd.ntmps13]; decide) hv

end Go.Vc

namespace Go.Vc
open Go.Proofs
set_option maxRecDepth 100000

/-- 'trystlaw02.NameDeep' -/
def M3 : MC := (.seq (.reg [⟨(some 6), none, (.q (.mv (.c (.bool false))))⟩] [] [0, 1, 2] [1010, 1012, 1014]) (.seq (.reg [⟨(some 9), none, (.q (.mv (.t 0)))⟩, ⟨(some 10), none, (.call (.f 10)
  [(.t 9)])⟩, ⟨(some 11), none, (.q (.mv (.t 1)))⟩, ⟨(some 12), none, (.call (.f 10) [(.t 11)])⟩, ⟨(some 13), none, (.q (.mv (.t 2)))⟩, ⟨(some 14), none, (.call (.f 10) [(.t 13)])⟩, ⟨(some 0), none,
  (.q (.mv (.t 10)))⟩, ⟨(some 1), none, (.q (.mv (.t 12)))⟩, ⟨(some 2), none, (.q (.mv (.t 14)))⟩] [] [0, 1, 2] [1010, 1012, 1014]) (.seq (.seq (.reg [⟨(some 15), none, (.q (.mv (.t 0)))⟩, ⟨(some 16),
  none, (.q (.mv (.t 1)))⟩, ⟨(some 17), none, (.call (.f 11) [(.t 15), (.t 16)])⟩, ⟨(some 18), none, (.q (.not (.t 17)))⟩, ⟨(some 19), none, (.q (.mv (.t 18)))⟩, ⟨(some 20), (some (19, false)),
  (.q (.mv (.t 2)))⟩, ⟨(some 21), (some (19, false)), (.call (.f 12) [(.t 20)])⟩, ⟨(some 22), (some (19, false)), (.q (.not (.t 21)))⟩, ⟨(some 23), none, (.q (.pick (.t 19) (.c (.bool true))
  (.t 22)))⟩] [] [0, 1, 2, 23] [1010, 1012, 1014, 1017, 1021]) (.cond (.t 23) (.seq (.reg [⟨(some 24), none, (.call (.f 13) [])⟩, ⟨(some 6), none, (.q (.mv (.t 24)))⟩] [] [6] [1024, 1054, 1059, 1065,
  1073, 1078]) .ret) .skip)) (.seq (.reg [⟨(some 25), none, (.q (.mv (.t 0)))⟩, ⟨(some 26), none, (.q (.bin .add (.t 25) (.c (.string ⟨#[46, 42, 42]⟩))))⟩, ⟨(some 27), none, (.q (.mv (.t 0)))⟩,
  ⟨(some 28), none, (.q (.bin .add (.c (.string ⟨#[42, 42, 46]⟩)) (.t 27)))⟩, ⟨(some 7), none, (.q (.mv (.t 26)))⟩, ⟨(some 8), none, (.q (.mv (.t 28)))⟩] [] [1, 2, 7, 8] [1010, 1012, 1014])
  (.seq (.seq (.reg [⟨(some 29), none, (.q (.mv (.t 7)))⟩, ⟨(some 30), none, (.call (.f 14) [(.t 29)])⟩, ⟨(some 31), none, (.q (.mv (.t 30)))⟩, ⟨(some 32), (some (31, true)), (.q (.mv (.t 7)))⟩,
  ⟨(some 33), (some (31, true)), (.q (.mv (.t 1)))⟩, ⟨(some 34), (some (31, true)), (.call (.f 11) [(.t 32), (.t 33)])⟩, ⟨(some 35), (some (31, true)), (.q (.not (.t 34)))⟩, ⟨(some 36), (some (31,
  true)), (.q (.mv (.t 35)))⟩, ⟨(some 37), (some (36, false)), (.q (.mv (.t 1)))⟩, ⟨(some 38), (some (36, false)), (.q (.bin .add (.t 37) (.c (.string ⟨#[46]⟩))))⟩, ⟨(some 39), (some (36, false)),
  (.q (.mv (.t 2)))⟩, ⟨(some 40), (some (36, false)), (.q (.bin .add (.t 38) (.t 39)))⟩, ⟨(some 41), (some (36, false)), (.call (.f 12) [(.t 40)])⟩, ⟨(some 42), (some (36, false)),
  (.q (.mv (.t 41)))⟩, ⟨(some 43), (some (42, true)), (.q (.mv (.t 7)))⟩, ⟨(some 44), (some (42, true)), (.q (.mv (.t 1)))⟩, ⟨(some 45), (some (42, true)), (.q (.bin .add (.t 44)
  (.c (.string ⟨#[46]⟩))))⟩, ⟨(some 46), (some (42, true)), (.q (.mv (.t 2)))⟩, ⟨(some 47), (some (42, true)), (.q (.bin .add (.t 45) (.t 46)))⟩, ⟨(some 48), (some (42, true)), (.call (.f 11)
  [(.t 43), (.t 47)])⟩, ⟨(some 49), (some (42, true)), (.q (.not (.t 48)))⟩, ⟨(some 50), (some (36, false)), (.q (.pick (.t 42) (.t 49) (.c (.bool false))))⟩, ⟨(some 51), (some (31, true)),
  (.q (.pick (.t 36) (.c (.bool true)) (.t 50)))⟩, ⟨(some 52), none, (.q (.pick (.t 31) (.t 51) (.c (.bool false))))⟩] [] [1, 2, 8, 52] [1010, 1012, 1014, 1030, 1034, 1041, 1048]) (.cond (.t 52)
  (.seq (.reg [⟨(some 6), none, (.q (.mv (.c (.bool false))))⟩] [] [6] [1024, 1054, 1059, 1065, 1073, 1078]) .ret) .skip)) (.seq (.reg [⟨(some 53), none, (.q (.mv (.t 8)))⟩, ⟨(some 54), none,
  (.call (.f 14) [(.t 53)])⟩, ⟨(some 55), none, (.q (.not (.t 54)))⟩, ⟨(some 56), none, (.q (.mv (.t 55)))⟩, ⟨(some 57), (some (56, false)), (.q (.mv (.t 8)))⟩, ⟨(some 58), (some (56, false)),
  (.q (.mv (.t 1)))⟩, ⟨(some 59), (some (56, false)), (.call (.f 11) [(.t 57), (.t 58)])⟩, ⟨(some 60), (some (56, false)), (.q (.mv (.t 59)))⟩, ⟨(some 61), (some (60, true)), (.q (.mv (.t 2)))⟩,
  ⟨(some 62), (some (60, true)), (.q (.bin .add (.t 61) (.c (.string ⟨#[46]⟩))))⟩, ⟨(some 63), (some (60, true)), (.q (.mv (.t 1)))⟩, ⟨(some 64), (some (60, true)), (.q (.bin .add (.t 62) (.t 63)))⟩,
  ⟨(some 65), (some (60, true)), (.call (.f 12) [(.t 64)])⟩, ⟨(some 66), (some (60, true)), (.q (.not (.t 65)))⟩, ⟨(some 67), (some (60, true)), (.q (.mv (.t 66)))⟩, ⟨(some 68), (some (67, false)),
  (.q (.mv (.t 8)))⟩, ⟨(some 69), (some (67, false)), (.q (.mv (.t 2)))⟩, ⟨(some 70), (some (67, false)), (.q (.bin .add (.t 69) (.c (.string ⟨#[46]⟩))))⟩, ⟨(some 71), (some (67, false)),
  (.q (.mv (.t 1)))⟩, ⟨(some 72), (some (67, false)), (.q (.bin .add (.t 70) (.t 71)))⟩, ⟨(some 73), (some (67, false)), (.call (.f 11) [(.t 68), (.t 72)])⟩, ⟨(some 74), (some (60, true)),
  (.q (.pick (.t 67) (.c (.bool true)) (.t 73)))⟩, ⟨(some 75), (some (56, false)), (.q (.pick (.t 60) (.t 74) (.c (.bool false))))⟩, ⟨(some 76), none, (.q (.pick (.t 56) (.c (.bool true)) (.t 75)))⟩,
  ⟨(some 77), none, (.q (.mv (.t 76)))⟩, ⟨(some 78), (some (77, true)), (.call (.f 13) [])⟩, ⟨(some 79), none, (.q (.pick (.t 77) (.t 78) (.c (.bool false))))⟩, ⟨(some 6), none,
  (.q (.mv (.t 79)))⟩] [] [6] [1024, 1054, 1059, 1065, 1073, 1078]) .ret))))))
theorem mc3 : ofCode Tryd.prog [] Tryd.f3.ntmps [(0, ⟨[0, 1, 2], [1010, 1012, 1014], [], 0, [], none⟩),
    (1, ⟨[0, 1, 2], [1010, 1012, 1014], [], 0, [], none⟩),
    (2, ⟨[0, 1, 2, 23], [1010, 1012, 1014, 1017, 1021], [], 0, [], none⟩),
    (3, ⟨[6], [1024, 1054, 1059, 1065, 1073, 1078], [], 0, [], none⟩),
    (4, ⟨[1, 2, 7, 8], [1010, 1012, 1014], [], 0, [], none⟩),
    (5, ⟨[1, 2, 8, 52], [1010, 1012, 1014, 1030, 1034, 1041, 1048], [], 0, [], none⟩),
    (6, ⟨[6], [1024, 1054, 1059, 1065, 1073, 1078], [], 0, [], none⟩),
    (7, ⟨[6], [1024, 1054, 1059, 1065, 1073, 1078], [], 0, [], none⟩)] (Tryd.f3.body.getD .skip) = some M3 := by kernel_rfl
theorem Run3 {args : List PV} {v : AV} {rs : List (Nat × List PV)} (ids : List Bool) (h : args.length ≤ 80) (hv : run Tryd.prog (retK [RV.tmp 6] ids v rs) M3 [] ⟨entry 0 args, []⟩) : Fn Tryd.prog 3 args v rs :=
  Fn_run ids (by kernel_rfl) Tryd.func3 (by decide) rfl mc3 (by kernel_rfl) (by rw [Tryd.ntmps3]; exact h) (by rw [Tryd.ntmps3]; decide) hv

/-- 'trystlaw02.NameSelf' -/
def M4 : MC := (.seq (.reg [⟨(some 4), none, (.q (.mv (.c (.bool false))))⟩] [] [0, 1] [1006, 1008]) (.seq (.reg [⟨(some 5), none, (.q (.mv (.t 0)))⟩, ⟨(some 6), none, (.call (.f 10) [(.t 5)])⟩,
  ⟨(some 7), none, (.q (.mv (.t 1)))⟩, ⟨(some 8), none, (.call (.f 10) [(.t 7)])⟩, ⟨(some 0), none, (.q (.mv (.t 6)))⟩, ⟨(some 1), none, (.q (.mv (.t 8)))⟩] [] [0, 1] [1006, 1008])
  (.seq (.seq (.reg [⟨(some 9), none, (.q (.mv (.t 0)))⟩, ⟨(some 10), none, (.call (.f 12) [(.t 9)])⟩, ⟨(some 11), none, (.q (.not (.t 10)))⟩, ⟨(some 12), none, (.q (.mv (.t 11)))⟩, ⟨(some 13),
  (some (12, false)), (.q (.mv (.t 1)))⟩, ⟨(some 14), (some (12, false)), (.call (.f 12) [(.t 13)])⟩, ⟨(some 15), (some (12, false)), (.q (.not (.t 14)))⟩, ⟨(some 16), none, (.q (.pick (.t 12)
  (.c (.bool true)) (.t 15)))⟩] [] [0, 1, 16] [1006, 1008, 1010, 1014]) (.cond (.t 16) (.seq (.reg [⟨(some 17), none, (.call (.f 13) [])⟩, ⟨(some 4), none, (.q (.mv (.t 17)))⟩] [] [4] [1006, 1008,
  1017, 1019, 1023, 1031, 1035, 1043]) .ret) .skip)) (.seq (.reg [⟨(some 18), none, (.q (.mv (.t 0)))⟩, ⟨(some 19), none, (.call (.f 14) [(.t 18)])⟩, ⟨(some 20), none, (.q (.mv (.t 19)))⟩, ⟨(some 21),
  (some (20, true)), (.q (.mv (.t 0)))⟩, ⟨(some 22), (some (20, true)), (.q (.mv (.t 1)))⟩, ⟨(some 23), (some (20, true)), (.call (.f 11) [(.t 21), (.t 22)])⟩, ⟨(some 24), (some (20, true)),
  (.q (.mv (.t 0)))⟩, ⟨(some 25), (some (20, true)), (.q (.mv (.t 1)))⟩, ⟨(some 26), (some (20, true)), (.q (.bin .eql (.t 24) (.t 25)))⟩, ⟨(some 27), (some (20, true)), (.q (.beq false (.t 23)
  (.t 26)))⟩, ⟨(some 28), none, (.q (.pick (.t 20) (.t 27) (.c (.bool false))))⟩, ⟨(some 29), none, (.q (.mv (.t 28)))⟩, ⟨(some 30), (some (29, true)), (.q (.mv (.t 0)))⟩, ⟨(some 31), (some (29,
  true)), (.call (.f 11) [(.c (.string ⟨#[42, 42]⟩)), (.t 30)])⟩, ⟨(some 32), none, (.q (.pick (.t 29) (.t 31) (.c (.bool false))))⟩, ⟨(some 33), none, (.q (.mv (.t 32)))⟩, ⟨(some 34), (some (33,
  true)), (.q (.mv (.t 0)))⟩, ⟨(some 35), (some (33, true)), (.call (.f 11) [(.c (.string ⟨#[42]⟩)), (.t 34)])⟩, ⟨(some 36), (some (33, true)), (.q (.mv (.t 0)))⟩, ⟨(some 37), (some (33, true)),
  (.call (.f 15) [(.t 36)])⟩, ⟨(some 38), (some (33, true)), (.q (.len (.t 37) false))⟩, ⟨(some 39), (some (33, true)), (.q (.bin .eql (.t 38) (.c (.int .i64 1))))⟩, ⟨(some 40), (some (33, true)),
  (.q (.beq false (.t 35) (.t 39)))⟩, ⟨(some 41), none, (.q (.pick (.t 33) (.t 40) (.c (.bool false))))⟩, ⟨(some 42), none, (.q (.mv (.t 41)))⟩, ⟨(some 43), (some (42, true)), (.call (.f 13) [])⟩,
  ⟨(some 44), none, (.q (.pick (.t 42) (.t 43) (.c (.bool false))))⟩, ⟨(some 4), none, (.q (.mv (.t 44)))⟩] [] [4] [1006, 1008, 1017, 1019, 1023, 1031, 1035, 1043]) .ret))))
theorem mc4 : ofCode Tryd.prog [] Tryd.f4.ntmps [(0, ⟨[0, 1], [1006, 1008], [], 0, [], none⟩),
    (1, ⟨[0, 1], [1006, 1008], [], 0, [], none⟩),
    (2, ⟨[0, 1, 16], [1006, 1008, 1010, 1014], [], 0, [], none⟩),
    (3, ⟨[4], [1006, 1008, 1017, 1019, 1023, 1031, 1035, 1043], [], 0, [], none⟩),
    (4, ⟨[4], [1006, 1008, 1017, 1019, 1023, 1031, 1035, 1043], [], 0, [], none⟩)] (Tryd.f4.body.getD .skip) = some M4 := by kernel_rfl
theorem Run4 {args : List PV} {v : AV} {rs : List (Nat × List PV)} (ids : List Bool) (h : args.length ≤ 45) (hv : run Tryd.prog (retK [RV.tmp 4] ids v rs) M4 [] ⟨entry 0 args, []⟩) : Fn Tryd.prog 4 args v rs :=
  Fn_run ids (by kernel_rfl) Tryd.func4 (by decide) rfl mc4 (by kernel_rfl) (by rw [Tryd.ntmps4]; exact h) (by rw [Tryd.ntmps4]; decide) hv

/-- 'trystlaw02.NameWider' -/
def B5_0 : MC := (.seq (.seq (.reg [⟨(some 35), none, (.q (.mv (.t 11)))⟩, ⟨(some 36), none, (.q (.mv (.t 7)))⟩, ⟨(some 37), none, (.q (.len (.t 36) false))⟩, ⟨(some 38), none, (.q (.bin .lss (.t 35)
  (.t 37)))⟩] [] [1, 7, 8, 9, 10, 11, 38] [1017, 1019]) (.cond (.t 38) .skip (.exit 0))) (.seq (.block 1 (.seq (.reg [⟨(some 41), none, (.q (.mv (.t 7)))⟩, ⟨(some 42), none, (.q (.mv (.t 11)))⟩,
  ⟨(some 43), none, (.q (.ia (.t 41) (.t 42) 1))⟩, ⟨(some 44), none, (.q (.ld (.t 43) 1 false))⟩, ⟨(some 45), none, (.q (.mv (.t 7)))⟩, ⟨(some 46), none, (.q (.mv (.t 11)))⟩, ⟨(some 47), none,
  (.q (.ia (.t 45) (.t 46) 1))⟩, ⟨(some 48), none, (.q (.ld (.t 47) 1 false))⟩, ⟨(some 12), none, (.q (.mv (.t 44)))⟩, ⟨(some 13), none, (.q (.mv (.t 48)))⟩] [] [1, 7, 8, 9, 10, 11, 12, 13] [1017,
  1019]) (.seq (.seq (.reg [⟨(some 49), none, (.q (.mv (.t 11)))⟩, ⟨(some 50), none, (.q (.mv (.t 8)))⟩, ⟨(some 51), none, (.q (.bin .eql (.t 49) (.t 50)))⟩] [] [1, 7, 8, 9, 10, 11, 12, 13, 51] [1017,
  1019]) (.cond (.t 51) (.seq (.reg [⟨(some 13), none, (.q (.mv (.c (.string ⟨#[42, 42]⟩))))⟩] [] [1, 7, 8, 9, 10, 11, 12, 13] [1017, 1019]) (.seq (.reg [⟨(some 52), none, (.q (.mv (.t 12)))⟩,
  ⟨(some 53), none, (.q (.bin .neq (.t 52) (.c (.string ⟨#[42, 42]⟩))))⟩] [] [1, 7, 8, 9, 10, 11, 12, 13, 53] [1017, 1019]) (.cond (.t 53) (.reg [⟨(some 12), none,
  (.q (.mv (.c (.string ⟨#[42]⟩))))⟩] [] [1, 7, 8, 9, 10, 11, 12, 13] [1017, 1019]) .skip))) .skip)) (.seq (.seq (.reg [⟨(some 54), none, (.q (.mv (.t 11)))⟩, ⟨(some 55), none, (.q (.bin .gtr (.t 54)
  (.c (.int .i64 0))))⟩] [] [1, 7, 8, 9, 10, 11, 12, 13, 55] [1017, 1019]) (.cond (.t 55) (.seq (.reg [⟨(some 56), none, (.q (.mv (.t 9)))⟩, ⟨(some 57), none, (.q (.bin .add (.t 56)
  (.c (.string ⟨#[46]⟩))))⟩, ⟨(some 9), none, (.q (.mv (.t 57)))⟩] [] [1, 7, 8, 9, 10, 11, 12, 13] [1017, 1019]) (.reg [⟨(some 58), none, (.q (.mv (.t 10)))⟩, ⟨(some 59), none, (.q (.bin .add (.t 58)
  (.c (.string ⟨#[46]⟩))))⟩, ⟨(some 10), none, (.q (.mv (.t 59)))⟩] [] [1, 7, 8, 9, 10, 11, 12, 13] [1017, 1019])) .skip)) (.seq (.reg [⟨(some 60), none, (.q (.mv (.t 9)))⟩, ⟨(some 61), none,
  (.q (.mv (.t 12)))⟩, ⟨(some 62), none, (.q (.bin .add (.t 60) (.t 61)))⟩, ⟨(some 9), none, (.q (.mv (.t 62)))⟩] [] [1, 7, 8, 9, 10, 11, 13] [1017, 1019]) (.reg [⟨(some 63), none,
  (.q (.mv (.t 10)))⟩, ⟨(some 64), none, (.q (.mv (.t 13)))⟩, ⟨(some 65), none, (.q (.bin .add (.t 63) (.t 64)))⟩, ⟨(some 10), none, (.q (.mv (.t 65)))⟩] [] [1, 7, 8, 9, 10, 11] [1017, 1019]))))))
  (.reg [⟨(some 39), none, (.q (.mv (.t 11)))⟩, ⟨(some 40), none, (.q (.bin .add (.t 39) (.c (.int .i64 1))))⟩, ⟨(some 11), none, (.q (.mv (.t 40)))⟩] [] [1, 7, 8, 9, 10, 11] [1017, 1019])))
def R5_0 : MC := (.seq (.reg [⟨(some 66), none, (.q (.mv (.t 9)))⟩, ⟨(some 67), none, (.call (.f 14) [(.t 66)])⟩, ⟨(some 68), none, (.q (.not (.t 67)))⟩, ⟨(some 69), none, (.q (.mv (.t 68)))⟩,
  ⟨(some 70), (some (69, false)), (.q (.mv (.t 9)))⟩, ⟨(some 71), (some (69, false)), (.q (.mv (.t 1)))⟩, ⟨(some 72), (some (69, false)), (.call (.f 11) [(.t 70), (.t 71)])⟩, ⟨(some 73), none,
  (.q (.pick (.t 69) (.c (.bool true)) (.t 72)))⟩, ⟨(some 74), none, (.q (.mv (.t 73)))⟩, ⟨(some 75), (some (74, true)), (.q (.mv (.t 10)))⟩, ⟨(some 76), (some (74, true)), (.call (.f 14) [(.t 75)])⟩,
  ⟨(some 77), (some (74, true)), (.q (.not (.t 76)))⟩, ⟨(some 78), (some (74, true)), (.q (.mv (.t 77)))⟩, ⟨(some 79), (some (78, false)), (.q (.mv (.t 10)))⟩, ⟨(some 80), (some (78, false)),
  (.q (.mv (.t 1)))⟩, ⟨(some 81), (some (78, false)), (.call (.f 11) [(.t 79), (.t 80)])⟩, ⟨(some 82), (some (74, true)), (.q (.pick (.t 78) (.c (.bool true)) (.t 81)))⟩, ⟨(some 83), none,
  (.q (.pick (.t 74) (.t 82) (.c (.bool false))))⟩, ⟨(some 84), none, (.q (.mv (.t 83)))⟩, ⟨(some 85), (some (84, true)), (.call (.f 13) [])⟩, ⟨(some 86), none, (.q (.pick (.t 84) (.t 85)
  (.c (.bool false))))⟩, ⟨(some 6), none, (.q (.mv (.t 86)))⟩] [] [6] [1029, 1067, 1072, 1076, 1081, 1085]) .ret)
def M5 : MC := (.seq (.reg [⟨(some 6), none, (.q (.mv (.c (.bool false))))⟩] [] [0, 1, 2] [1015, 1017]) (.seq (.reg [⟨(some 14), none, (.q (.mv (.t 0)))⟩, ⟨(some 15), none, (.call (.f 10) [(.t 14)])⟩,
  ⟨(some 16), none, (.q (.mv (.t 1)))⟩, ⟨(some 17), none, (.call (.f 10) [(.t 16)])⟩, ⟨(some 0), none, (.q (.mv (.t 15)))⟩, ⟨(some 1), none, (.q (.mv (.t 17)))⟩] [] [0, 1, 2] [1015, 1017])
  (.seq (.reg [⟨(some 18), none, (.q (.mv (.t 0)))⟩, ⟨(some 19), none, (.call (.f 15) [(.t 18)])⟩, ⟨(some 7), none, (.q (.mv (.t 19)))⟩] [] [0, 1, 2, 7] [1015, 1017, 1019])
  (.seq (.seq (.reg [⟨(some 20), none, (.q (.mv (.t 0)))⟩, ⟨(some 21), none, (.q (.mv (.t 1)))⟩, ⟨(some 22), none, (.call (.f 11) [(.t 20), (.t 21)])⟩, ⟨(some 23), none, (.q (.not (.t 22)))⟩,
  ⟨(some 24), none, (.q (.mv (.t 23)))⟩, ⟨(some 25), (some (24, false)), (.q (.mv (.t 7)))⟩, ⟨(some 26), (some (24, false)), (.q (.len (.t 25) false))⟩, ⟨(some 27), (some (24, false)),
  (.q (.bin .eql (.t 26) (.c (.int .i64 0))))⟩, ⟨(some 28), none, (.q (.pick (.t 24) (.c (.bool true)) (.t 27)))⟩] [] [1, 2, 7, 28] [1017, 1019, 1022]) (.cond (.t 28) (.seq (.reg [⟨(some 29), none,
  (.call (.f 13) [])⟩, ⟨(some 6), none, (.q (.mv (.t 29)))⟩] [] [6] [1029, 1067, 1072, 1076, 1081, 1085]) .ret) .skip)) (.seq (.reg [⟨(some 30), none, (.q (.mv (.t 2)))⟩, ⟨(some 31), none,
  (.q (.conv .i64 (.t 30)))⟩, ⟨(some 32), none, (.q (.mv (.t 7)))⟩, ⟨(some 33), none, (.q (.len (.t 32) false))⟩, ⟨(some 34), none, (.q (.bin .rem (.t 31) (.t 33)))⟩, ⟨(some 8), none,
  (.q (.mv (.t 34)))⟩] [] [1, 7, 8] [1017, 1019]) (.seq (.reg [⟨(some 9), none, (.q (.mv (.c (.string ⟨#[]⟩))))⟩, ⟨(some 10), none, (.q (.mv (.c (.string ⟨#[]⟩))))⟩] [] [1, 7, 8, 9, 10] [1017, 1019])
  (.seq (.seq (.reg [⟨(some 11), none, (.q (.mv (.c (.int .i64 0))))⟩] [] [1, 7, 8, 9, 10, 11] [1017, 1019]) (.block 0 (.loop B5_0))) R5_0)))))))
theorem mc5 : ofCode Tryd.prog [] Tryd.f5.ntmps [(0, ⟨[0, 1, 2], [1015, 1017], [], 0, [], none⟩),
    (1, ⟨[0, 1, 2], [1015, 1017], [], 0, [], none⟩),
    (2, ⟨[0, 1, 2, 7], [1015, 1017, 1019], [], 0, [], none⟩),
    (3, ⟨[1, 2, 7, 28], [1017, 1019, 1022], [], 0, [], none⟩),
    (4, ⟨[6], [1029, 1067, 1072, 1076, 1081, 1085], [], 0, [], none⟩),
    (5, ⟨[1, 7, 8], [1017, 1019], [], 0, [], none⟩),
    (6, ⟨[1, 7, 8, 9, 10], [1017, 1019], [], 0, [], none⟩),
    (7, ⟨[1, 7, 8, 9, 10, 11], [1017, 1019], [], 0, [], none⟩),
    (8, ⟨[1, 7, 8, 9, 10, 11, 38], [1017, 1019], [], 0, [], none⟩),
    (9, ⟨[1, 7, 8, 9, 10, 11], [1017, 1019], [], 0, [], none⟩),
    (10, ⟨[1, 7, 8, 9, 10, 11, 12, 13], [1017, 1019], [(0, 781), (1, 782), (2, 780), (3, 776), (4, 720), (5, 736), (6, 704), (7, 640), (8, 768), (9, 512)], 1023, [], none⟩),
    (11, ⟨[1, 7, 8, 9, 10, 11, 12, 13, 51], [1017, 1019], [], 0, [], none⟩),
    (12, ⟨[1, 7, 8, 9, 10, 11, 12, 13], [1017, 1019], [], 0, [], none⟩),
    (13, ⟨[1, 7, 8, 9, 10, 11, 12, 13, 53], [1017, 1019], [], 0, [], none⟩),
    (14, ⟨[1, 7, 8, 9, 10, 11, 12, 13], [1017, 1019], [], 0, [], none⟩),
    (15, ⟨[1, 7, 8, 9, 10, 11, 12, 13, 55], [1017, 1019], [], 0, [], none⟩),
    (16, ⟨[1, 7, 8, 9, 10, 11, 12, 13], [1017, 1019], [], 0, [], none⟩),
    (17, ⟨[1, 7, 8, 9, 10, 11, 12, 13], [1017, 1019], [], 0, [], none⟩),
    (18, ⟨[1, 7, 8, 9, 10, 11, 13], [1017, 1019], [], 0, [], none⟩),
    (19, ⟨[1, 7, 8, 9, 10, 11], [1017, 1019], [], 0, [], none⟩),
    (20, ⟨[6], [1029, 1067, 1072, 1076, 1081, 1085], [], 0, [], none⟩)] (Tryd.f5.body.getD .skip) = some M5 := by kernel_rfl
theorem Run5 {args : List PV} {v : AV} {rs : List (Nat × List PV)} (ids : List Bool) (h : args.length ≤ 87) (hv : run Tryd.prog (retK [RV.tmp 6] ids v rs) M5 [] ⟨entry 0 args, []⟩) : Fn Tryd.prog 5 args v rs :=
  Fn_run ids (by kernel_rfl) Tryd.func5 (by decide) rfl mc5 (by kernel_rfl) (by rw [Tryd.ntmps5]; exact h) (by rw [Tryd.ntmps5]; decide) hv

/-- 'trystlaw02.NameParts' -/
def B6_0 : MC := (.seq (.seq (.reg [⟨(some 19), none, (.q (.mv (.t 5)))⟩, ⟨(some 20), none, (.q (.mv (.t 3)))⟩, ⟨(some 21), none, (.q (.len (.t 20) false))⟩, ⟨(some 22), none, (.q (.bin .lss (.t 19)
  (.t 21)))⟩] [] [0, 3, 4, 5, 22] [1007, 1009]) (.cond (.t 22) .skip (.exit 0))) (.seq (.block 1 (.seq (.seq (.reg [⟨(some 25), none, (.q (.mv (.t 5)))⟩, ⟨(some 26), none, (.q (.bin .gtr (.t 25)
  (.c (.int .i64 0))))⟩] [] [0, 3, 4, 5, 26] [1007, 1009]) (.cond (.t 26) (.reg [⟨(some 27), none, (.q (.mv (.t 4)))⟩, ⟨(some 28), none, (.q (.bin .add (.t 27) (.c (.string ⟨#[46]⟩))))⟩, ⟨(some 4),
  none, (.q (.mv (.t 28)))⟩] [] [0, 3, 4, 5] [1007, 1009]) .skip)) (.seq (.reg [⟨(some 29), none, (.q (.mv (.t 4)))⟩, ⟨(some 30), none, (.q (.mv (.t 3)))⟩, ⟨(some 31), none, (.q (.mv (.t 5)))⟩,
  ⟨(some 32), none, (.q (.ia (.t 30) (.t 31) 1))⟩, ⟨(some 33), none, (.q (.ld (.t 32) 1 false))⟩, ⟨(some 34), none, (.q (.bin .add (.t 29) (.t 33)))⟩, ⟨(some 4), none, (.q (.mv (.t 34)))⟩] [] [0, 3,
  4, 5] [1007, 1009]) (.seq (.reg [⟨(some 35), none, (.q (.mv (.t 3)))⟩, ⟨(some 36), none, (.q (.mv (.t 5)))⟩, ⟨(some 37), none, (.q (.ia (.t 35) (.t 36) 1))⟩, ⟨(some 38), none, (.q (.ld (.t 37)
  1 false))⟩, ⟨(some 39), none, (.call (.f 14) [(.t 38)])⟩, ⟨(some 40), none, (.q (.not (.t 39)))⟩, ⟨(some 41), none, (.q (.mv (.t 40)))⟩, ⟨(some 42), (some (41, false)), (.q (.mv (.t 3)))⟩,
  ⟨(some 43), (some (41, false)), (.q (.mv (.t 5)))⟩, ⟨(some 44), (some (41, false)), (.q (.ia (.t 42) (.t 43) 1))⟩, ⟨(some 45), (some (41, false)), (.q (.ld (.t 44) 1 false))⟩, ⟨(some 46), (some (41,
  false)), (.call (.f 15) [(.t 45)])⟩, ⟨(some 47), (some (41, false)), (.q (.len (.t 46) false))⟩, ⟨(some 48), (some (41, false)), (.q (.bin .neq (.t 47) (.c (.int .i64 1))))⟩, ⟨(some 49), none,
  (.q (.pick (.t 41) (.c (.bool true)) (.t 48)))⟩] [] [0, 3, 4, 5, 49] [1007, 1009, 1039]) (.cond (.t 49) (.seq (.reg [⟨(some 2), none, (.q (.mv (.c (.bool false))))⟩] [] [2] [1007, 1017, 1054]) .ret)
  .skip))))) (.reg [⟨(some 23), none, (.q (.mv (.t 5)))⟩, ⟨(some 24), none, (.q (.bin .add (.t 23) (.c (.int .i64 1))))⟩, ⟨(some 5), none, (.q (.mv (.t 24)))⟩] [] [0, 3, 4, 5] [1007, 1009])))
def R6_0 : MC := (.seq (.reg [⟨(some 50), none, (.q (.mv (.t 4)))⟩, ⟨(some 51), none, (.q (.mv (.t 0)))⟩, ⟨(some 52), none, (.q (.bin .eql (.t 50) (.t 51)))⟩, ⟨(some 53), none, (.q (.mv (.t 52)))⟩,
  ⟨(some 54), (some (53, true)), (.call (.f 13) [])⟩, ⟨(some 55), none, (.q (.pick (.t 53) (.t 54) (.c (.bool false))))⟩, ⟨(some 2), none, (.q (.mv (.t 55)))⟩] [] [2] [1007, 1017, 1054]) .ret)
def M6 : MC := (.seq (.reg [⟨(some 2), none, (.q (.mv (.c (.bool false))))⟩] [] [0] [1007]) (.seq (.reg [⟨(some 6), none, (.q (.mv (.t 0)))⟩, ⟨(some 7), none, (.call (.f 10) [(.t 6)])⟩, ⟨(some 0),
  none, (.q (.mv (.t 7)))⟩] [] [0] [1007]) (.seq (.reg [⟨(some 8), none, (.q (.mv (.t 0)))⟩, ⟨(some 9), none, (.call (.f 15) [(.t 8)])⟩, ⟨(some 3), none, (.q (.mv (.t 9)))⟩] [] [0, 3] [1007, 1009])
  (.seq (.seq (.reg [⟨(some 10), none, (.q (.mv (.t 0)))⟩, ⟨(some 11), none, (.call (.f 14) [(.t 10)])⟩, ⟨(some 12), none, (.q (.not (.t 11)))⟩] [] [0, 3, 12] [1007, 1009, 1011]) (.cond (.t 12)
  (.seq (.reg [⟨(some 13), none, (.q (.mv (.t 3)))⟩, ⟨(some 14), none, (.q (.len (.t 13) false))⟩, ⟨(some 15), none, (.q (.bin .eql (.t 14) (.c (.int .i64 0))))⟩, ⟨(some 16), none,
  (.q (.mv (.t 15)))⟩, ⟨(some 17), (some (16, true)), (.call (.f 13) [])⟩, ⟨(some 18), none, (.q (.pick (.t 16) (.t 17) (.c (.bool false))))⟩, ⟨(some 2), none, (.q (.mv (.t 18)))⟩] [] [2] [1007, 1017,
  1054]) .ret) .skip)) (.seq (.reg [⟨(some 4), none, (.q (.mv (.c (.string ⟨#[]⟩))))⟩] [] [0, 3, 4] [1007, 1009]) (.seq (.seq (.reg [⟨(some 5), none, (.q (.mv (.c (.int .i64 0))))⟩] [] [0, 3, 4,
  5] [1007, 1009]) (.block 0 (.loop B6_0))) R6_0))))))
theorem mc6 : ofCode Tryd.prog [] Tryd.f6.ntmps [(0, ⟨[0], [1007], [], 0, [], none⟩),
    (1, ⟨[0], [1007], [], 0, [], none⟩),
    (2, ⟨[0, 3], [1007, 1009], [], 0, [], none⟩),
    (3, ⟨[0, 3, 12], [1007, 1009, 1011], [], 0, [], none⟩),
    (4, ⟨[2], [1007, 1017, 1054], [], 0, [], none⟩),
    (5, ⟨[0, 3, 4], [1007, 1009], [], 0, [], none⟩),
    (6, ⟨[0, 3, 4, 5], [1007, 1009], [], 0, [], none⟩),
    (7, ⟨[0, 3, 4, 5, 22], [1007, 1009], [], 0, [], none⟩),
    (8, ⟨[0, 3, 4, 5], [1007, 1009], [], 0, [], none⟩),
    (9, ⟨[0, 3, 4, 5, 26], [1007, 1009], [], 0, [], none⟩),
    (10, ⟨[0, 3, 4, 5], [1007, 1009], [], 0, [], none⟩),
    (11, ⟨[0, 3, 4, 5], [1007, 1009], [], 0, [], none⟩),
    (12, ⟨[0, 3, 4, 5, 49], [1007, 1009, 1039], [], 0, [], none⟩),
    (13, ⟨[2], [1007, 1017, 1054], [], 0, [], none⟩),
    (14, ⟨[2], [1007, 1017, 1054], [], 0, [], none⟩)] (Tryd.f6.body.getD .skip) = some M6 := by kernel_rfl
theorem Run6 {args : List PV} {v : AV} {rs : List (Nat × List PV)} (ids : List Bool) (h : args.length ≤ 56) (hv : run Tryd.prog (retK [RV.tmp 2] ids v rs) M6 [] ⟨entry 0 args, []⟩) : Fn Tryd.prog 6 args v rs :=
  Fn_run ids (by kernel_rfl) Tryd.func6 (by decide) rfl mc6 (by kernel_rfl) (by rw [Tryd.ntmps6]; exact h) (by rw [Tryd.ntmps6]; decide) hv

/-- 'trystlaw02.NameLong' -/
def B7_0 : MC := (.seq (.seq (.reg [⟨(some 16), none, (.q (.mv (.t 8)))⟩, ⟨(some 17), none, (.q (.mv (.t 5)))⟩, ⟨(some 18), none, (.q (.len (.t 17) false))⟩, ⟨(some 19), none, (.q (.bin .lss (.t 16)
  (.t 18)))⟩] [] [0, 1, 5, 6, 7, 8, 19] [1011, 1013, 1015]) (.cond (.t 19) .skip (.exit 0))) (.seq (.block 1 (.seq (.reg [⟨(some 22), none, (.q (.mv (.t 5)))⟩, ⟨(some 23), none, (.q (.mv (.t 8)))⟩,
  ⟨(some 24), none, (.q (.ia (.t 22) (.t 23) 1))⟩, ⟨(some 25), none, (.q (.ld (.t 24) 1 false))⟩, ⟨(some 26), none, (.q (.bin .eql (.t 25) (.c (.string ⟨#[42, 42]⟩))))⟩] [] [0, 1, 5, 6, 7, 8,
  26] [1011, 1013, 1015]) (.cond (.t 26) (.reg [⟨(some 7), none, (.q (.mv (.c (.bool true))))⟩] [] [0, 1, 5, 6, 7, 8] [1011, 1013, 1015]) (.reg [⟨(some 27), none, (.q (.mv (.t 6)))⟩, ⟨(some 28), none,
  (.q (.bin .add (.t 27) (.c (.int .i64 1))))⟩, ⟨(some 6), none, (.q (.mv (.t 28)))⟩] [] [0, 1, 5, 6, 7, 8] [1011, 1013, 1015])))) (.reg [⟨(some 20), none, (.q (.mv (.t 8)))⟩, ⟨(some 21), none,
  (.q (.bin .add (.t 20) (.c (.int .i64 1))))⟩, ⟨(some 8), none, (.q (.mv (.t 21)))⟩] [] [0, 1, 5, 6, 7, 8] [1011, 1013, 1015])))
def R7_0 : MC := (.seq (.reg [⟨(some 29), none, (.q (.mv (.t 1)))⟩, ⟨(some 30), none, (.call (.f 15) [(.t 29)])⟩, ⟨(some 31), none, (.q (.len (.t 30) false))⟩, ⟨(some 9), none,
  (.q (.mv (.t 31)))⟩] [] [0, 1, 6, 7, 9] [1011, 1013]) (.seq (.reg [⟨(some 32), none, (.q (.mv (.t 0)))⟩, ⟨(some 33), none, (.q (.mv (.t 1)))⟩, ⟨(some 34), none, (.call (.f 11) [(.t 32), (.t 33)])⟩,
  ⟨(some 35), none, (.q (.not (.t 34)))⟩, ⟨(some 36), none, (.q (.mv (.t 35)))⟩, ⟨(some 37), (some (36, false)), (.q (.mv (.t 9)))⟩, ⟨(some 38), (some (36, false)), (.q (.mv (.t 6)))⟩, ⟨(some 39),
  (some (36, false)), (.q (.bin .geq (.t 37) (.t 38)))⟩, ⟨(some 40), (some (36, false)), (.q (.mv (.t 39)))⟩, ⟨(some 41), (some (40, true)), (.q (.mv (.t 7)))⟩, ⟨(some 42), (some (40, true)),
  (.q (.mv (.t 41)))⟩, ⟨(some 43), (some (42, false)), (.q (.mv (.t 9)))⟩, ⟨(some 44), (some (42, false)), (.q (.mv (.t 6)))⟩, ⟨(some 45), (some (42, false)), (.q (.bin .eql (.t 43) (.t 44)))⟩,
  ⟨(some 46), (some (40, true)), (.q (.pick (.t 42) (.c (.bool true)) (.t 45)))⟩, ⟨(some 47), (some (36, false)), (.q (.pick (.t 40) (.t 46) (.c (.bool false))))⟩, ⟨(some 48), none, (.q (.pick (.t 36)
  (.c (.bool true)) (.t 47)))⟩, ⟨(some 49), none, (.q (.mv (.t 48)))⟩, ⟨(some 50), (some (49, true)), (.call (.f 13) [])⟩, ⟨(some 51), none, (.q (.pick (.t 49) (.t 50) (.c (.bool false))))⟩,
  ⟨(some 4), none, (.q (.mv (.t 51)))⟩] [] [4] [1034, 1050]) .ret))
def M7 : MC := (.seq (.reg [⟨(some 4), none, (.q (.mv (.c (.bool false))))⟩] [] [0, 1] [1011, 1013]) (.seq (.reg [⟨(some 10), none, (.q (.mv (.t 0)))⟩, ⟨(some 11), none, (.call (.f 10) [(.t 10)])⟩,
  ⟨(some 12), none, (.q (.mv (.t 1)))⟩, ⟨(some 13), none, (.call (.f 10) [(.t 12)])⟩, ⟨(some 0), none, (.q (.mv (.t 11)))⟩, ⟨(some 1), none, (.q (.mv (.t 13)))⟩] [] [0, 1] [1011, 1013])
  (.seq (.reg [⟨(some 14), none, (.q (.mv (.t 0)))⟩, ⟨(some 15), none, (.call (.f 15) [(.t 14)])⟩, ⟨(some 5), none, (.q (.mv (.t 15)))⟩] [] [0, 1, 5] [1011, 1013, 1015]) (.seq (.reg [⟨(some 6), none,
  (.q (.mv (.c (.int .i64 0))))⟩, ⟨(some 7), none, (.q (.mv (.c (.bool false))))⟩] [] [0, 1, 5, 6, 7] [1011, 1013, 1015]) (.seq (.seq (.reg [⟨(some 8), none, (.q (.mv (.c (.int .i64 0))))⟩] [] [0, 1,
  5, 6, 7, 8] [1011, 1013, 1015]) (.block 0 (.loop B7_0))) R7_0)))))
theorem mc7 : ofCode Tryd.prog [] Tryd.f7.ntmps [(0, ⟨[0, 1], [1011, 1013], [], 0, [], none⟩),
    (1, ⟨[0, 1], [1011, 1013], [], 0, [], none⟩),
    (2, ⟨[0, 1, 5], [1011, 1013, 1015], [], 0, [], none⟩),
    (3, ⟨[0, 1, 5, 6, 7], [1011, 1013, 1015], [], 0, [], none⟩),
    (4, ⟨[0, 1, 5, 6, 7, 8], [1011, 1013, 1015], [], 0, [], none⟩),
    (5, ⟨[0, 1, 5, 6, 7, 8, 19], [1011, 1013, 1015], [], 0, [], none⟩),
    (6, ⟨[0, 1, 5, 6, 7, 8], [1011, 1013, 1015], [], 0, [], none⟩),
    (7, ⟨[0, 1, 5, 6, 7, 8, 26], [1011, 1013, 1015], [], 0, [], none⟩),
    (8, ⟨[0, 1, 5, 6, 7, 8], [1011, 1013, 1015], [], 0, [], none⟩),
    (9, ⟨[0, 1, 5, 6, 7, 8], [1011, 1013, 1015], [], 0, [], none⟩),
    (10, ⟨[0, 1, 6, 7, 9], [1011, 1013], [], 0, [], none⟩),
    (11, ⟨[4], [1034, 1050], [], 0, [], none⟩)] (Tryd.f7.body.getD .skip) = some M7 := by kernel_rfl
theorem Run7 {args : List PV} {v : AV} {rs : List (Nat × List PV)} (ids : List Bool) (h : args.length ≤ 52) (hv : run Tryd.prog (retK [RV.tmp 4] ids v rs) M7 [] ⟨entry 0 args, []⟩) : Fn Tryd.prog 7 args v rs :=
  Fn_run ids (by kernel_rfl) Tryd.func7 (by decide) rfl mc7 (by kernel_rfl) (by rw [Tryd.ntmps7]; exact h) (by rw [Tryd.ntmps7]; decide) hv

/-- 'trystlaw02.NameMeets' -/
def M8 : MC := (.seq (.reg [⟨(some 4), none, (.q (.mv (.c (.bool false))))⟩] [] [0, 1] [1006, 1008]) (.seq (.reg [⟨(some 5), none, (.q (.mv (.t 0)))⟩, ⟨(some 6), none, (.call (.f 10) [(.t 5)])⟩,
  ⟨(some 7), none, (.q (.mv (.t 1)))⟩, ⟨(some 8), none, (.call (.f 10) [(.t 7)])⟩, ⟨(some 0), none, (.q (.mv (.t 6)))⟩, ⟨(some 1), none, (.q (.mv (.t 8)))⟩] [] [0, 1] [1006, 1008])
  (.seq (.seq (.reg [⟨(some 9), none, (.q (.mv (.t 1)))⟩, ⟨(some 10), none, (.call (.f 12) [(.t 9)])⟩, ⟨(some 11), none, (.q (.mv (.t 1)))⟩, ⟨(some 12), none, (.call (.f 16) [(.t 11)])⟩, ⟨(some 13),
  none, (.q (.beq true (.t 10) (.t 12)))⟩, ⟨(some 14), none, (.q (.mv (.t 13)))⟩, ⟨(some 15), (some (14, false)), (.q (.mv (.t 0)))⟩, ⟨(some 16), (some (14, false)), (.call (.f 14) [(.t 15)])⟩,
  ⟨(some 17), (some (14, false)), (.q (.mv (.t 0)))⟩, ⟨(some 18), (some (14, false)), (.call (.f 17) [(.t 17)])⟩, ⟨(some 19), (some (14, false)), (.q (.beq true (.t 16) (.t 18)))⟩, ⟨(some 20), none,
  (.q (.pick (.t 14) (.c (.bool true)) (.t 19)))⟩, ⟨(some 21), none, (.q (.mv (.t 20)))⟩, ⟨(some 22), (some (21, false)), (.q (.mv (.t 0)))⟩, ⟨(some 23), (some (21, false)), (.call (.f 12)
  [(.t 22)])⟩, ⟨(some 24), (some (21, false)), (.q (.mv (.t 0)))⟩, ⟨(some 25), (some (21, false)), (.call (.f 16) [(.t 24)])⟩, ⟨(some 26), (some (21, false)), (.q (.beq true (.t 23) (.t 25)))⟩,
  ⟨(some 27), none, (.q (.pick (.t 21) (.c (.bool true)) (.t 26)))⟩] [] [0, 1, 27] [1006, 1008, 1010, 1012, 1016, 1018, 1023, 1025]) (.cond (.t 27) (.seq (.reg [⟨(some 4), none,
  (.q (.mv (.c (.bool false))))⟩] [] [4] [1032, 1036, 1039, 1045, 1048, 1052]) .ret) .skip)) (.seq (.reg [⟨(some 28), none, (.q (.mv (.t 0)))⟩, ⟨(some 29), none, (.call (.f 15) [(.t 28)])⟩,
  ⟨(some 30), none, (.q (.mv (.t 0)))⟩, ⟨(some 31), none, (.call (.f 19) [(.t 30)])⟩, ⟨(some 32), none, (.call (.f 18) [(.t 29), (.t 31)])⟩, ⟨(some 33), none, (.q (.mv (.t 32)))⟩, ⟨(some 34),
  (some (33, true)), (.q (.mv (.t 0)))⟩, ⟨(some 35), (some (33, true)), (.q (.mv (.t 1)))⟩, ⟨(some 36), (some (33, true)), (.call (.f 11) [(.t 34), (.t 35)])⟩, ⟨(some 37), (some (33, true)),
  (.q (.mv (.t 0)))⟩, ⟨(some 38), (some (33, true)), (.q (.mv (.t 1)))⟩, ⟨(some 39), (some (33, true)), (.call (.f 20) [(.t 37), (.t 38)])⟩, ⟨(some 40), (some (33, true)), (.q (.beq false (.t 36)
  (.t 39)))⟩, ⟨(some 41), none, (.q (.pick (.t 33) (.t 40) (.c (.bool false))))⟩, ⟨(some 42), none, (.q (.mv (.t 41)))⟩, ⟨(some 43), (some (42, true)), (.q (.mv (.t 0)))⟩, ⟨(some 44), (some (42,
  true)), (.q (.mv (.t 1)))⟩, ⟨(some 45), (some (42, true)), (.call (.f 21) [(.t 43), (.t 44)])⟩, ⟨(some 46), (some (42, true)), (.q (.mv (.t 0)))⟩, ⟨(some 47), (some (42, true)), (.q (.mv (.t 1)))⟩,
  ⟨(some 48), (some (42, true)), (.call (.f 22) [(.t 46), (.t 47)])⟩, ⟨(some 49), (some (42, true)), (.q (.bin .eql (.t 45) (.t 48)))⟩, ⟨(some 50), none, (.q (.pick (.t 42) (.t 49)
  (.c (.bool false))))⟩, ⟨(some 51), none, (.q (.mv (.t 50)))⟩, ⟨(some 52), (some (51, true)), (.call (.f 13) [])⟩, ⟨(some 53), none, (.q (.pick (.t 51) (.t 52) (.c (.bool false))))⟩, ⟨(some 4), none,
  (.q (.mv (.t 53)))⟩] [] [4] [1032, 1036, 1039, 1045, 1048, 1052]) .ret))))
theorem mc8 : ofCode Tryd.prog [] Tryd.f8.ntmps [(0, ⟨[0, 1], [1006, 1008], [], 0, [], none⟩),
    (1, ⟨[0, 1], [1006, 1008], [], 0, [], none⟩),
    (2, ⟨[0, 1, 27], [1006, 1008, 1010, 1012, 1016, 1018, 1023, 1025], [], 0, [], none⟩),
    (3, ⟨[4], [1032, 1036, 1039, 1045, 1048, 1052], [], 0, [], none⟩),
    (4, ⟨[4], [1032, 1036, 1039, 1045, 1048, 1052], [], 0, [], none⟩)] (Tryd.f8.body.getD .skip) = some M8 := by kernel_rfl
theorem Run8 {args : List PV} {v : AV} {rs : List (Nat × List PV)} (ids : List Bool) (h : args.length ≤ 54) (hv : run Tryd.prog (retK [RV.tmp 4] ids v rs) M8 [] ⟨entry 0 args, []⟩) : Fn Tryd.prog 8 args v rs :=
  Fn_run ids (by kernel_rfl) Tryd.func8 (by decide) rfl mc8 (by kernel_rfl) (by rw [Tryd.ntmps8]; exact h) (by rw [Tryd.ntmps8]; decide) hv

/-- 'trystlaw02.NameOrders' -/
def M9 : MC := (.seq (.reg [⟨(some 6), none, (.q (.mv (.c (.bool false))))⟩] [] [0, 1, 2] [1011, 1013, 1015]) (.seq (.reg [⟨(some 10), none, (.q (.mv (.t 0)))⟩, ⟨(some 11), none, (.call (.f 10)
  [(.t 10)])⟩, ⟨(some 12), none, (.q (.mv (.t 1)))⟩, ⟨(some 13), none, (.call (.f 10) [(.t 12)])⟩, ⟨(some 14), none, (.q (.mv (.t 2)))⟩, ⟨(some 15), none, (.call (.f 10) [(.t 14)])⟩, ⟨(some 0), none,
  (.q (.mv (.t 11)))⟩, ⟨(some 1), none, (.q (.mv (.t 13)))⟩, ⟨(some 2), none, (.q (.mv (.t 15)))⟩] [] [0, 1, 2] [1011, 1013, 1015]) (.seq (.reg [⟨(some 16), none, (.q (.mv (.t 0)))⟩, ⟨(some 17), none,
  (.q (.mv (.t 1)))⟩, ⟨(some 18), none, (.call (.f 21) [(.t 16), (.t 17)])⟩, ⟨(some 19), none, (.q (.mv (.t 1)))⟩, ⟨(some 20), none, (.q (.mv (.t 2)))⟩, ⟨(some 21), none, (.call (.f 21) [(.t 19),
  (.t 20)])⟩, ⟨(some 22), none, (.q (.mv (.t 0)))⟩, ⟨(some 23), none, (.q (.mv (.t 2)))⟩, ⟨(some 24), none, (.call (.f 21) [(.t 22), (.t 23)])⟩, ⟨(some 7), none, (.q (.mv (.t 18)))⟩, ⟨(some 8), none,
  (.q (.mv (.t 21)))⟩, ⟨(some 9), none, (.q (.mv (.t 24)))⟩] [] [0, 1, 7, 8, 9] [1011, 1013, 1018, 1021, 1024]) (.seq (.seq (.reg [⟨(some 25), none, (.q (.mv (.t 7)))⟩, ⟨(some 26), none,
  (.q (.mv (.t 1)))⟩, ⟨(some 27), none, (.q (.mv (.t 0)))⟩, ⟨(some 28), none, (.call (.f 21) [(.t 26), (.t 27)])⟩, ⟨(some 29), none, (.q (.bin .sub (.c (.int .i64 0)) (.t 28)))⟩, ⟨(some 30), none,
  (.q (.bin .neq (.t 25) (.t 29)))⟩, ⟨(some 31), none, (.q (.mv (.t 30)))⟩, ⟨(some 32), (some (31, false)), (.q (.mv (.t 7)))⟩, ⟨(some 33), (some (31, false)), (.q (.bin .leq (.t 32)
  (.c (.int .i64 0))))⟩, ⟨(some 34), (some (31, false)), (.q (.mv (.t 33)))⟩, ⟨(some 35), (some (34, true)), (.q (.mv (.t 8)))⟩, ⟨(some 36), (some (34, true)), (.q (.bin .leq (.t 35)
  (.c (.int .i64 0))))⟩, ⟨(some 37), (some (31, false)), (.q (.pick (.t 34) (.t 36) (.c (.bool false))))⟩, ⟨(some 38), (some (31, false)), (.q (.mv (.t 37)))⟩, ⟨(some 39), (some (38, true)),
  (.q (.mv (.t 9)))⟩, ⟨(some 40), (some (38, true)), (.q (.bin .gtr (.t 39) (.c (.int .i64 0))))⟩, ⟨(some 41), (some (31, false)), (.q (.pick (.t 38) (.t 40) (.c (.bool false))))⟩, ⟨(some 42), none,
  (.q (.pick (.t 31) (.c (.bool true)) (.t 41)))⟩] [] [0, 1, 7, 42] [1011, 1013, 1018, 1021, 1024, 1028]) (.cond (.t 42) (.seq (.reg [⟨(some 6), none, (.q (.mv (.c (.bool false))))⟩] [] [6] [1011,
  1013, 1018, 1044, 1048, 1060]) .ret) .skip)) (.seq (.reg [⟨(some 43), none, (.q (.mv (.t 0)))⟩, ⟨(some 44), none, (.call (.f 14) [(.t 43)])⟩, ⟨(some 45), none, (.q (.not (.t 44)))⟩, ⟨(some 46),
  none, (.q (.mv (.t 45)))⟩, ⟨(some 47), (some (46, false)), (.q (.mv (.t 1)))⟩, ⟨(some 48), (some (46, false)), (.call (.f 14) [(.t 47)])⟩, ⟨(some 49), (some (46, false)), (.q (.not (.t 48)))⟩,
  ⟨(some 50), none, (.q (.pick (.t 46) (.c (.bool true)) (.t 49)))⟩, ⟨(some 51), none, (.q (.mv (.t 50)))⟩, ⟨(some 52), (some (51, false)), (.q (.mv (.t 7)))⟩, ⟨(some 53), (some (51, false)),
  (.q (.bin .eql (.t 52) (.c (.int .i64 0))))⟩, ⟨(some 54), (some (51, false)), (.q (.mv (.t 0)))⟩, ⟨(some 55), (some (51, false)), (.q (.mv (.t 1)))⟩, ⟨(some 56), (some (51, false)),
  (.q (.bin .eql (.t 54) (.t 55)))⟩, ⟨(some 57), (some (51, false)), (.q (.beq false (.t 53) (.t 56)))⟩, ⟨(some 58), none, (.q (.pick (.t 51) (.c (.bool true)) (.t 57)))⟩, ⟨(some 59), none,
  (.q (.mv (.t 58)))⟩, ⟨(some 60), (some (59, true)), (.call (.f 13) [])⟩, ⟨(some 61), none, (.q (.pick (.t 59) (.t 60) (.c (.bool false))))⟩, ⟨(some 6), none, (.q (.mv (.t 61)))⟩] [] [6] [1011, 1013,
  1018, 1044, 1048, 1060]) .ret)))))
theorem mc9 : ofCode Tryd.prog [] Tryd.f9.ntmps [(0, ⟨[0, 1, 2], [1011, 1013, 1015], [], 0, [], none⟩),
    (1, ⟨[0, 1, 2], [1011, 1013, 1015], [], 0, [], none⟩),
    (2, ⟨[0, 1, 7, 8, 9], [1011, 1013, 1018, 1021, 1024], [], 0, [], none⟩),
    (3, ⟨[0, 1, 7, 42], [1011, 1013, 1018, 1021, 1024, 1028], [], 0, [], none⟩),
    (4, ⟨[6], [1011, 1013, 1018, 1044, 1048, 1060], [], 0, [], none⟩),
    (5, ⟨[6], [1011, 1013, 1018, 1044, 1048, 1060], [], 0, [], none⟩)] (Tryd.f9.body.getD .skip) = some M9 := by kernel_rfl
theorem Run9 {args : List PV} {v : AV} {rs : List (Nat × List PV)} (ids : List Bool) (h : args.length ≤ 62) (hv : run Tryd.prog (retK [RV.tmp 6] ids v rs) M9 [] ⟨entry 0 args, []⟩) : Fn Tryd.prog 9 args v rs :=
  Fn_run ids (by kernel_rfl) Tryd.func9 (by decide) rfl mc9 (by kernel_rfl) (by rw [Tryd.ntmps9]; exact h) (by rw [Tryd.ntmps9]; decide) hv

end Go.Vc

namespace Go.Vc
open Go.Proofs
set_option linter.unusedSimpArgs false
set_option linter.unusedVariables false

/-! ## 'name.Meets': what is left of both, met one by one -/
abbrev lp (k : Nat × Nat) : PV := .agg [pI k.1, pI k.2]
abbrev enU (k : Nat × Nat) : PV × PV := (lp k, .agg [])
theorem wf_lp (l : List (Nat × Nat)) : WfL 2 (l.map lp) := wf_map (f := lp) (s := 2) (fun a => ⟨rfl, fun c hc => by
  simp only [PV.cells, List.mem_cons, List.not_mem_nil, or_false] at hc
  rcases hc with rfl | rfl <;> rfl⟩) l
theorem lkp_L (k : Nat × Nat) : ∀ met : List (Nat × Nat), lkp (lp k) (met.map enU) = if k ∈ met then some (.agg []) else none
  | [] => rfl
  | m :: met => by
    simp only [List.map_cons, lkp, keyEq, sameV, lkp_L k met]
    by_cases h : k = m
    · subst h; simp
    · have : ¬ ((k.1 : Int) = (m.1 : Int) ∧ (k.2 : Int) = (m.2 : Int)) := fun ⟨h1, h2⟩ => h (Prod.ext (by omega) (by omega))
      have h2 : (decide ((k.1 : Int) = (m.1 : Int)) && (decide ((k.2 : Int) = (m.2 : Int)) && true)) = false := by
        rw [Bool.and_true, Bool.and_eq_false_iff, decide_eq_false_iff_not, decide_eq_false_iff_not]; omega
      rw [h2]
      simp [h]
theorem mput_L (k : Nat × Nat) : ∀ {met : List (Nat × Nat)}, k ∉ met → mput (lp k) (.agg []) (met.map enU) = (met ++ [k]).map enU
  | [], _ => rfl
  | m :: met, h => by
    have h1 : k ≠ m := fun e => h (by simp [e])
    have h2 : (decide ((k.1 : Int) = (m.1 : Int)) && (decide ((k.2 : Int) = (m.2 : Int)) && true)) = false := by
      rw [Bool.and_true, Bool.and_eq_false_iff, decide_eq_false_iff_not, decide_eq_false_iff_not]
      have : ¬ ((k.1 : Int) = (m.1 : Int) ∧ (k.2 : Int) = (m.2 : Int)) := fun ⟨h1', h2'⟩ => h1 (Prod.ext (by omega) (by omega))
      omega
    simp only [List.map_cons, mput, keyEq, sameV, h2, Bool.false_eq_true, if_false, List.cons_append, List.cons.injEq, true_and]
    exact mput_L k fun hm => h (List.mem_cons_of_mem _ hm)
theorem like_L (k : Nat × Nat) : ∀ met : List (Nat × Nat), keysLike (.st [0, 0]) (lp k) (met.map enU)
  | [] => trivial
  | m :: met => by simp only [List.map_cons, keysLike, keyLike, sameP]; exact ⟨⟨trivial, trivial, trivial⟩, like_L k met⟩
theorem fnS24o (k : Nat × Nat) (met : List (Nat × Nat)) (xs : List PV) (n : Nat) (hk : k ∈ met) :
    FnS Tryd.prog 24 [.pv (lp k), .ptr 200000 0, .ptr 200001 0] [(200000, .box [.mp 200002]), (200001, .box [.row 150000 0 n]), (200002, .mp (met.map enU)), (150000, .sl 2 xs)] (.pv (.tup []))
      [(200000, .box [.mp 200002]), (200001, .box [.row 150000 0 n]), (200002, .mp (met.map enU)), (150000, .sl 2 xs)] := by
  refine RunS24 (by simp) (by simp) ?_
  have hl : lkp (lp k) (met.map enU) = some (.agg []) := by rw [lkp_L, if_pos hk]
  simp only [go_sem, Nat.reduceEqDiff, Nat.reduceBEq, Nat.reduceAdd, Nat.reduceMul, Nat.reduceSub, Nat.reduceLeDiff, Nat.reduceLT, reduceIte, reduceCtorEq, Int.reduceToNat, Int.reduceLE, Int.reduceLT, Int.reduceNeg, Bool.not_not, and_self, Bool.and_eq_false_iff, Int.cast_ofNat_Int, Int.reduceAdd, Int.reduceSub, Int.reduceMul, Int.reduceEq, Int.reduceNe, M24, hl, like_L]
theorem fnS24n (k : Nat × Nat) (met : List (Nat × Nat)) (ws : List (Nat × Nat)) (xs : List PV) (hk : k ∉ met) (hw : ws.length < 10000000) :
    FnS Tryd.prog 24 [.pv (lp k), .ptr 200000 0, .ptr 200001 0] [(200000, .box [.mp 200002]), (200001, .box [.row 150000 0 ws.length]), (200002, .mp (met.map enU)), (150000, .sl 2 (ws.map lp ++ xs))] (.pv (.tup []))
      [(200000, .box [.mp 200002]), (200001, .box [.row 150000 0 (ws.length + 1)]), (200002, .mp ((met ++ [k]).map enU)), (150000, .sl 2 ((ws ++ [k]).map lp))] := by
  refine RunS24 (by simp) (by simp) ?_
  have tk : List.take ws.length (ws.map lp ++ xs) = ws.map lp := List.take_left' (by simp)
  simp only [go_sem, Nat.reduceEqDiff, Nat.reduceBEq, Nat.reduceAdd, Nat.reduceMul, Nat.reduceSub, Nat.reduceLeDiff, Nat.reduceLT, reduceIte, reduceCtorEq, Int.reduceToNat, Int.reduceLE, Int.reduceLT, Int.reduceNeg, Bool.not_not, and_self, Bool.and_eq_false_iff, Int.cast_ofNat_Int, Int.reduceAdd, Int.reduceSub, Int.reduceMul, Int.reduceEq, Int.reduceNe, M24, lkp_L, like_L, hk, mput_L k hk, tk]
  exact ⟨⟨wf_lp [k], by omega, by omega⟩, by rw [List.map_append]; rfl⟩
/-! ### the plain law: what is met -/
def nextK (g t : List ByteArray) (k : Nat × Nat) : List (Nat × Nat) :=
  if k.1 = g.length then [] else if g.getD k.1 ⟨#[]⟩ = sAll then (k.1 + 1, k.2) :: (if k.2 < t.length then [(k.1, k.2 + 1)] else [])
  else if k.2 < t.length ∧ (g.getD k.1 ⟨#[]⟩ = sAny ∨ g.getD k.1 ⟨#[]⟩ = t.getD k.2 ⟨#[]⟩) then [(k.1 + 1, k.2 + 1)] else []
def addK (s : List (Nat × Nat) × List (Nat × Nat)) (k : Nat × Nat) : List (Nat × Nat) × List (Nat × Nat) := if k ∈ s.1 then s else (s.1 ++ [k], s.2 ++ [k])
def accK (g t : List ByteArray) (k : Nat × Nat) : Prop := MatchP (g.drop k.1) (t.drop k.2)
theorem drop_get {l : List ByteArray} {i : Nat} (h : i < l.length) : l.drop i = l.getD i ⟨#[]⟩ :: l.drop (i + 1) := by
  rw [List.drop_eq_getElem_cons h]; simp [List.getD_eq_getElem?_getD, h]
theorem nextK_acc {g t : List ByteArray} {k k' : Nat × Nat} (h : k.1 ≤ g.length) (h1 : k' ∈ nextK g t k) (h2 : accK g t k') : accK g t k := by
  unfold nextK at h1
  split at h1
  · cases h1
  · rename_i hne
    have hlt : k.1 < g.length := by omega
    unfold accK at *
    rw [drop_get hlt]
    split at h1
    · rename_i ha
      rw [ha]
      rcases List.mem_cons.1 h1 with rfl | h1
      · exact .skip h2
      · split at h1
        · rename_i hlt2
          simp only [List.mem_singleton] at h1
          subst h1
          rw [drop_get hlt2]
          rw [drop_get hlt, ha] at h2
          exact .take h2
        · cases h1
    · rename_i ha
      split at h1
      · rename_i hc
        simp only [List.mem_singleton] at h1
        subst h1
        rw [drop_get hc.1]
        exact .one ha hc.2 h2
      · cases h1
theorem acc_next {g t : List ByteArray} {k : Nat × Nat} (h : k.1 ≤ g.length) (h2 : k.2 ≤ t.length) (h3 : accK g t k) : k = (g.length, t.length) ∨ ∃ k' ∈ nextK g t k, accK g t k' ∧ k'.1 + k'.2 > k.1 + k.2 := by
  unfold accK at h3
  by_cases hlt : k.1 < g.length
  · rw [drop_get hlt] at h3
    unfold nextK
    rw [if_neg (by omega)]
    right
    obtain ⟨p, hp⟩ : ∃ p, p = g.getD k.1 ⟨#[]⟩ := ⟨_, rfl⟩
    rw [← hp] at h3 ⊢
    by_cases ha : p = sAll
    · rw [if_pos ha]
      rw [ha] at h3
      by_cases hlt2 : k.2 < t.length
      · rw [drop_get hlt2] at h3
        rw [if_pos hlt2]
        cases h3 with
        | skip h3 => exact ⟨(k.1 + 1, k.2), by simp, by unfold accK; rw [drop_get hlt2]; exact h3, by simp only; omega⟩
        | take h3 => exact ⟨(k.1, k.2 + 1), by simp, by unfold accK; simp only; rw [drop_get hlt, ← hp, ha]; exact h3, by simp only; omega⟩
        | one h4 _ _ => exact absurd rfl h4
      · rw [List.drop_of_length_le (show t.length ≤ k.2 by omega)] at h3
        cases h3 with
        | skip h3 => exact ⟨(k.1 + 1, k.2), by simp, by unfold accK; rw [List.drop_of_length_le (show t.length ≤ k.2 by omega)]; exact h3, by simp only; omega⟩
    · rw [if_neg ha]
      by_cases hlt2 : k.2 < t.length
      · rw [drop_get hlt2] at h3
        cases h3 with
        | skip h3 => exact absurd rfl ha
        | take h3 => exact absurd rfl ha
        | one _ h4 h5 => exact ⟨(k.1 + 1, k.2 + 1), by rw [if_pos ⟨hlt2, h4⟩]; simp, h5, by simp only; omega⟩
      · rw [List.drop_of_length_le (show t.length ≤ k.2 by omega)] at h3
        cases h3 with
        | skip h3 => exact absurd rfl ha
  · left
    rw [List.drop_of_length_le (show g.length ≤ k.1 by omega)] at h3
    have : t.drop k.2 = [] := by cases h : t.drop k.2 with
      | nil => rfl
      | cons q u => rw [h] at h3; cases h3
    have h5 : t.length - k.2 = 0 := by rw [← List.length_drop, this]; rfl
    exact Prod.ext (by simp only; omega) (by simp only; omega)
theorem nextK_in {g t : List ByteArray} {k k' : Nat × Nat} (h : k.1 ≤ g.length) (h2 : k.2 ≤ t.length) (h1 : k' ∈ nextK g t k) : k'.1 ≤ g.length ∧ k'.2 ≤ t.length := by
  unfold nextK at h1
  split at h1
  · cases h1
  · split at h1
    · rcases List.mem_cons.1 h1 with rfl | h1
      · exact ⟨by simp only; omega, h2⟩
      · split at h1
        · simp only [List.mem_singleton] at h1; subst h1; exact ⟨h, by simp only; omega⟩
        · cases h1
    · split at h1
      · rename_i hc
        simp only [List.mem_singleton] at h1; subst h1; exact ⟨by simp only; omega, by simp only; omega⟩
      · cases h1
/-- what holds at work: 'ws' is left to be looked at -/
structure InvK (g t : List ByteArray) (met ws : List (Nat × Nat)) : Prop where
  nodup : met.Nodup
  inn : ∀ k ∈ met, k.1 ≤ g.length ∧ k.2 ≤ t.length
  zero : (0, 0) ∈ met
  sub : ∀ k ∈ ws, k ∈ met
  sound : ∀ k ∈ met, accK g t k → accK g t (0, 0)
  shut : ∀ k ∈ met, k ∈ ws ∨ ∀ k' ∈ nextK g t k, k' ∈ met
/-- the same while one's next ones are being added -/
structure MidK (g t : List ByteArray) (k : Nat × Nat) (todo met ws : List (Nat × Nat)) : Prop where
  nodup : met.Nodup
  inn : ∀ k ∈ met, k.1 ≤ g.length ∧ k.2 ≤ t.length
  zero : (0, 0) ∈ met
  sub : ∀ k ∈ ws, k ∈ met
  sound : ∀ k ∈ met, accK g t k → accK g t (0, 0)
  own : k ∈ met
  left : ∀ k' ∈ nextK g t k, k' ∈ met ∨ k' ∈ todo
  rest : ∀ k' ∈ todo, k' ∈ nextK g t k
  shut : ∀ j ∈ met, j = k ∨ j ∈ ws ∨ ∀ k' ∈ nextK g t j, k' ∈ met
theorem InvK.pop {g t : List ByteArray} {met ws : List (Nat × Nat)} {k : Nat × Nat} (h : InvK g t met (ws ++ [k])) : MidK g t k (nextK g t k) met ws where
  nodup := h.nodup
  inn := h.inn
  zero := h.zero
  sub := fun j hj => h.sub j (List.mem_append_left _ hj)
  sound := h.sound
  own := h.sub k (by simp)
  left := fun k' hk => .inr hk
  rest := fun k' hk => hk
  shut := fun j hj => by
    rcases h.shut j hj with h1 | h1
    · rcases List.mem_append.1 h1 with h1 | h1
      · exact .inr (.inl h1)
      · simp only [List.mem_singleton] at h1; exact .inl h1
    · exact .inr (.inr h1)
theorem MidK.old {g t : List ByteArray} {met ws todo : List (Nat × Nat)} {k k1 : Nat × Nat} (h : MidK g t k (k1 :: todo) met ws) (hk : k1 ∈ met) : MidK g t k todo met ws :=
  { h with
    left := fun k' hk' => by
      rcases h.left k' hk' with h1 | h1
      · exact .inl h1
      · rcases List.mem_cons.1 h1 with rfl | h1
        · exact .inl hk
        · exact .inr h1
    rest := fun k' hk' => h.rest k' (List.mem_cons_of_mem _ hk') }
theorem MidK.new {g t : List ByteArray} {met ws todo : List (Nat × Nat)} {k k1 : Nat × Nat} (h : MidK g t k (k1 :: todo) met ws) (hk : k1 ∉ met) : MidK g t k todo (met ++ [k1]) (ws ++ [k1]) := by
  have h1 := h.rest k1 (by simp)
  have hin := nextK_in (h.inn k h.own).1 (h.inn k h.own).2 h1
  refine ⟨?_, fun j hj => ?_, List.mem_append_left _ h.zero, fun j hj => ?_, fun j hj hacc => ?_, List.mem_append_left _ h.own, fun k' hk' => ?_, fun k' hk' => h.rest k' (List.mem_cons_of_mem _ hk'), fun j hj => ?_⟩
  · rw [List.nodup_append]
    exact ⟨h.nodup, by simp, fun a ha b hb => by simp only [List.mem_singleton] at hb; subst hb; exact fun e => hk (by rw [← e]; exact ha)⟩
  · rcases List.mem_append.1 hj with hj | hj
    · exact h.inn j hj
    · simp only [List.mem_singleton] at hj; subst hj; exact hin
  · rcases List.mem_append.1 hj with hj | hj
    · exact List.mem_append_left _ (h.sub j hj)
    · exact List.mem_append_right _ hj
  · rcases List.mem_append.1 hj with hj | hj
    · exact h.sound j hj hacc
    · simp only [List.mem_singleton] at hj; subst hj
      exact h.sound k h.own (nextK_acc (h.inn k h.own).1 h1 hacc)
  · rcases h.left k' hk' with h2 | h2
    · exact .inl (List.mem_append_left _ h2)
    · rcases List.mem_cons.1 h2 with rfl | h2
      · exact .inl (by simp)
      · exact .inr h2
  · rcases List.mem_append.1 hj with hj | hj
    · rcases h.shut j hj with h2 | h2 | h2
      · exact .inl h2
      · exact .inr (.inl (List.mem_append_left _ h2))
      · exact .inr (.inr fun k' hk' => List.mem_append_left _ (h2 k' hk'))
    · exact .inr (.inl (List.mem_append_right _ hj))
theorem MidK.done {g t : List ByteArray} {met ws : List (Nat × Nat)} {k : Nat × Nat} (h : MidK g t k [] met ws) : InvK g t met ws where
  nodup := h.nodup
  inn := h.inn
  zero := h.zero
  sub := h.sub
  sound := h.sound
  shut := fun j hj => by
    rcases h.shut j hj with rfl | h1 | h1
    · exact .inr fun k' hk' => (h.left k' hk').resolve_right (by simp)
    · exact .inl h1
    · exact .inr h1
theorem InvK.init (g t : List ByteArray) : InvK g t [(0, 0)] [(0, 0)] :=
  ⟨by simp, fun k hk => by simp only [List.mem_singleton] at hk; subst hk; exact ⟨Nat.zero_le _, Nat.zero_le _⟩, by simp, fun k hk => hk, fun k hk h => by simp only [List.mem_singleton] at hk; subst hk; exact h, fun k hk => .inl hk⟩
theorem InvK.end_ {g t : List ByteArray} {met : List (Nat × Nat)} (h : InvK g t met []) : (g.length, t.length) ∈ met ↔ MatchP g t := by
  have e0 : accK g t (0, 0) ↔ MatchP g t := Iff.rfl
  constructor
  · intro hm
    exact e0.1 (h.sound _ hm (by unfold accK; simp only; rw [List.drop_length, List.drop_length]; exact .nil))
  · intro hm
    have go : ∀ n (k : Nat × Nat), k ∈ met → accK g t k → g.length + t.length - (k.1 + k.2) ≤ n → (g.length, t.length) ∈ met := by
      intro n
      induction n with
      | zero =>
        intro k hk hacc hn
        have hi := h.inn k hk
        rcases acc_next hi.1 hi.2 hacc with rfl | ⟨k', h1, h2, h3⟩
        · exact hk
        · have := nextK_in hi.1 hi.2 h1; omega
      | succ n ih =>
        intro k hk hacc hn
        have hi := h.inn k hk
        rcases acc_next hi.1 hi.2 hacc with rfl | ⟨k', h1, h2, h3⟩
        · exact hk
        · exact ih k' (((h.shut k hk).resolve_left (by simp)) k' h1) h2 (by omega)
    exact go _ (0, 0) h.zero (e0.2 hm) (Nat.le_refl _)
theorem InvK.le {g t : List ByteArray} {met : List (Nat × Nat)} (hn : met.Nodup) (hi : ∀ k ∈ met, k.1 ≤ g.length ∧ k.2 ≤ t.length) : met.length ≤ (g.length + 1) * (t.length + 1) := by
  have := List.Nodup.length_le_of_subset (l₂ := (List.range (g.length + 1)).flatMap fun i => (List.range (t.length + 1)).map fun j => (i, j)) hn (fun k hk => by
    have := hi k hk
    rw [List.mem_flatMap]
    exact ⟨k.1, List.mem_range.2 (by omega), List.mem_map.2 ⟨k.2, List.mem_range.2 (by omega), rfl⟩⟩)
  refine Nat.le_trans this ?_
  rw [List.length_flatMap]
  simp only [List.length_map, List.length_range]
  rw [List.map_const', List.length_range, List.sum_replicate_nat]
  exact Nat.le_refl _
end Go.Vc
