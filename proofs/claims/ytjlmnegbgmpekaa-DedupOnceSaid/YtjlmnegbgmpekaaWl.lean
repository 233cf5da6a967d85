/- A part of the proofs of the seat Ytjlmnegbgmpekaa: the contracts of functions, each proved out of its code. -/
import Derived.Test.YtjlmnegbgmpekaaVh
import Derived.Test.YtjlmnegbgmpekaaProg
import Derived.Test.YtjlmnegbgmpekaaWf
import Derived.Test.YtjlmnegbgmpekaaWk
namespace Go.Vc
open Go.Proofs
set_option maxRecDepth 100000

/-- 'dedup.place.1' -/
def M104 : MC := (.seq (.reg [⟨(some 2), none, (.box (.t 0))⟩, ⟨(some 3), none, (.q (.mv (.c (.bool false))))⟩] [] [1, 2] [2]) (.seq (.reg [⟨(some 4), none, (.q (.fa (.t 2) 0))⟩, ⟨(some 5), none,
  (.q (.ld (.t 4) 1 false))⟩, ⟨(some 6), none, (.q (.ld (.t 1) 1 false))⟩, ⟨(some 7), none, (.q (.bin .eql (.t 5) (.t 6)))⟩, ⟨(some 3), none, (.q (.mv (.t 7)))⟩] [] [3] []) .ret))
theorem mc104 : ofCode Try.prog [] Try.f104.ntmps [(0, ⟨[1, 2], [2], [], 0, [], none⟩),
    (1, ⟨[3], [], [], 0, [], none⟩)] (Try.f104.body.getD .skip) = some M104 := by kernel_rfl
theorem Run104 {args : List PV} {v : AV} {rs : List (Nat × List PV)} (ids : List Bool) (h : args.length ≤ 8) (hv : run Try.prog (retK [RV.tmp 3] ids v rs) M104 [] ⟨entry 0 args, []⟩) : Fn Try.prog 104 args v rs :=
  Fn_run ids (by kernel_rfl) Try.func104 (by decide) rfl mc104 (by kernel_rfl) (by rw [Try.ntmps104]; exact h) (by rw [Try.ntmps104]; decide) hv

/-- 'api.Last]' -/
def B103_0 : MC := (.seq (.reg [⟨(some 9), none, (.q (.bin .lss (.t 8) (.t 7)))⟩] [] [0, 1, 7, 8, 9] []) (.seq (.cond (.t 9) .skip (.exit 0)) (.seq (.block 1 (.seq (.reg [⟨(some 10), none,
  (.q (.mv (.t 8)))⟩, ⟨(some 5), none, (.q (.mv (.t 10)))⟩] [] [0, 1, 5, 7, 8] []) (.seq (.reg [⟨(some 11), none, (.q (.mv (.t 1)))⟩, ⟨(some 12), none, (.q (.mv (.t 0)))⟩, ⟨(some 13), none,
  (.q (.mv (.t 5)))⟩, ⟨(some 14), none, (.q (.ia (.t 12) (.t 13) 3))⟩, ⟨(some 15), none, (.q (.ld (.t 14) 3 true))⟩, ⟨(some 16), none, (.call (.t 11) [(.t 15)])⟩] [] [0, 1, 5, 7, 8, 16] [1016])
  (.cond (.t 16) (.seq (.reg [⟨(some 17), none, (.q (.mv (.t 5)))⟩, ⟨(some 4), none, (.q (.mv (.t 17)))⟩] [] [4] []) .ret) .skip)))) (.reg [⟨(some 18), none, (.q (.bin .add (.t 8)
  (.c (.int .i64 1))))⟩, ⟨(some 8), none, (.q (.mv (.t 18)))⟩] [] [0, 1, 7, 8] []))))
def R103_0 : MC := (.seq (.reg [⟨(some 4), none, (.q (.mv (.c (.int .i64 (-1)))))⟩] [] [4] []) .ret)
def M103 : MC := (.seq (.reg [⟨(some 4), none, (.q (.mv (.c (.int .i64 0))))⟩] [] [0, 1] []) (.seq (.seq (.reg [⟨(some 6), none, (.q (.mv (.t 0)))⟩, ⟨(some 7), none, (.q (.len (.t 6) false))⟩,
  ⟨(some 8), none, (.q (.mv (.c (.int .i64 0))))⟩] [] [0, 1, 7, 8] []) (.block 0 (.loop B103_0))) R103_0))
theorem mc103 : ofCode Try.prog [] Try.f103.ntmps [(0, ⟨[0, 1], [], [], 0, [], none⟩),
    (1, ⟨[0, 1, 7, 8], [], [], 0, [], none⟩),
    (2, ⟨[0, 1, 7, 8, 9], [], [], 0, [], none⟩),
    (3, ⟨[0, 1, 5, 7, 8], [], [], 0, [], none⟩),
    (4, ⟨[0, 1, 5, 7, 8, 16], [1016], [], 0, [], none⟩),
    (5, ⟨[4], [], [], 0, [], none⟩),
    (6, ⟨[0, 1, 7, 8], [], [], 0, [], none⟩),
    (7, ⟨[4], [], [], 0, [], none⟩)] (Try.f103.body.getD .skip) = some M103 := by kernel_rfl
theorem Run103 {args : List PV} {v : AV} {rs : List (Nat × List PV)} (ids : List Bool) (h : args.length ≤ 19) (hv : run Try.prog (retK [RV.tmp 4] ids v rs) M103 [] ⟨entry 0 args, []⟩) : Fn Try.prog 103 args v rs :=
  Fn_run ids (by kernel_rfl) Try.func103 (by decide) rfl mc103 (by kernel_rfl) (by rw [Try.ntmps103]; exact h) (by rw [Try.ntmps103]; decide) hv

/-- 'dedup.place' -/
def M82 : MC := (.seq (.reg [⟨(some 3), none, (.box (.t 1))⟩, ⟨(some 4), none, (.q (.mv (.c (.int .i64 0))))⟩] [] [0, 3] [3]) (.seq (.reg [⟨(some 5), none, (.q (.mv (.t 0)))⟩, ⟨(some 6), none,
  (.q (.clo 104 [(.t 3)]))⟩, ⟨(some 7), none, (.call (.f 103) [(.t 5), (.t 6)])⟩, ⟨(some 4), none, (.q (.mv (.t 7)))⟩] [] [4] [1007]) .ret))
theorem mc82 : ofCode Try.prog [] Try.f82.ntmps [(0, ⟨[0, 3], [3], [], 0, [], none⟩),
    (1, ⟨[4], [1007], [], 0, [], none⟩)] (Try.f82.body.getD .skip) = some M82 := by kernel_rfl
theorem Run82 {args : List PV} {v : AV} {rs : List (Nat × List PV)} (ids : List Bool) (h : args.length ≤ 8) (hv : run Try.prog (retK [RV.tmp 4] ids v rs) M82 [] ⟨entry 0 args, []⟩) : Fn Try.prog 82 args v rs :=
  Fn_run ids (by kernel_rfl) Try.func82 (by decide) rfl mc82 (by kernel_rfl) (by rw [Try.ntmps82]; exact h) (by rw [Try.ntmps82]; decide) hv

/-- 'api.Last]' -/
def M83 : MC := (.seq (.reg [⟨(some 2), none, (.q (.mv .nil))⟩] [] [0] []) (.seq (.seq (.reg [⟨(some 3), none, (.q (.mv (.t 0)))⟩, ⟨(some 4), none, (.isnil (.t 3) false)⟩] [] [0, 4] []) (.cond (.t 4)
  (.seq (.reg [⟨(some 2), none, (.q (.mv .nil))⟩] [(2, 2002, 3)] [2] [7, 2002]) .ret) .skip)) (.seq (.reg [⟨(some 5), none, (.lits [] 3)⟩, ⟨(some 6), none, (.q (.mv (.t 0)))⟩, ⟨(some 7), none,
  (.app (.t 5) (.t 6) 3 32)⟩, ⟨(some 2), none, (.q (.mv (.t 7)))⟩] [] [2] [7, 2002]) .ret)))
theorem mc83 : ofCode Try.prog [] Try.f83.ntmps [(0, ⟨[0], [], [], 0, [], none⟩),
    (1, ⟨[0, 4], [], [], 0, [], none⟩),
    (2, ⟨[2], [7, 2002], [], 0, [(2, 2002, 3)], none⟩),
    (3, ⟨[2], [7, 2002], [], 0, [], none⟩)] (Try.f83.body.getD .skip) = some M83 := by kernel_rfl
theorem Run83 {args : List PV} {v : AV} {rs : List (Nat × List PV)} (ids : List Bool) (h : args.length ≤ 8) (hv : run Try.prog (retK [RV.tmp 2] ids v rs) M83 [] ⟨entry 0 args, []⟩) : Fn Try.prog 83 args v rs :=
  Fn_run ids (by kernel_rfl) Try.func83 (by decide) rfl mc83 (by kernel_rfl) (by rw [Try.ntmps83]; exact h) (by rw [Try.ntmps83]; decide) hv

/-- 'dedup.Find' -/
def M40 : MC := (.seq (.reg [⟨(some 4), none, (.alloc [(.pv (.sc (.string ⟨#[]⟩))), (.pv (.sc (.int .u64 0))), (.pv (.sc (.int .i64 0)))])⟩, ⟨(some 5), none, (.q (.mv (.c (.bool false))))⟩] [] [0, 1,
  4] [4]) (.seq (.reg [⟨(some 7), none, (.q (.mv (.t 0)))⟩, ⟨(some 8), none, (.q (.mv (.t 1)))⟩, ⟨(some 9), none, (.call (.f 82) [(.t 7), (.t 8)])⟩, ⟨(some 6), none, (.q (.mv (.t 9)))⟩] [] [0, 4,
  6] [4, 1009]) (.seq (.seq (.reg [⟨(some 10), none, (.q (.mv (.t 6)))⟩, ⟨(some 11), none, (.q (.bin .lss (.t 10) (.c (.int .i64 0))))⟩] [] [0, 4, 6, 11] [4, 1009]) (.cond (.t 11)
  (.seq (.reg [⟨(some 12), none, (.q (.mk [(.pv (.sc (.string ⟨#[]⟩))), (.pv (.sc (.int .u64 0))), (.pv (.sc (.int .i64 0)))] []))⟩, ⟨none, none, (.st (.t 4) (.t 12) 3)⟩, ⟨(some 5), none,
  (.q (.mv (.c (.bool false))))⟩] [] [4, 5] [4]) .ret) .skip)) (.seq (.reg [⟨(some 13), none, (.q (.mv (.t 0)))⟩, ⟨(some 14), none, (.q (.mv (.t 6)))⟩, ⟨(some 15), none, (.q (.ia (.t 13) (.t 14) 3))⟩,
  ⟨(some 16), none, (.q (.ld (.t 15) 3 true))⟩, ⟨none, none, (.st (.t 4) (.t 16) 3)⟩, ⟨(some 5), none, (.q (.mv (.c (.bool true))))⟩] [] [4, 5] [4]) .ret))))
theorem mc40 : ofCode Try.prog [] Try.f40.ntmps [(0, ⟨[0, 1, 4], [4], [], 0, [], none⟩),
    (1, ⟨[0, 4, 6], [4, 1009], [], 0, [], none⟩),
    (2, ⟨[0, 4, 6, 11], [4, 1009], [], 0, [], none⟩),
    (3, ⟨[4, 5], [4], [], 0, [], none⟩),
    (4, ⟨[4, 5], [4], [], 0, [], none⟩)] (Try.f40.body.getD .skip) = some M40 := by kernel_rfl
theorem Run40 {args : List PV} {v : AV} {rs : List (Nat × List PV)} (ids : List Bool) (h : args.length ≤ 17) (hv : run Try.prog (retK [RV.cell 4 3 true, RV.tmp 5] ids v rs) M40 [] ⟨entry 0 args, []⟩) : Fn Try.prog 40 args v rs :=
  Fn_run ids (by kernel_rfl) Try.func40 (by decide) rfl mc40 (by kernel_rfl) (by rw [Try.ntmps40]; exact h) (by rw [Try.ntmps40]; decide) hv

/-- 'trystref13.Find' -/
def B41_0 : MC := (.seq (.seq (.reg [⟨(some 7), none, (.q (.mv (.t 6)))⟩, ⟨(some 8), none, (.q (.mv (.t 0)))⟩, ⟨(some 9), none, (.q (.len (.t 8) false))⟩, ⟨(some 10), none, (.q (.bin .lss (.t 7)
  (.t 9)))⟩] [] [0, 1, 4, 6, 10] [4]) (.cond (.t 10) .skip (.exit 0))) (.seq (.block 1 (.seq (.reg [⟨(some 13), none, (.q (.mv (.t 0)))⟩, ⟨(some 14), none, (.q (.mv (.t 6)))⟩, ⟨(some 15), none,
  (.q (.ia (.t 13) (.t 14) 3))⟩, ⟨(some 16), none, (.q (.fa (.t 15) 0))⟩, ⟨(some 17), none, (.q (.ld (.t 16) 1 false))⟩, ⟨(some 18), none, (.q (.mv (.t 1)))⟩, ⟨(some 19), none, (.q (.bin .eql (.t 17)
  (.t 18)))⟩] [] [0, 1, 4, 6, 19] [4]) (.cond (.t 19) (.seq (.reg [⟨(some 20), none, (.q (.mv (.t 0)))⟩, ⟨(some 21), none, (.q (.mv (.t 6)))⟩, ⟨(some 22), none, (.q (.ia (.t 20) (.t 21) 3))⟩,
  ⟨(some 23), none, (.q (.ld (.t 22) 3 true))⟩, ⟨none, none, (.st (.t 4) (.t 23) 3)⟩, ⟨(some 5), none, (.q (.mv (.c (.bool true))))⟩] [] [4, 5] [4]) .ret) .skip))) (.reg [⟨(some 11), none,
  (.q (.mv (.t 6)))⟩, ⟨(some 12), none, (.q (.bin .add (.t 11) (.c (.int .i64 1))))⟩, ⟨(some 6), none, (.q (.mv (.t 12)))⟩] [] [0, 1, 4, 6] [4])))
def R41_0 : MC := (.seq (.reg [⟨(some 24), none, (.q (.mk [(.pv (.sc (.string ⟨#[]⟩))), (.pv (.sc (.int .u64 0))), (.pv (.sc (.int .i64 0)))] []))⟩, ⟨none, none, (.st (.t 4) (.t 24) 3)⟩, ⟨(some 5),
  none, (.q (.mv (.c (.bool false))))⟩] [] [4, 5] [4]) .ret)
def M41 : MC := (.seq (.reg [⟨(some 4), none, (.alloc [(.pv (.sc (.string ⟨#[]⟩))), (.pv (.sc (.int .u64 0))), (.pv (.sc (.int .i64 0)))])⟩, ⟨(some 5), none, (.q (.mv (.c (.bool false))))⟩] [] [0, 1,
  4] [4]) (.seq (.seq (.reg [⟨(some 6), none, (.q (.mv (.c (.int .i64 0))))⟩] [] [0, 1, 4, 6] [4]) (.block 0 (.loop B41_0))) R41_0))
theorem mc41 : ofCode Try.prog [] Try.f41.ntmps [(0, ⟨[0, 1, 4], [4], [], 0, [], none⟩),
    (1, ⟨[0, 1, 4, 6], [4], [], 0, [], none⟩),
    (2, ⟨[0, 1, 4, 6, 10], [4], [], 0, [], none⟩),
    (3, ⟨[0, 1, 4, 6], [4], [], 0, [], none⟩),
    (4, ⟨[0, 1, 4, 6, 19], [4], [], 0, [], none⟩),
    (5, ⟨[4, 5], [4], [], 0, [], none⟩),
    (6, ⟨[4, 5], [4], [], 0, [], none⟩)] (Try.f41.body.getD .skip) = some M41 := by kernel_rfl
theorem Run41 {args : List PV} {v : AV} {rs : List (Nat × List PV)} (ids : List Bool) (h : args.length ≤ 25) (hv : run Try.prog (retK [RV.cell 4 3 true, RV.tmp 5] ids v rs) M41 [] ⟨entry 0 args, []⟩) : Fn Try.prog 41 args v rs :=
  Fn_run ids (by kernel_rfl) Try.func41 (by decide) rfl mc41 (by kernel_rfl) (by rw [Try.ntmps41]; exact h) (by rw [Try.ntmps41]; decide) hv

/-- 'trystref13.Same' -/
def B42_0 : MC := (.seq (.seq (.reg [⟨(some 11), none, (.q (.mv (.t 5)))⟩, ⟨(some 12), none, (.q (.mv (.t 0)))⟩, ⟨(some 13), none, (.q (.len (.t 12) false))⟩, ⟨(some 14), none, (.q (.bin .lss (.t 11)
  (.t 13)))⟩] [] [0, 1, 5, 14] []) (.cond (.t 14) .skip (.exit 0))) (.seq (.block 1 (.seq (.reg [⟨(some 17), none, (.q (.mv (.t 0)))⟩, ⟨(some 18), none, (.q (.mv (.t 5)))⟩, ⟨(some 19), none,
  (.q (.ia (.t 17) (.t 18) 3))⟩, ⟨(some 20), none, (.q (.ld (.t 19) 3 true))⟩, ⟨(some 21), none, (.q (.mv (.t 1)))⟩, ⟨(some 22), none, (.q (.mv (.t 5)))⟩, ⟨(some 23), none, (.q (.ia (.t 21) (.t 22)
  3))⟩, ⟨(some 24), none, (.q (.ld (.t 23) 3 true))⟩, ⟨(some 25), none, (.q (.seq true [1, 0, 0] (.t 20) (.t 24)))⟩] [] [0, 1, 5, 25] []) (.cond (.t 25) (.seq (.reg [⟨(some 4), none,
  (.q (.mv (.c (.bool false))))⟩] [] [4] []) .ret) .skip))) (.reg [⟨(some 15), none, (.q (.mv (.t 5)))⟩, ⟨(some 16), none, (.q (.bin .add (.t 15) (.c (.int .i64 1))))⟩, ⟨(some 5), none,
  (.q (.mv (.t 16)))⟩] [] [0, 1, 5] [])))
def R42_0 : MC := (.seq (.reg [⟨(some 4), none, (.q (.mv (.c (.bool true))))⟩] [] [4] []) .ret)
def M42 : MC := (.seq (.reg [⟨(some 4), none, (.q (.mv (.c (.bool false))))⟩] [] [0, 1] []) (.seq (.seq (.reg [⟨(some 6), none, (.q (.mv (.t 0)))⟩, ⟨(some 7), none, (.q (.len (.t 6) false))⟩,
  ⟨(some 8), none, (.q (.mv (.t 1)))⟩, ⟨(some 9), none, (.q (.len (.t 8) false))⟩, ⟨(some 10), none, (.q (.bin .neq (.t 7) (.t 9)))⟩] [] [0, 1, 10] []) (.cond (.t 10) (.seq (.reg [⟨(some 4), none,
  (.q (.mv (.c (.bool false))))⟩] [] [4] []) .ret) .skip)) (.seq (.seq (.reg [⟨(some 5), none, (.q (.mv (.c (.int .i64 0))))⟩] [] [0, 1, 5] []) (.block 0 (.loop B42_0))) R42_0)))
theorem mc42 : ofCode Try.prog [] Try.f42.ntmps [(0, ⟨[0, 1], [], [], 0, [], none⟩),
    (1, ⟨[0, 1, 10], [], [], 0, [], none⟩),
    (2, ⟨[4], [], [], 0, [], none⟩),
    (3, ⟨[0, 1, 5], [], [], 0, [], none⟩),
    (4, ⟨[0, 1, 5, 14], [], [], 0, [], none⟩),
    (5, ⟨[0, 1, 5], [], [], 0, [], none⟩),
    (6, ⟨[0, 1, 5, 25], [], [(0, 269), (1, 270), (2, 268), (3, 264), (4, 464), (5, 480), (6, 448), (7, 384), (8, 256)], 511, [], none⟩),
    (7, ⟨[4], [], [], 0, [], none⟩),
    (8, ⟨[4], [], [], 0, [], none⟩)] (Try.f42.body.getD .skip) = some M42 := by kernel_rfl
theorem Run42 {args : List PV} {v : AV} {rs : List (Nat × List PV)} (ids : List Bool) (h : args.length ≤ 26) (hv : run Try.prog (retK [RV.tmp 4] ids v rs) M42 [] ⟨entry 0 args, []⟩) : Fn Try.prog 42 args v rs :=
  Fn_run ids (by kernel_rfl) Try.func42 (by decide) rfl mc42 (by kernel_rfl) (by rw [Try.ntmps42]; exact h) (by rw [Try.ntmps42]; decide) hv

/-- 'dedup.Check' -/
def B43_0 : MC := (.seq (.reg [⟨(some 11), none, (.q (.bin .lss (.t 10) (.t 9)))⟩] [] [0, 8, 9, 10, 11] []) (.seq (.cond (.t 11) .skip (.exit 0)) (.seq (.block 1 (.seq (.reg [⟨(some 12), none,
  (.q (.mv (.t 10)))⟩, ⟨(some 13), none, (.q (.ia (.t 8) (.t 10) 3))⟩, ⟨(some 14), none, (.q (.ld (.t 13) 3 true))⟩, ⟨(some 4), none, (.alloc [(.pv (.sc (.string ⟨#[]⟩))), (.pv (.sc (.int .u64 0))),
  (.pv (.sc (.int .i64 0)))])⟩, ⟨(some 3), none, (.q (.mv (.t 12)))⟩, ⟨none, none, (.st (.t 4) (.t 14) 3)⟩] [] [0, 3, 4, 8, 9, 10] [4]) (.seq (.seq (.reg [⟨(some 15), none, (.q (.fa (.t 4) 0))⟩,
  ⟨(some 16), none, (.q (.ld (.t 15) 1 false))⟩, ⟨(some 17), none, (.call (.f 81) [(.t 16)])⟩, ⟨(some 18), none, (.q (.not (.t 17)))⟩, ⟨(some 19), none, (.q (.mv (.t 18)))⟩, ⟨(some 20), (some (19,
  false)), (.q (.fa (.t 4) 1))⟩, ⟨(some 21), (some (19, false)), (.q (.ld (.t 20) 1 false))⟩, ⟨(some 22), (some (19, false)), (.q (.bin .lss (.t 21) (.c (.int .u64 1))))⟩, ⟨(some 23), none,
  (.q (.pick (.t 19) (.c (.bool true)) (.t 22)))⟩, ⟨(some 24), none, (.q (.mv (.t 23)))⟩, ⟨(some 25), (some (24, false)), (.q (.fa (.t 4) 2))⟩, ⟨(some 26), (some (24, false)), (.q (.ld (.t 25)
  1 false))⟩, ⟨(some 27), (some (24, false)), (.q (.bin .lss (.t 26) (.c (.int .i64 0))))⟩, ⟨(some 28), none, (.q (.pick (.t 24) (.c (.bool true)) (.t 27)))⟩] [] [0, 3, 4, 8, 9, 10, 28] [4, 1017])
  (.cond (.t 28) (.seq (.reg [⟨(some 2), none, (.q (.mv (.c (.int .i64 1))))⟩] [] [2] []) .ret) .skip)) (.seq (.reg [⟨(some 29), none, (.q (.mv (.t 3)))⟩, ⟨(some 30), none, (.q (.bin .gtr (.t 29)
  (.c (.int .i64 0))))⟩, ⟨(some 31), none, (.q (.mv (.t 30)))⟩, ⟨(some 32), (some (31, true)), (.q (.mv (.t 0)))⟩, ⟨(some 33), (some (31, true)), (.q (.mv (.t 3)))⟩, ⟨(some 34), (some (31, true)),
  (.q (.bin .sub (.t 33) (.c (.int .i64 1))))⟩, ⟨(some 35), (some (31, true)), (.q (.ia (.t 32) (.t 34) 3))⟩, ⟨(some 36), (some (31, true)), (.q (.fa (.t 35) 0))⟩, ⟨(some 37), (some (31, true)),
  (.q (.ld (.t 36) 1 false))⟩, ⟨(some 38), (some (31, true)), (.q (.fa (.t 4) 0))⟩, ⟨(some 39), (some (31, true)), (.q (.ld (.t 38) 1 false))⟩, ⟨(some 40), (some (31, true)), (.q (.bin .geq (.t 37)
  (.t 39)))⟩, ⟨(some 41), none, (.q (.pick (.t 31) (.t 40) (.c (.bool false))))⟩] [] [0, 8, 9, 10, 41] []) (.cond (.t 41) (.seq (.reg [⟨(some 2), none, (.q (.mv (.c (.int .i64 1))))⟩] [] [2] []) .ret)
  .skip))))) (.reg [⟨(some 42), none, (.q (.bin .add (.t 10) (.c (.int .i64 1))))⟩, ⟨(some 10), none, (.q (.mv (.t 42)))⟩] [] [0, 8, 9, 10] []))))
def R43_0 : MC := (.seq (.reg [⟨(some 2), none, (.q (.mv (.c (.int .i64 0))))⟩] [] [2] []) .ret)
def M43 : MC := (.seq (.reg [⟨(some 2), none, (.q (.mv (.c (.int .i64 0))))⟩] [] [0] []) (.seq (.seq (.reg [⟨(some 5), none, (.q (.mv (.t 0)))⟩, ⟨(some 6), none, (.q (.len (.t 5) false))⟩, ⟨(some 7),
  none, (.q (.bin .gtr (.t 6) (.c (.int .i64 50))))⟩] [] [0, 7] []) (.cond (.t 7) (.seq (.reg [⟨(some 2), none, (.q (.mv (.c (.int .i64 1))))⟩] [] [2] []) .ret) .skip)) (.seq (.seq (.reg [⟨(some 8),
  none, (.q (.mv (.t 0)))⟩, ⟨(some 9), none, (.q (.len (.t 8) false))⟩, ⟨(some 10), none, (.q (.mv (.c (.int .i64 0))))⟩] [] [0, 8, 9, 10] []) (.block 0 (.loop B43_0))) R43_0)))
theorem mc43 : ofCode Try.prog [] Try.f43.ntmps [(0, ⟨[0], [], [], 0, [], none⟩),
    (1, ⟨[0, 7], [], [], 0, [], none⟩),
    (2, ⟨[2], [], [], 0, [], none⟩),
    (3, ⟨[0, 8, 9, 10], [], [], 0, [], none⟩),
    (4, ⟨[0, 8, 9, 10, 11], [], [], 0, [], none⟩),
    (5, ⟨[0, 3, 4, 8, 9, 10], [4], [], 0, [], none⟩),
    (6, ⟨[0, 3, 4, 8, 9, 10, 28], [4, 1017], [], 0, [], none⟩),
    (7, ⟨[2], [], [], 0, [], none⟩),
    (8, ⟨[0, 8, 9, 10, 41], [], [(0, 8191), (1, 8190), (2, 8188), (3, 6600), (4, 6640), (5, 6624), (6, 6592), (7, 6528), (8, 6400), (9, 7680), (10, 7168), (11, 6144), (12, 4096)], 8191, [], none⟩),
    (9, ⟨[2], [], [], 0, [], none⟩),
    (10, ⟨[0, 8, 9, 10], [], [], 0, [], none⟩),
    (11, ⟨[2], [], [], 0, [], none⟩)] (Try.f43.body.getD .skip) = some M43 := by kernel_rfl
theorem Run43 {args : List PV} {v : AV} {rs : List (Nat × List PV)} (ids : List Bool) (h : args.length ≤ 43) (hv : run Try.prog (retK [RV.tmp 2] ids v rs) M43 [] ⟨entry 0 args, []⟩) : Fn Try.prog 43 args v rs :=
  Fn_run ids (by kernel_rfl) Try.func43 (by decide) rfl mc43 (by kernel_rfl) (by rw [Try.ntmps43]; exact h) (by rw [Try.ntmps43]; decide) hv

/-- 'trystref13.May' -/
def B44_0 : MC := (.seq (.seq (.reg [⟨(some 4), none, (.q (.mv (.t 3)))⟩, ⟨(some 5), none, (.q (.mv (.t 0)))⟩, ⟨(some 6), none, (.q (.len (.t 5) false))⟩, ⟨(some 7), none, (.q (.bin .lss (.t 4)
  (.t 6)))⟩] [] [0, 3, 7] []) (.cond (.t 7) .skip (.exit 0))) (.seq (.block 1 (.seq (.reg [⟨(some 10), none, (.q (.mv (.t 0)))⟩, ⟨(some 11), none, (.q (.mv (.t 3)))⟩, ⟨(some 12), none,
  (.q (.ia (.t 10) (.t 11) 3))⟩, ⟨(some 13), none, (.q (.fa (.t 12) 0))⟩, ⟨(some 14), none, (.q (.ld (.t 13) 1 false))⟩, ⟨(some 15), none, (.call (.f 46) [(.t 14)])⟩, ⟨(some 16), none,
  (.q (.not (.t 15)))⟩, ⟨(some 17), none, (.q (.mv (.t 16)))⟩, ⟨(some 18), (some (17, false)), (.q (.mv (.t 0)))⟩, ⟨(some 19), (some (17, false)), (.q (.mv (.t 3)))⟩, ⟨(some 20), (some (17, false)),
  (.q (.ia (.t 18) (.t 19) 3))⟩, ⟨(some 21), (some (17, false)), (.q (.fa (.t 20) 1))⟩, ⟨(some 22), (some (17, false)), (.q (.ld (.t 21) 1 false))⟩, ⟨(some 23), (some (17, false)),
  (.q (.bin .eql (.t 22) (.c (.int .u64 0))))⟩, ⟨(some 24), none, (.q (.pick (.t 17) (.c (.bool true)) (.t 23)))⟩, ⟨(some 25), none, (.q (.mv (.t 24)))⟩, ⟨(some 26), (some (25, false)),
  (.q (.mv (.t 0)))⟩, ⟨(some 27), (some (25, false)), (.q (.mv (.t 3)))⟩, ⟨(some 28), (some (25, false)), (.q (.ia (.t 26) (.t 27) 3))⟩, ⟨(some 29), (some (25, false)), (.q (.fa (.t 28) 2))⟩,
  ⟨(some 30), (some (25, false)), (.q (.ld (.t 29) 1 false))⟩, ⟨(some 31), (some (25, false)), (.q (.bin .lss (.t 30) (.c (.int .i64 0))))⟩, ⟨(some 32), none, (.q (.pick (.t 25) (.c (.bool true))
  (.t 31)))⟩, ⟨(some 33), none, (.q (.mv (.t 32)))⟩, ⟨(some 34), (some (33, false)), (.q (.mv (.t 3)))⟩, ⟨(some 35), (some (33, false)), (.q (.bin .gtr (.t 34) (.c (.int .i64 0))))⟩, ⟨(some 36),
  (some (33, false)), (.q (.mv (.t 35)))⟩, ⟨(some 37), (some (36, true)), (.q (.mv (.t 0)))⟩, ⟨(some 38), (some (36, true)), (.q (.mv (.t 3)))⟩, ⟨(some 39), (some (36, true)), (.q (.bin .sub (.t 38)
  (.c (.int .i64 1))))⟩, ⟨(some 40), (some (36, true)), (.q (.ia (.t 37) (.t 39) 3))⟩, ⟨(some 41), (some (36, true)), (.q (.fa (.t 40) 0))⟩, ⟨(some 42), (some (36, true)), (.q (.ld (.t 41) 1 false))⟩,
  ⟨(some 43), (some (36, true)), (.q (.mv (.t 0)))⟩, ⟨(some 44), (some (36, true)), (.q (.mv (.t 3)))⟩, ⟨(some 45), (some (36, true)), (.q (.ia (.t 43) (.t 44) 3))⟩, ⟨(some 46), (some (36, true)),
  (.q (.fa (.t 45) 0))⟩, ⟨(some 47), (some (36, true)), (.q (.ld (.t 46) 1 false))⟩, ⟨(some 48), (some (36, true)), (.q (.bin .geq (.t 42) (.t 47)))⟩, ⟨(some 49), (some (33, false)),
  (.q (.pick (.t 36) (.t 48) (.c (.bool false))))⟩, ⟨(some 50), none, (.q (.pick (.t 33) (.c (.bool true)) (.t 49)))⟩] [] [0, 3, 50] [1015]) (.cond (.t 50) (.seq (.reg [⟨(some 2), none,
  (.q (.mv (.c (.bool false))))⟩] [] [2] []) .ret) .skip))) (.reg [⟨(some 8), none, (.q (.mv (.t 3)))⟩, ⟨(some 9), none, (.q (.bin .add (.t 8) (.c (.int .i64 1))))⟩, ⟨(some 3), none,
  (.q (.mv (.t 9)))⟩] [] [0, 3] [])))
def R44_0 : MC := (.seq (.reg [⟨(some 51), none, (.q (.mv (.t 0)))⟩, ⟨(some 52), none, (.q (.len (.t 51) false))⟩, ⟨(some 53), none, (.q (.bin .leq (.t 52) (.c (.int .i64 50))))⟩, ⟨(some 2), none,
  (.q (.mv (.t 53)))⟩] [] [2] []) .ret)
def M44 : MC := (.seq (.reg [⟨(some 2), none, (.q (.mv (.c (.bool false))))⟩] [] [0] []) (.seq (.seq (.reg [⟨(some 3), none, (.q (.mv (.c (.int .i64 0))))⟩] [] [0, 3] []) (.block 0 (.loop B44_0)))
  R44_0))
theorem mc44 : ofCode Try.prog [] Try.f44.ntmps [(0, ⟨[0], [], [], 0, [], none⟩),
    (1, ⟨[0, 3], [], [], 0, [], none⟩),
    (2, ⟨[0, 3, 7], [], [], 0, [], none⟩),
    (3, ⟨[0, 3], [], [], 0, [], none⟩),
    (4, ⟨[0, 3, 50], [1015], [(0, 2199023255549), (1, 2199023255550), (2, 2199023255548), (3, 2199023255544), (4, 2199023255536), (5, 0), (6, 2199023255488), (7, 2199023255424), (8, 2199023254784), (9, 2199023255040), (10, 2199023254528), (11, 2199023253504), (12, 2199023251456), (13, 2199023247360), (14, 2199023239168), (15, 2199023222784), (16, 2199023058944), (17, 2199023124480), (18, 2199022993408), (19, 2199022731264), (20, 2199022206976), (21, 2199021158400), (22, 2199019061248), (23, 2199014866944), (24, 2199006478336), (25, 2198989701120), (26, 2198956146688), (27, 1931795759104), (28, 1932466847744), (29, 1932198412288), (30, 1931661541376), (31, 1930587799552), (32, 1928440315904), (33, 2173253451776), (34, 2181843386368), (35, 2164663517184), (36, 2130303778816), (37, 2061584302080), (38, 1924145348608), (39, 1649267441664), (40, 1099511627776)], 2199023255551, [], none⟩),
    (5, ⟨[2], [], [], 0, [], none⟩),
    (6, ⟨[2], [], [], 0, [], none⟩)] (Try.f44.body.getD .skip) = some M44 := by kernel_rfl
theorem Run44 {args : List PV} {v : AV} {rs : List (Nat × List PV)} (ids : List Bool) (h : args.length ≤ 54) (hv : run Try.prog (retK [RV.tmp 2] ids v rs) M44 [] ⟨entry 0 args, []⟩) : Fn Try.prog 44 args v rs :=
  Fn_run ids (by kernel_rfl) Try.func44 (by decide) rfl mc44 (by kernel_rfl) (by rw [Try.ntmps44]; exact h) (by rw [Try.ntmps44]; decide) hv

/-- 'dedup.Ask' -/
def M36 : MC := (.seq (.reg [⟨(some 6), none, (.q (.mv (.c (.int .i64 0))))⟩, ⟨(some 7), none, (.q (.mv (.c (.int .i64 0))))⟩] [] [0, 1, 2] []) (.seq (.seq (.reg [⟨(some 10), none, (.q (.mv (.t 0)))⟩,
  ⟨(some 11), none, (.call (.f 43) [(.t 10)])⟩, ⟨(some 12), none, (.q (.bin .neq (.t 11) (.c (.int .i64 0))))⟩, ⟨(some 13), none, (.q (.mv (.t 12)))⟩, ⟨(some 14), (some (13, false)),
  (.q (.mv (.t 1)))⟩, ⟨(some 15), (some (13, false)), (.call (.f 81) [(.t 14)])⟩, ⟨(some 16), (some (13, false)), (.q (.not (.t 15)))⟩, ⟨(some 17), none, (.q (.pick (.t 13) (.c (.bool true))
  (.t 16)))⟩, ⟨(some 18), none, (.q (.mv (.t 17)))⟩, ⟨(some 19), (some (18, false)), (.q (.mv (.t 2)))⟩, ⟨(some 20), (some (18, false)), (.q (.bin .lss (.t 19) (.c (.int .u64 1))))⟩, ⟨(some 21), none,
  (.q (.pick (.t 18) (.c (.bool true)) (.t 20)))⟩] [] [0, 1, 2, 21] [1011, 1015]) (.cond (.t 21) (.seq (.reg [⟨(some 6), none, (.q (.mv (.c (.int .i64 0))))⟩, ⟨(some 7), none,
  (.q (.mv (.c (.int .i64 1))))⟩] [] [6, 7] [1025]) .ret) .skip)) (.seq (.reg [⟨(some 23), none, (.q (.mv (.t 0)))⟩, ⟨(some 24), none, (.q (.mv (.t 1)))⟩, ⟨(some 25), none, (.call (.f 40) [(.t 23),
  (.t 24)])⟩, ⟨(some 22), none, (.q (.mv (.t 25)))⟩, ⟨(some 26), none, (.q (.ext (.t 22) 0))⟩, ⟨(some 27), none, (.q (.ext (.t 22) 1))⟩, ⟨(some 8), none, (.alloc [(.pv (.sc (.string ⟨#[]⟩))),
  (.pv (.sc (.int .u64 0))), (.pv (.sc (.int .i64 0)))])⟩, ⟨none, none, (.st (.t 8) (.t 26) 3)⟩, ⟨(some 9), none, (.q (.mv (.t 27)))⟩] [] [2, 8, 9] [8, 1025]) (.seq (.block 0 (.seq (.reg [⟨(some 29),
  none, (.q (.mv (.t 9)))⟩, ⟨(some 30), none, (.q (.mv (.t 29)))⟩, ⟨(some 31), (some (30, true)), (.q (.mv (.t 2)))⟩, ⟨(some 32), (some (30, true)), (.q (.fa (.t 8) 1))⟩, ⟨(some 33), (some (30,
  true)), (.q (.ld (.t 32) 1 false))⟩, ⟨(some 34), (some (30, true)), (.q (.bin .eql (.t 31) (.t 33)))⟩, ⟨(some 35), none, (.q (.pick (.t 30) (.t 34) (.c (.bool false))))⟩, ⟨(some 28), none,
  (.q (.mv (.t 35)))⟩] [] [2, 8, 9, 28] [8, 1025]) (.cond (.t 28) (.seq (.reg [⟨(some 36), none, (.q (.fa (.t 8) 2))⟩, ⟨(some 37), none, (.q (.ld (.t 36) 1 false))⟩, ⟨(some 6), none,
  (.q (.mv (.t 37)))⟩, ⟨(some 7), none, (.q (.mv (.c (.int .i64 5))))⟩] [] [6, 7] [1025]) .ret) (.seq (.reg [⟨(some 39), none, (.q (.mv (.t 9)))⟩, ⟨(some 40), none, (.q (.mv (.t 39)))⟩, ⟨(some 41),
  (some (40, true)), (.q (.mv (.t 2)))⟩, ⟨(some 42), (some (40, true)), (.q (.fa (.t 8) 1))⟩, ⟨(some 43), (some (40, true)), (.q (.ld (.t 42) 1 false))⟩, ⟨(some 44), (some (40, true)),
  (.q (.bin .lss (.t 41) (.t 43)))⟩, ⟨(some 45), none, (.q (.pick (.t 40) (.t 44) (.c (.bool false))))⟩, ⟨(some 38), none, (.q (.mv (.t 45)))⟩] [] [2, 8, 38] [8, 1025]) (.cond (.t 38)
  (.seq (.reg [⟨(some 6), none, (.q (.mv (.c (.int .i64 0))))⟩, ⟨(some 7), none, (.q (.mv (.c (.int .i64 8))))⟩] [] [6, 7] [1025]) .ret) (.seq (.reg [⟨(some 47), none, (.q (.mv (.t 2)))⟩, ⟨(some 48),
  none, (.q (.bin .sub (.t 47) (.c (.int .u64 1))))⟩, ⟨(some 49), none, (.q (.fa (.t 8) 1))⟩, ⟨(some 50), none, (.q (.ld (.t 49) 1 false))⟩, ⟨(some 51), none, (.q (.bin .eql (.t 48) (.t 50)))⟩,
  ⟨(some 46), none, (.q (.mv (.t 51)))⟩] [] [46] [1025]) (.cond (.t 46) (.seq (.reg [⟨(some 6), none, (.q (.mv (.c (.int .i64 0))))⟩, ⟨(some 7), none, (.q (.mv (.c (.int .i64 0))))⟩] [] [6, 7] [1025])
  .ret) .skip))))))) (.seq (.reg [⟨(some 6), none, (.q (.mv (.c (.int .i64 0))))⟩, ⟨(some 7), none, (.q (.mv (.c (.int .i64 9))))⟩] [] [6, 7] [1025]) .ret)))))
theorem mc36 : ofCode Try.prog [] Try.f36.ntmps [(0, ⟨[0, 1, 2], [], [], 0, [], none⟩),
    (1, ⟨[0, 1, 2, 21], [1011, 1015], [], 0, [], none⟩),
    (2, ⟨[6, 7], [1025], [], 0, [], none⟩),
    (3, ⟨[2, 8, 9], [8, 1025], [], 0, [], none⟩),
    (4, ⟨[2, 8, 9, 28], [8, 1025], [], 0, [], none⟩),
    (5, ⟨[6, 7], [1025], [], 0, [], none⟩),
    (6, ⟨[2, 8, 38], [8, 1025], [], 0, [], none⟩),
    (7, ⟨[6, 7], [1025], [], 0, [], none⟩),
    (8, ⟨[46], [1025], [], 0, [], none⟩),
    (9, ⟨[6, 7], [1025], [], 0, [], none⟩),
    (10, ⟨[6, 7], [1025], [], 0, [], none⟩)] (Try.f36.body.getD .skip) = some M36 := by kernel_rfl
theorem Run36 {args : List PV} {v : AV} {rs : List (Nat × List PV)} (ids : List Bool) (h : args.length ≤ 52) (hv : run Try.prog (retK [RV.tmp 6, RV.tmp 7] ids v rs) M36 [] ⟨entry 0 args, []⟩) : Fn Try.prog 36 args v rs :=
  Fn_run ids (by kernel_rfl) Try.func36 (by decide) rfl mc36 (by kernel_rfl) (by rw [Try.ntmps36]; exact h) (by rw [Try.ntmps36]; decide) hv

/-- 'trystref13.Ask' -/
def M37 : MC := (.seq (.reg [⟨(some 6), none, (.q (.mv (.c (.int .i64 0))))⟩, ⟨(some 7), none, (.q (.mv (.c (.int .i64 0))))⟩] [] [0, 1, 2] []) (.seq (.seq (.reg [⟨(some 10), none, (.q (.mv (.t 0)))⟩,
  ⟨(some 11), none, (.call (.f 44) [(.t 10)])⟩, ⟨(some 12), none, (.q (.not (.t 11)))⟩, ⟨(some 13), none, (.q (.mv (.t 12)))⟩, ⟨(some 14), (some (13, false)), (.q (.mv (.t 1)))⟩, ⟨(some 15),
  (some (13, false)), (.call (.f 46) [(.t 14)])⟩, ⟨(some 16), (some (13, false)), (.q (.not (.t 15)))⟩, ⟨(some 17), none, (.q (.pick (.t 13) (.c (.bool true)) (.t 16)))⟩, ⟨(some 18), none,
  (.q (.mv (.t 17)))⟩, ⟨(some 19), (some (18, false)), (.q (.mv (.t 2)))⟩, ⟨(some 20), (some (18, false)), (.q (.bin .eql (.t 19) (.c (.int .u64 0))))⟩, ⟨(some 21), none, (.q (.pick (.t 18)
  (.c (.bool true)) (.t 20)))⟩] [] [0, 1, 2, 21] [1011, 1015]) (.cond (.t 21) (.seq (.reg [⟨(some 6), none, (.q (.mv (.c (.int .i64 0))))⟩, ⟨(some 7), none, (.q (.mv (.c (.int .i64 1))))⟩] [] [6,
  7] [1025]) .ret) .skip)) (.seq (.reg [⟨(some 23), none, (.q (.mv (.t 0)))⟩, ⟨(some 24), none, (.q (.mv (.t 1)))⟩, ⟨(some 25), none, (.call (.f 41) [(.t 23), (.t 24)])⟩, ⟨(some 22), none,
  (.q (.mv (.t 25)))⟩, ⟨(some 26), none, (.q (.ext (.t 22) 0))⟩, ⟨(some 27), none, (.q (.ext (.t 22) 1))⟩, ⟨(some 8), none, (.alloc [(.pv (.sc (.string ⟨#[]⟩))), (.pv (.sc (.int .u64 0))),
  (.pv (.sc (.int .i64 0)))])⟩, ⟨none, none, (.st (.t 8) (.t 26) 3)⟩, ⟨(some 9), none, (.q (.mv (.t 27)))⟩] [] [2, 8, 9] [8, 1025]) (.seq (.seq (.reg [⟨(some 28), none, (.q (.mv (.t 9)))⟩, ⟨(some 29),
  none, (.q (.not (.t 28)))⟩] [] [2, 8, 29] [8, 1025]) (.cond (.t 29) (.seq (.seq (.reg [⟨(some 30), none, (.q (.mv (.t 2)))⟩, ⟨(some 31), none, (.q (.bin .eql (.t 30)
  (.c (.int .u64 1))))⟩] [] [31] []) (.cond (.t 31) (.seq (.reg [⟨(some 6), none, (.q (.mv (.c (.int .i64 0))))⟩, ⟨(some 7), none, (.q (.mv (.c (.int .i64 0))))⟩] [] [6, 7] [1025]) .ret) .skip))
  (.seq (.reg [⟨(some 6), none, (.q (.mv (.c (.int .i64 0))))⟩, ⟨(some 7), none, (.q (.mv (.c (.int .i64 9))))⟩] [] [6, 7] [1025]) .ret)) .skip)) (.seq (.seq (.reg [⟨(some 32), none,
  (.q (.mv (.t 2)))⟩, ⟨(some 33), none, (.q (.fa (.t 8) 1))⟩, ⟨(some 34), none, (.q (.ld (.t 33) 1 false))⟩, ⟨(some 35), none, (.q (.bin .eql (.t 32) (.t 34)))⟩] [] [2, 8, 35] [8, 1025])
  (.cond (.t 35) (.seq (.reg [⟨(some 36), none, (.q (.fa (.t 8) 2))⟩, ⟨(some 37), none, (.q (.ld (.t 36) 1 false))⟩, ⟨(some 6), none, (.q (.mv (.t 37)))⟩, ⟨(some 7), none,
  (.q (.mv (.c (.int .i64 5))))⟩] [] [6, 7] [1025]) .ret) .skip)) (.seq (.seq (.reg [⟨(some 38), none, (.q (.mv (.t 2)))⟩, ⟨(some 39), none, (.q (.fa (.t 8) 1))⟩, ⟨(some 40), none, (.q (.ld (.t 39)
  1 false))⟩, ⟨(some 41), none, (.q (.bin .lss (.t 38) (.t 40)))⟩] [] [2, 8, 41] [8, 1025]) (.cond (.t 41) (.seq (.reg [⟨(some 6), none, (.q (.mv (.c (.int .i64 0))))⟩, ⟨(some 7), none,
  (.q (.mv (.c (.int .i64 8))))⟩] [] [6, 7] [1025]) .ret) .skip)) (.seq (.seq (.reg [⟨(some 42), none, (.q (.mv (.t 2)))⟩, ⟨(some 43), none, (.q (.fa (.t 8) 1))⟩, ⟨(some 44), none, (.q (.ld (.t 43)
  1 false))⟩, ⟨(some 45), none, (.q (.bin .add (.t 44) (.c (.int .u64 1))))⟩, ⟨(some 46), none, (.q (.bin .eql (.t 42) (.t 45)))⟩] [] [46] [1025]) (.cond (.t 46) (.seq (.reg [⟨(some 6), none,
  (.q (.mv (.c (.int .i64 0))))⟩, ⟨(some 7), none, (.q (.mv (.c (.int .i64 0))))⟩] [] [6, 7] [1025]) .ret) .skip)) (.seq (.reg [⟨(some 6), none, (.q (.mv (.c (.int .i64 0))))⟩, ⟨(some 7), none,
  (.q (.mv (.c (.int .i64 9))))⟩] [] [6, 7] [1025]) .ret))))))))
theorem mc37 : ofCode Try.prog [] Try.f37.ntmps [(0, ⟨[0, 1, 2], [], [], 0, [], none⟩),
    (1, ⟨[0, 1, 2, 21], [1011, 1015], [], 0, [], none⟩),
    (2, ⟨[6, 7], [1025], [], 0, [], none⟩),
    (3, ⟨[2, 8, 9], [8, 1025], [], 0, [], none⟩),
    (4, ⟨[2, 8, 29], [8, 1025], [], 0, [], none⟩),
    (5, ⟨[31], [], [], 0, [], none⟩),
    (6, ⟨[6, 7], [1025], [], 0, [], none⟩),
    (7, ⟨[6, 7], [1025], [], 0, [], none⟩),
    (8, ⟨[2, 8, 35], [8, 1025], [], 0, [], none⟩),
    (9, ⟨[6, 7], [1025], [], 0, [], none⟩),
    (10, ⟨[2, 8, 41], [8, 1025], [], 0, [], none⟩),
    (11, ⟨[6, 7], [1025], [], 0, [], none⟩),
    (12, ⟨[46], [1025], [], 0, [], none⟩),
    (13, ⟨[6, 7], [1025], [], 0, [], none⟩),
    (14, ⟨[6, 7], [1025], [], 0, [], none⟩)] (Try.f37.body.getD .skip) = some M37 := by kernel_rfl
theorem Run37 {args : List PV} {v : AV} {rs : List (Nat × List PV)} (ids : List Bool) (h : args.length ≤ 47) (hv : run Try.prog (retK [RV.tmp 6, RV.tmp 7] ids v rs) M37 [] ⟨entry 0 args, []⟩) : Fn Try.prog 37 args v rs :=
  Fn_run ids (by kernel_rfl) Try.func37 (by decide) rfl mc37 (by kernel_rfl) (by rw [Try.ntmps37]; exact h) (by rw [Try.ntmps37]; decide) hv

/-- 'trystlaw13.Few' -/
def B34_0 : MC := (.seq (.seq (.reg [⟨(some 6), none, (.q (.mv (.t 4)))⟩, ⟨(some 7), none, (.q (.mv (.t 0)))⟩, ⟨(some 8), none, (.q (.len (.t 7) false))⟩, ⟨(some 9), none, (.q (.bin .lss (.t 6)
  (.t 8)))⟩, ⟨(some 10), none, (.q (.mv (.t 9)))⟩, ⟨(some 11), (some (10, true)), (.q (.mv (.t 4)))⟩, ⟨(some 12), (some (10, true)), (.q (.bin .lss (.t 11) (.c (.int .i64 51))))⟩, ⟨(some 13), none,
  (.q (.pick (.t 10) (.t 12) (.c (.bool false))))⟩] [] [0, 3, 4, 13] [27, 2003]) (.cond (.t 13) .skip (.exit 0))) (.seq (.block 1 (.seq (.reg [⟨(some 16), none, (.q (.mv (.t 0)))⟩, ⟨(some 17), none,
  (.q (.mv (.t 4)))⟩, ⟨(some 18), none, (.q (.ia (.t 16) (.t 17) 3))⟩, ⟨(some 19), none, (.q (.ld (.t 18) 3 true))⟩, ⟨(some 5), none, (.alloc [(.pv (.sc (.string ⟨#[]⟩))), (.pv (.sc (.int .u64 0))),
  (.pv (.sc (.int .i64 0)))])⟩, ⟨none, none, (.st (.t 5) (.t 19) 3)⟩] [] [0, 3, 4, 5] [5, 27, 1022, 2003]) (.seq (.reg [⟨(some 20), none, (.q (.fa (.t 5) 0))⟩, ⟨(some 21), none, (.q (.ld (.t 20)
  1 false))⟩, ⟨(some 22), none, (.call (.f 35) [(.t 21)])⟩, ⟨(some 23), none, (.q (.fa (.t 5) 0))⟩, ⟨none, none, (.st (.t 23) (.t 22) 1)⟩] [] [0, 3, 4, 5] [5, 27, 1022, 2003]) (.reg [⟨(some 24), none,
  (.q (.mv (.t 3)))⟩, ⟨(some 25), none, (.q (.ld (.t 5) 3 true))⟩, ⟨(some 26), none, (.lits [(.t 25)] 3)⟩, ⟨(some 27), none, (.app (.t 24) (.t 26) 3 32)⟩, ⟨(some 3), none, (.q (.mv (.t 27)))⟩] [] [0,
  3, 4] [27, 2003])))) (.reg [⟨(some 14), none, (.q (.mv (.t 4)))⟩, ⟨(some 15), none, (.q (.bin .add (.t 14) (.c (.int .i64 1))))⟩, ⟨(some 4), none, (.q (.mv (.t 15)))⟩] [] [0, 3, 4] [27, 2003])))
def R34_0 : MC := (.seq (.reg [⟨(some 28), none, (.q (.mv (.t 3)))⟩, ⟨(some 2), none, (.q (.mv (.t 28)))⟩] [] [2] [27, 2003]) .ret)
def M34 : MC := (.seq (.reg [⟨(some 2), none, (.q (.mv .nil))⟩] [] [0] []) (.seq (.reg [⟨(some 3), none, (.q (.mv .nil))⟩] [(3, 2003, 3)] [0, 3] [27, 2003]) (.seq (.seq (.reg [⟨(some 4), none,
  (.q (.mv (.c (.int .i64 0))))⟩] [] [0, 3, 4] [27, 2003]) (.block 0 (.loop B34_0))) R34_0)))
theorem mc34 : ofCode Try.prog [] Try.f34.ntmps [(0, ⟨[0], [], [], 0, [], none⟩),
    (1, ⟨[0, 3], [27, 2003], [], 0, [(3, 2003, 3)], none⟩),
    (2, ⟨[0, 3, 4], [27, 2003], [], 0, [], none⟩),
    (3, ⟨[0, 3, 4, 13], [27, 2003], [], 0, [], none⟩),
    (4, ⟨[0, 3, 4], [27, 2003], [], 0, [], none⟩),
    (5, ⟨[0, 3, 4, 5], [5, 27, 1022, 2003], [], 0, [], none⟩),
    (6, ⟨[0, 3, 4, 5], [5, 27, 1022, 2003], [], 0, [], none⟩),
    (7, ⟨[0, 3, 4], [27, 2003], [], 0, [], none⟩),
    (8, ⟨[2], [27, 2003], [], 0, [], none⟩)] (Try.f34.body.getD .skip) = some M34 := by kernel_rfl
theorem Run34 {args : List PV} {v : AV} {rs : List (Nat × List PV)} (ids : List Bool) (h : args.length ≤ 29) (hv : run Try.prog (retK [RV.tmp 2] ids v rs) M34 [] ⟨entry 0 args, []⟩) : Fn Try.prog 34 args v rs :=
  Fn_run ids (by kernel_rfl) Try.func34 (by decide) rfl mc34 (by kernel_rfl) (by rw [Try.ntmps34]; exact h) (by rw [Try.ntmps34]; decide) hv

/-- 'dedup.Take' -/
def B38_0 : MC := (.seq (.seq (.reg [⟨(some 41), none, (.q (.mv (.t 8)))⟩, ⟨(some 42), none, (.q (.mv (.t 0)))⟩, ⟨(some 43), none, (.q (.len (.t 42) false))⟩, ⟨(some 44), none, (.q (.bin .lss (.t 41)
  (.t 43)))⟩, ⟨(some 45), none, (.q (.mv (.t 44)))⟩, ⟨(some 46), (some (45, true)), (.q (.mv (.t 0)))⟩, ⟨(some 47), (some (45, true)), (.q (.mv (.t 8)))⟩, ⟨(some 48), (some (45, true)),
  (.q (.ia (.t 46) (.t 47) 3))⟩, ⟨(some 49), (some (45, true)), (.q (.fa (.t 48) 0))⟩, ⟨(some 50), (some (45, true)), (.q (.ld (.t 49) 1 false))⟩, ⟨(some 51), (some (45, true)), (.q (.fa (.t 3) 0))⟩,
  ⟨(some 52), (some (45, true)), (.q (.ld (.t 51) 1 false))⟩, ⟨(some 53), (some (45, true)), (.q (.bin .lss (.t 50) (.t 52)))⟩, ⟨(some 54), none, (.q (.pick (.t 45) (.t 53)
  (.c (.bool false))))⟩] [] [0, 3, 8, 54] [3, 1028, 1062]) (.cond (.t 54) .skip (.exit 0))) (.block 1 (.reg [⟨(some 55), none, (.q (.mv (.t 8)))⟩, ⟨(some 56), none, (.q (.bin .add (.t 55)
  (.c (.int .i64 1))))⟩, ⟨(some 8), none, (.q (.mv (.t 56)))⟩] [] [0, 3, 8] [3, 1028, 1062])))
def R38_0 : MC := (.seq (.seq (.grp [1058] [⟨57, none, (.q (.mv (.t 0))), [0], []⟩, ⟨58, none, (.call (.f 83) [(.t 57)]), [57], []⟩, ⟨59, none, (.q (.mv (.t 8))), [8], [1028, 1062]⟩, ⟨60, none,
  (.q (.ld (.t 3) 3 true)), [3], [3]⟩, ⟨61, none, (.lits [(.t 60)] 3), [60], []⟩] [4, 5, 58, 59, 61, 62] [1016, 1028, 1032, 1058, 1062]) (.reg [⟨(some 62), none, (.calls (.f 84) [(.t 58), (.t 59),
  (.t 61)])⟩, ⟨(some 4), none, (.q (.mv (.t 62)))⟩, ⟨(some 5), none, (.q (.mv (.c (.int .i64 0))))⟩] [] [4, 5] [1016, 1028, 1032, 1058, 1062])) .ret)
def M38 : MC := (.seq (.reg [⟨(some 3), none, (.box (.t 1))⟩, ⟨(some 4), none, (.q (.mv .nil))⟩, ⟨(some 5), none, (.q (.mv (.c (.int .i64 0))))⟩] [] [0, 3] [3]) (.seq (.seq (.reg [⟨(some 11), none,
  (.q (.mv (.t 0)))⟩, ⟨(some 12), none, (.q (.fa (.t 3) 0))⟩, ⟨(some 13), none, (.q (.ld (.t 12) 1 false))⟩, ⟨(some 14), none, (.q (.fa (.t 3) 1))⟩, ⟨(some 15), none, (.q (.ld (.t 14) 1 false))⟩,
  ⟨(some 16), none, (.call (.f 36) [(.t 11), (.t 13), (.t 15)])⟩, ⟨(some 10), none, (.q (.mv (.t 16)))⟩, ⟨(some 17), none, (.q (.ext (.t 10) 0))⟩, ⟨(some 18), none, (.q (.ext (.t 10) 1))⟩, ⟨(some 6),
  none, (.q (.mv (.t 17)))⟩, ⟨(some 7), none, (.q (.mv (.t 18)))⟩] [] [0, 3, 7] [3, 1016]) (.seq (.reg [⟨(some 19), none, (.q (.mv (.t 7)))⟩, ⟨(some 20), none, (.q (.bin .neq (.t 19)
  (.c (.int .i64 0))))⟩] [] [0, 3, 7, 20] [3, 1016]) (.cond (.t 20) (.seq (.reg [⟨(some 21), none, (.q (.mv (.t 7)))⟩, ⟨(some 4), none, (.q (.mv .nil))⟩, ⟨(some 5), none, (.q (.mv (.t 21)))⟩] [] [4,
  5] [1016, 1028, 1032, 1058, 1062]) .ret) .skip))) (.seq (.seq (.reg [⟨(some 22), none, (.q (.fa (.t 3) 2))⟩, ⟨(some 23), none, (.q (.ld (.t 22) 1 false))⟩, ⟨(some 24), none, (.q (.bin .lss (.t 23)
  (.c (.int .i64 0))))⟩] [] [0, 3, 24] [3]) (.cond (.t 24) (.seq (.reg [⟨(some 4), none, (.q (.mv .nil))⟩, ⟨(some 5), none, (.q (.mv (.c (.int .i64 1))))⟩] [] [4, 5] [1016, 1028, 1032, 1058, 1062])
  .ret) .skip)) (.seq (.reg [⟨(some 25), none, (.q (.mv (.t 0)))⟩, ⟨(some 26), none, (.q (.fa (.t 3) 0))⟩, ⟨(some 27), none, (.q (.ld (.t 26) 1 false))⟩, ⟨(some 28), none, (.call (.f 82) [(.t 25),
  (.t 27)])⟩, ⟨(some 8), none, (.q (.mv (.t 28)))⟩] [] [0, 3, 8] [3, 1028, 1062]) (.seq (.seq (.reg [⟨(some 29), none, (.q (.mv (.t 8)))⟩, ⟨(some 30), none, (.q (.bin .geq (.t 29)
  (.c (.int .i64 0))))⟩] [] [0, 3, 8, 30] [3, 1028, 1062]) (.cond (.t 30) (.seq (.reg [⟨(some 31), none, (.q (.mv (.t 0)))⟩, ⟨(some 32), none, (.call (.f 83) [(.t 31)])⟩, ⟨(some 9), none,
  (.q (.mv (.t 32)))⟩] [] [3, 8, 9] [3, 1028, 1032, 1062]) (.seq (.reg [⟨(some 33), none, (.q (.mv (.t 9)))⟩, ⟨(some 34), none, (.q (.mv (.t 8)))⟩, ⟨(some 35), none, (.q (.ld (.t 3) 3 true))⟩,
  ⟨(some 36), none, (.q (.ia (.t 33) (.t 34) 3))⟩, ⟨none, none, (.st (.t 36) (.t 35) 3)⟩] [] [9] [1032]) (.seq (.reg [⟨(some 37), none, (.q (.mv (.t 9)))⟩, ⟨(some 4), none, (.q (.mv (.t 37)))⟩,
  ⟨(some 5), none, (.q (.mv (.c (.int .i64 0))))⟩] [] [4, 5] [1016, 1028, 1032, 1058, 1062]) .ret))) .skip)) (.seq (.seq (.reg [⟨(some 38), none, (.q (.mv (.t 0)))⟩, ⟨(some 39), none,
  (.q (.len (.t 38) false))⟩, ⟨(some 40), none, (.q (.bin .geq (.t 39) (.c (.int .i64 50))))⟩] [] [0, 3, 40] [3]) (.cond (.t 40) (.seq (.reg [⟨(some 4), none, (.q (.mv .nil))⟩, ⟨(some 5), none,
  (.q (.mv (.c (.int .i64 6))))⟩] [] [4, 5] [1016, 1028, 1032, 1058, 1062]) .ret) .skip)) (.seq (.reg [⟨(some 8), none, (.q (.mv (.c (.int .i64 0))))⟩] [] [0, 3, 8] [3, 1028, 1062])
  (.seq (.block 0 (.loop B38_0)) R38_0))))))))
theorem mc38 : ofCode Try.prog [62] Try.f38.ntmps [(0, ⟨[0, 3], [3], [], 0, [], none⟩),
    (1, ⟨[0, 3, 7], [3, 1016], [], 0, [], none⟩),
    (2, ⟨[0, 3, 7, 20], [3, 1016], [], 0, [], none⟩),
    (3, ⟨[4, 5], [1016, 1028, 1032, 1058, 1062], [], 0, [], none⟩),
    (4, ⟨[0, 3, 24], [3], [], 0, [], none⟩),
    (5, ⟨[4, 5], [1016, 1028, 1032, 1058, 1062], [], 0, [], none⟩),
    (6, ⟨[0, 3, 8], [3, 1028, 1062], [], 0, [], none⟩),
    (7, ⟨[0, 3, 8, 30], [3, 1028, 1062], [], 0, [], none⟩),
    (8, ⟨[3, 8, 9], [3, 1028, 1032, 1062], [], 0, [], none⟩),
    (9, ⟨[9], [1032], [], 0, [], none⟩),
    (10, ⟨[4, 5], [1016, 1028, 1032, 1058, 1062], [], 0, [], none⟩),
    (11, ⟨[0, 3, 40], [3], [], 0, [], none⟩),
    (12, ⟨[4, 5], [1016, 1028, 1032, 1058, 1062], [], 0, [], none⟩),
    (13, ⟨[0, 3, 8], [3, 1028, 1062], [], 0, [], none⟩),
    (14, ⟨[0, 3, 8, 54], [3, 1028, 1062], [(0, 16377), (1, 16382), (2, 16380), (3, 16376), (4, 16368), (5, 13216), (6, 13248), (7, 13184), (8, 13056), (9, 12800), (10, 15360), (11, 14336), (12, 12288), (13, 8192)], 16383, [], none⟩),
    (15, ⟨[0, 3, 8], [3, 1028, 1062], [], 0, [], none⟩),
    (16, ⟨[4, 5], [1016, 1028, 1032, 1058, 1062], [(5, 0), (6, 192), (7, 128)], 223, [], some ⟨[1058], [(0, [0], []), (1, [57], []), (2, [8], [1028, 1062]), (3, [3], [3]), (4, [60], [])], [4, 5, 58, 59, 61, 62], [1016, 1028, 1032, 1058, 1062]⟩⟩)] (Try.f38.body.getD .skip) = some M38 := by kernel_rfl
theorem Run38 {args : List PV} {v : AV} {rs : List (Nat × List PV)} (ids : List Bool) (h : args.length ≤ 63) (hv : run Try.prog (retK [RV.tmp 4, RV.tmp 5] ids v rs) M38 [] ⟨entry 0 args, []⟩) : Fn Try.prog 38 args v rs :=
  Fn_run ids (by kernel_rfl) Try.func38 (by decide) rfl mc38 (by kernel_rfl) (by rw [Try.ntmps38]; exact h) (by rw [Try.ntmps38]; decide) hv

/-- 'trystref13.Take' -/
def B39_0 : MC := (.seq (.seq (.reg [⟨(some 42), none, (.q (.mv (.t 11)))⟩, ⟨(some 43), none, (.q (.mv (.t 0)))⟩, ⟨(some 44), none, (.q (.len (.t 43) false))⟩, ⟨(some 45), none, (.q (.bin .lss (.t 42)
  (.t 44)))⟩] [] [0, 3, 10, 11, 45] [3, 62, 66, 87, 2010]) (.cond (.t 45) .skip (.exit 0))) (.seq (.block 1 (.seq (.reg [⟨(some 48), none, (.q (.mv (.t 0)))⟩, ⟨(some 49), none, (.q (.mv (.t 11)))⟩,
  ⟨(some 50), none, (.q (.ia (.t 48) (.t 49) 3))⟩, ⟨(some 51), none, (.q (.fa (.t 50) 0))⟩, ⟨(some 52), none, (.q (.ld (.t 51) 1 false))⟩, ⟨(some 53), none, (.q (.fa (.t 3) 0))⟩, ⟨(some 54), none,
  (.q (.ld (.t 53) 1 false))⟩, ⟨(some 55), none, (.q (.bin .lss (.t 52) (.t 54)))⟩] [] [0, 3, 10, 11, 55] [3, 62, 66, 87, 2010]) (.cond (.t 55) (.reg [⟨(some 56), none, (.q (.mv (.t 10)))⟩,
  ⟨(some 57), none, (.q (.mv (.t 0)))⟩, ⟨(some 58), none, (.q (.mv (.t 11)))⟩, ⟨(some 59), none, (.q (.ia (.t 57) (.t 58) 3))⟩, ⟨(some 60), none, (.q (.ld (.t 59) 3 true))⟩, ⟨(some 61), none,
  (.lits [(.t 60)] 3)⟩, ⟨(some 62), none, (.app (.t 56) (.t 61) 3 32)⟩, ⟨(some 10), none, (.q (.mv (.t 62)))⟩] [] [0, 3, 10, 11] [3, 62, 66, 87, 2010]) .skip))) (.reg [⟨(some 46), none,
  (.q (.mv (.t 11)))⟩, ⟨(some 47), none, (.q (.bin .add (.t 46) (.c (.int .i64 1))))⟩, ⟨(some 11), none, (.q (.mv (.t 47)))⟩] [] [0, 3, 10, 11] [3, 62, 66, 87, 2010])))
def B39_1 : MC := (.seq (.seq (.reg [⟨(some 67), none, (.q (.mv (.t 12)))⟩, ⟨(some 68), none, (.q (.mv (.t 0)))⟩, ⟨(some 69), none, (.q (.len (.t 68) false))⟩, ⟨(some 70), none, (.q (.bin .lss (.t 67)
  (.t 69)))⟩] [] [0, 3, 10, 12, 70] [3, 62, 66, 87, 2010]) (.cond (.t 70) .skip (.exit 2))) (.seq (.block 3 (.seq (.reg [⟨(some 73), none, (.q (.mv (.t 0)))⟩, ⟨(some 74), none, (.q (.mv (.t 12)))⟩,
  ⟨(some 75), none, (.q (.ia (.t 73) (.t 74) 3))⟩, ⟨(some 76), none, (.q (.fa (.t 75) 0))⟩, ⟨(some 77), none, (.q (.ld (.t 76) 1 false))⟩, ⟨(some 78), none, (.q (.fa (.t 3) 0))⟩, ⟨(some 79), none,
  (.q (.ld (.t 78) 1 false))⟩, ⟨(some 80), none, (.q (.bin .gtr (.t 77) (.t 79)))⟩] [] [0, 3, 10, 12, 80] [3, 62, 66, 87, 2010]) (.cond (.t 80) (.reg [⟨(some 81), none, (.q (.mv (.t 10)))⟩,
  ⟨(some 82), none, (.q (.mv (.t 0)))⟩, ⟨(some 83), none, (.q (.mv (.t 12)))⟩, ⟨(some 84), none, (.q (.ia (.t 82) (.t 83) 3))⟩, ⟨(some 85), none, (.q (.ld (.t 84) 3 true))⟩, ⟨(some 86), none,
  (.lits [(.t 85)] 3)⟩, ⟨(some 87), none, (.app (.t 81) (.t 86) 3 32)⟩, ⟨(some 10), none, (.q (.mv (.t 87)))⟩] [] [0, 3, 10, 12] [3, 62, 66, 87, 2010]) .skip))) (.reg [⟨(some 71), none,
  (.q (.mv (.t 12)))⟩, ⟨(some 72), none, (.q (.bin .add (.t 71) (.c (.int .i64 1))))⟩, ⟨(some 12), none, (.q (.mv (.t 72)))⟩] [] [0, 3, 10, 12] [3, 62, 66, 87, 2010])))
def R39_1 : MC := (.seq (.reg [⟨(some 88), none, (.q (.mv (.t 10)))⟩, ⟨(some 4), none, (.q (.mv (.t 88)))⟩, ⟨(some 5), none, (.q (.mv (.c (.int .i64 0))))⟩] [] [4, 5] [62, 66, 87, 1019, 2010]) .ret)
def R39_0 : MC := (.seq (.reg [⟨(some 63), none, (.q (.mv (.t 10)))⟩, ⟨(some 64), none, (.q (.ld (.t 3) 3 true))⟩, ⟨(some 65), none, (.lits [(.t 64)] 3)⟩, ⟨(some 66), none, (.app (.t 63) (.t 65)
  3 32)⟩, ⟨(some 10), none, (.q (.mv (.t 66)))⟩] [] [0, 3, 10] [3, 62, 66, 87, 2010]) (.seq (.seq (.reg [⟨(some 12), none, (.q (.mv (.c (.int .i64 0))))⟩] [] [0, 3, 10, 12] [3, 62, 66, 87, 2010])
  (.block 2 (.loop B39_1))) R39_1))
def M39 : MC := (.seq (.reg [⟨(some 3), none, (.box (.t 1))⟩, ⟨(some 4), none, (.q (.mv .nil))⟩, ⟨(some 5), none, (.q (.mv (.c (.int .i64 0))))⟩] [] [0, 3] [3]) (.seq (.seq (.reg [⟨(some 14), none,
  (.q (.mv (.t 0)))⟩, ⟨(some 15), none, (.q (.fa (.t 3) 0))⟩, ⟨(some 16), none, (.q (.ld (.t 15) 1 false))⟩, ⟨(some 17), none, (.q (.fa (.t 3) 1))⟩, ⟨(some 18), none, (.q (.ld (.t 17) 1 false))⟩,
  ⟨(some 19), none, (.call (.f 37) [(.t 14), (.t 16), (.t 18)])⟩, ⟨(some 13), none, (.q (.mv (.t 19)))⟩, ⟨(some 20), none, (.q (.ext (.t 13) 0))⟩, ⟨(some 21), none, (.q (.ext (.t 13) 1))⟩, ⟨(some 6),
  none, (.q (.mv (.t 20)))⟩, ⟨(some 7), none, (.q (.mv (.t 21)))⟩] [] [0, 3, 7] [3, 1019]) (.seq (.reg [⟨(some 22), none, (.q (.mv (.t 7)))⟩, ⟨(some 23), none, (.q (.bin .neq (.t 22)
  (.c (.int .i64 0))))⟩] [] [0, 3, 7, 23] [3, 1019]) (.cond (.t 23) (.seq (.reg [⟨(some 24), none, (.q (.mv (.t 7)))⟩, ⟨(some 4), none, (.q (.mv .nil))⟩, ⟨(some 5), none, (.q (.mv (.t 24)))⟩] [] [4,
  5] [62, 66, 87, 1019, 2010]) .ret) .skip))) (.seq (.reg [⟨(some 26), none, (.q (.mv (.t 0)))⟩, ⟨(some 27), none, (.q (.fa (.t 3) 0))⟩, ⟨(some 28), none, (.q (.ld (.t 27) 1 false))⟩, ⟨(some 29),
  none, (.call (.f 41) [(.t 26), (.t 28)])⟩, ⟨(some 25), none, (.q (.mv (.t 29)))⟩, ⟨(some 30), none, (.q (.ext (.t 25) 0))⟩, ⟨(some 31), none, (.q (.ext (.t 25) 1))⟩, ⟨(some 8), none,
  (.alloc [(.pv (.sc (.string ⟨#[]⟩))), (.pv (.sc (.int .u64 0))), (.pv (.sc (.int .i64 0)))])⟩, ⟨none, none, (.st (.t 8) (.t 30) 3)⟩, ⟨(some 9), none, (.q (.mv (.t 31)))⟩] [] [0, 3, 9] [3, 1029])
  (.seq (.seq (.reg [⟨(some 32), none, (.q (.fa (.t 3) 2))⟩, ⟨(some 33), none, (.q (.ld (.t 32) 1 false))⟩, ⟨(some 34), none, (.q (.bin .lss (.t 33) (.c (.int .i64 0))))⟩] [] [0, 3, 9, 34] [3, 1029])
  (.cond (.t 34) (.seq (.reg [⟨(some 4), none, (.q (.mv .nil))⟩, ⟨(some 5), none, (.q (.mv (.c (.int .i64 1))))⟩] [] [4, 5] [62, 66, 87, 1019, 2010]) .ret) .skip)) (.seq (.seq (.reg [⟨(some 35), none,
  (.q (.mv (.t 9)))⟩, ⟨(some 36), none, (.q (.not (.t 35)))⟩, ⟨(some 37), none, (.q (.mv (.t 36)))⟩, ⟨(some 38), (some (37, true)), (.q (.mv (.t 0)))⟩, ⟨(some 39), (some (37, true)), (.q (.len (.t 38)
  false))⟩, ⟨(some 40), (some (37, true)), (.q (.bin .geq (.t 39) (.c (.int .i64 50))))⟩, ⟨(some 41), none, (.q (.pick (.t 37) (.t 40) (.c (.bool false))))⟩] [] [0, 3, 41] [3, 1029]) (.cond (.t 41)
  (.seq (.reg [⟨(some 4), none, (.q (.mv .nil))⟩, ⟨(some 5), none, (.q (.mv (.c (.int .i64 6))))⟩] [] [4, 5] [62, 66, 87, 1019, 2010]) .ret) .skip)) (.seq (.reg [⟨(some 10), none,
  (.q (.mv .nil))⟩] [(10, 2010, 3)] [0, 3, 10] [3, 62, 66, 87, 2010]) (.seq (.seq (.reg [⟨(some 11), none, (.q (.mv (.c (.int .i64 0))))⟩] [] [0, 3, 10, 11] [3, 62, 66, 87, 2010])
  (.block 0 (.loop B39_0))) R39_0)))))))
theorem mc39 : ofCode Try.prog [] Try.f39.ntmps [(0, ⟨[0, 3], [3], [], 0, [], none⟩),
    (1, ⟨[0, 3, 7], [3, 1019], [], 0, [], none⟩),
    (2, ⟨[0, 3, 7, 23], [3, 1019], [], 0, [], none⟩),
    (3, ⟨[4, 5], [62, 66, 87, 1019, 2010], [], 0, [], none⟩),
    (4, ⟨[0, 3, 9], [3, 1029], [], 0, [], none⟩),
    (5, ⟨[0, 3, 9, 34], [3, 1029], [], 0, [], none⟩),
    (6, ⟨[4, 5], [62, 66, 87, 1019, 2010], [], 0, [], none⟩),
    (7, ⟨[0, 3, 41], [3, 1029], [], 0, [], none⟩),
    (8, ⟨[4, 5], [62, 66, 87, 1019, 2010], [], 0, [], none⟩),
    (9, ⟨[0, 3, 10], [3, 62, 66, 87, 2010], [], 0, [(10, 2010, 3)], none⟩),
    (10, ⟨[0, 3, 10, 11], [3, 62, 66, 87, 2010], [], 0, [], none⟩),
    (11, ⟨[0, 3, 10, 11, 45], [3, 62, 66, 87, 2010], [], 0, [], none⟩),
    (12, ⟨[0, 3, 10, 11], [3, 62, 66, 87, 2010], [], 0, [], none⟩),
    (13, ⟨[0, 3, 10, 11, 55], [3, 62, 66, 87, 2010], [(0, 157), (1, 158), (2, 156), (3, 152), (4, 144), (5, 224), (6, 192), (7, 128)], 255, [], none⟩),
    (14, ⟨[0, 3, 10, 11], [3, 62, 66, 87, 2010], [], 0, [], none⟩),
    (15, ⟨[0, 3, 10], [3, 62, 66, 87, 2010], [], 0, [], none⟩),
    (16, ⟨[0, 3, 10, 12], [3, 62, 66, 87, 2010], [], 0, [], none⟩),
    (17, ⟨[0, 3, 10, 12, 70], [3, 62, 66, 87, 2010], [], 0, [], none⟩),
    (18, ⟨[0, 3, 10, 12], [3, 62, 66, 87, 2010], [], 0, [], none⟩),
    (19, ⟨[0, 3, 10, 12, 80], [3, 62, 66, 87, 2010], [(0, 157), (1, 158), (2, 156), (3, 152), (4, 144), (5, 224), (6, 192), (7, 128)], 255, [], none⟩),
    (20, ⟨[0, 3, 10, 12], [3, 62, 66, 87, 2010], [], 0, [], none⟩),
    (21, ⟨[4, 5], [62, 66, 87, 1019, 2010], [], 0, [], none⟩)] (Try.f39.body.getD .skip) = some M39 := by kernel_rfl
theorem Run39 {args : List PV} {v : AV} {rs : List (Nat × List PV)} (ids : List Bool) (h : args.length ≤ 89) (hv : run Try.prog (retK [RV.tmp 4, RV.tmp 5] ids v rs) M39 [] ⟨entry 0 args, []⟩) : Fn Try.prog 39 args v rs :=
  Fn_run ids (by kernel_rfl) Try.func39 (by decide) rfl mc39 (by kernel_rfl) (by rw [Try.ntmps39]; exact h) (by rw [Try.ntmps39]; decide) hv

/-- 'trystlaw13.awake' -/
def M45 : MC := (.seq (.reg [⟨(some 0), none, (.q (.mv (.c (.bool false))))⟩] [] [] []) (.seq (.reg [⟨(some 10), none, (.call (.f 36) [.nil, (.c (.string ⟨#[112]⟩)), (.c (.int .u64 1))])⟩, ⟨(some 9),
  none, (.q (.mv (.t 10)))⟩, ⟨(some 11), none, (.q (.ext (.t 9) 0))⟩, ⟨(some 12), none, (.q (.ext (.t 9) 1))⟩, ⟨(some 1), none, (.q (.mv (.t 11)))⟩, ⟨(some 2), none,
  (.q (.mv (.t 12)))⟩] [] [2] [1010]) (.seq (.reg [⟨(some 14), none, (.q (.mk [(.pv (.sc (.string ⟨#[]⟩))), (.pv (.sc (.int .u64 0))), (.pv (.sc (.int .i64 0)))] [(0, 1, (.c (.string ⟨#[112]⟩))), (1,
  1, (.c (.int .u64 1))), (2, 1, (.c (.int .i64 7)))]))⟩, ⟨(some 15), none, (.call (.f 38) [.nil, (.t 14)])⟩, ⟨(some 13), none, (.q (.mv (.t 15)))⟩, ⟨(some 16), none, (.q (.ext (.t 13) 0))⟩,
  ⟨(some 17), none, (.q (.ext (.t 13) 1))⟩, ⟨(some 3), none, (.q (.mv (.t 16)))⟩, ⟨(some 4), none, (.q (.mv (.t 17)))⟩] [] [2, 3, 4] [1010, 1015]) (.seq (.reg [⟨(some 19), none, (.q (.mv (.t 3)))⟩,
  ⟨(some 20), none, (.call (.f 36) [(.t 19), (.c (.string ⟨#[112]⟩)), (.c (.int .u64 1))])⟩, ⟨(some 18), none, (.q (.mv (.t 20)))⟩, ⟨(some 21), none, (.q (.ext (.t 18) 0))⟩, ⟨(some 22), none,
  (.q (.ext (.t 18) 1))⟩, ⟨(some 5), none, (.q (.mv (.t 21)))⟩, ⟨(some 6), none, (.q (.mv (.t 22)))⟩] [] [2, 3, 4, 5, 6] [1010, 1015, 1020]) (.seq (.reg [⟨(some 24), none, (.q (.mv (.t 3)))⟩,
  ⟨(some 25), none, (.call (.f 36) [(.t 24), (.c (.string ⟨#[112]⟩)), (.c (.int .u64 3))])⟩, ⟨(some 23), none, (.q (.mv (.t 25)))⟩, ⟨(some 26), none, (.q (.ext (.t 23) 0))⟩, ⟨(some 27), none,
  (.q (.ext (.t 23) 1))⟩, ⟨(some 7), none, (.q (.mv (.t 26)))⟩, ⟨(some 8), none, (.q (.mv (.t 27)))⟩] [] [2, 4, 5, 6, 8] [1010, 1015, 1020, 1025]) (.seq (.reg [⟨(some 28), none, (.q (.mv (.t 2)))⟩,
  ⟨(some 29), none, (.q (.bin .eql (.t 28) (.c (.int .i64 0))))⟩, ⟨(some 30), none, (.q (.mv (.t 29)))⟩, ⟨(some 31), (some (30, true)), (.q (.mv (.t 4)))⟩, ⟨(some 32), (some (30, true)),
  (.q (.bin .eql (.t 31) (.c (.int .i64 0))))⟩, ⟨(some 33), none, (.q (.pick (.t 30) (.t 32) (.c (.bool false))))⟩, ⟨(some 34), none, (.q (.mv (.t 33)))⟩, ⟨(some 35), (some (34, true)),
  (.q (.mv (.t 5)))⟩, ⟨(some 36), (some (34, true)), (.q (.bin .eql (.t 35) (.c (.int .i64 7))))⟩, ⟨(some 37), none, (.q (.pick (.t 34) (.t 36) (.c (.bool false))))⟩, ⟨(some 38), none,
  (.q (.mv (.t 37)))⟩, ⟨(some 39), (some (38, true)), (.q (.mv (.t 6)))⟩, ⟨(some 40), (some (38, true)), (.q (.bin .eql (.t 39) (.c (.int .i64 5))))⟩, ⟨(some 41), none, (.q (.pick (.t 38) (.t 40)
  (.c (.bool false))))⟩, ⟨(some 42), none, (.q (.mv (.t 41)))⟩, ⟨(some 43), (some (42, true)), (.q (.mv (.t 8)))⟩, ⟨(some 44), (some (42, true)), (.q (.bin .eql (.t 43) (.c (.int .i64 9))))⟩,
  ⟨(some 45), none, (.q (.pick (.t 42) (.t 44) (.c (.bool false))))⟩, ⟨(some 46), none, (.q (.mv (.t 45)))⟩, ⟨(some 47), none, (.q (.pick (.t 46) (.c (.bool true)) (.c (.bool false))))⟩, ⟨(some 0),
  none, (.q (.mv (.t 47)))⟩] [] [0] [1010, 1015, 1020, 1025]) .ret))))))
theorem mc45 : ofCode Try.prog [] Try.f45.ntmps [(0, ⟨[], [], [], 0, [], none⟩),
    (1, ⟨[2], [1010], [], 0, [], none⟩),
    (2, ⟨[2, 3, 4], [1010, 1015], [], 0, [], none⟩),
    (3, ⟨[2, 3, 4, 5, 6], [1010, 1015, 1020], [], 0, [], none⟩),
    (4, ⟨[2, 4, 5, 6, 8], [1010, 1015, 1020, 1025], [], 0, [], none⟩),
    (5, ⟨[0], [1010, 1015, 1020, 1025], [], 0, [], none⟩)] (Try.f45.body.getD .skip) = some M45 := by kernel_rfl
theorem Run45 {args : List PV} {v : AV} {rs : List (Nat × List PV)} (ids : List Bool) (h : args.length ≤ 48) (hv : run Try.prog (retK [RV.tmp 0] ids v rs) M45 [] ⟨entry 0 args, []⟩) : Fn Try.prog 45 args v rs :=
  Fn_run ids (by kernel_rfl) Try.func45 (by decide) rfl mc45 (by kernel_rfl) (by rw [Try.ntmps45]; exact h) (by rw [Try.ntmps45]; decide) hv

end Go.Vc

namespace Go.Vc
open Go.Proofs
set_option linter.unusedSimpArgs false
set_option linter.unusedVariables false

/-! ## What was the last of each producer -/
structure La where
  p : ByteArray
  n : Int
  o : Int
  deriving DecidableEq
instance : Inhabited La := ⟨⟨⟨#[]⟩, 0, 0⟩⟩
abbrev La.pv (x : La) : PV := .agg [pS x.p, pU x.n, pI x.o]
abbrev ls (l : List La) : PV := .lst (l.map La.pv)
theorem wf_ls (l : List La) : WfL 3 (l.map La.pv) := wf_map (f := La.pv) (s := 3) (fun a => ⟨rfl, fun c hc => by
  simp only [PV.cells, List.mem_cons, List.not_mem_nil, or_false] at hc
  rcases hc with rfl | rfl | rfl <;> rfl⟩) l
theorem fn104 (x : La) (n : ByteArray) : Fn Try.prog 104 [x.pv, .pt [pS n]] (.pv (pB (decide (x.p = n)))) [] := by
  refine Run104 [] (by simp) ?_
  simp only [go_sem, Nat.reduceEqDiff, Nat.reduceBEq, Nat.reduceAdd, Nat.reduceMul, Nat.reduceSub, Nat.reduceLeDiff, Nat.reduceLT, reduceIte, reduceCtorEq, Int.reduceToNat, Int.reduceLE, Int.reduceLT, Int.reduceNeg, Bool.not_not, and_self, Bool.and_eq_false_iff, Int.cast_ofNat_Int, Int.reduceAdd, Int.reduceSub, Int.reduceMul, Int.reduceEq, Int.reduceNe, M104]
theorem fn103 (l : List La) (g : Nat) (caps : List PV) (q : La → Bool) (hl : l.length < 100000) (hg : ∀ k ∈ l, Fn Try.prog g (k.pv :: caps) (.pv (pB (q k))) []) :
    Fn Try.prog 103 [ls l, .fn g caps] (.pv (pI (idxA q l))) [] := by
  refine Run103 [] (by simp) ?_
  simp only [go_sem, Nat.reduceEqDiff, Nat.reduceBEq, Nat.reduceAdd, Nat.reduceMul, Nat.reduceSub, Nat.reduceLeDiff, Nat.reduceLT, reduceIte, reduceCtorEq, Int.reduceToNat, Int.reduceLE, Int.reduceLT, Int.reduceNeg, Bool.not_not, and_self, Bool.and_eq_false_iff, Int.cast_ofNat_Int, Int.reduceAdd, Int.reduceSub, Int.reduceMul, Int.reduceEq, Int.reduceNe, M103]
  refine run_loop (T := Nat) (fun i => ⟨[(0, .pv (ls l)), (1, .pv (.fn g caps)), (7, .pv (pI l.length)), (8, .pv (pI i))], []⟩) (fun i => i ≤ l.length ∧ ∀ j (h : j < l.length), j < i → q l[j] = false) (fun i => l.length - i) 0 rfl ⟨Nat.zero_le _, fun j _ h => absurd h (by omega)⟩ ?_
  intro i ⟨hi, hq⟩
  by_cases hlt : i < l.length
  · simp only [go_sem, Nat.reduceEqDiff, Nat.reduceBEq, Nat.reduceAdd, Nat.reduceMul, Nat.reduceSub, Nat.reduceLeDiff, Nat.reduceLT, reduceIte, reduceCtorEq, Int.reduceToNat, Int.reduceLE, Int.reduceLT, Int.reduceNeg, Bool.not_not, and_self, Bool.and_eq_false_iff, Int.cast_ofNat_Int, Int.reduceAdd, Int.reduceSub, Int.reduceMul, Int.reduceEq, Int.reduceNe, B103_0, wf_ls, getD_map hlt, show (i : Int) < (l.length : Int) by omega]
    refine runR_callf (by simp only [go_sem, Nat.reduceEqDiff, Nat.reduceBEq, Nat.reduceAdd, Nat.reduceMul, Nat.reduceSub, Nat.reduceLeDiff, Nat.reduceLT, reduceIte, reduceCtorEq, Int.reduceToNat, Int.reduceLE, Int.reduceLT, Int.reduceNeg, Bool.not_not, and_self, Bool.and_eq_false_iff, Int.cast_ofNat_Int, Int.reduceAdd, Int.reduceSub, Int.reduceMul, Int.reduceEq, Int.reduceNe]) (by simp only [go_sem, Nat.reduceEqDiff, Nat.reduceBEq, Nat.reduceAdd, Nat.reduceMul, Nat.reduceSub, Nat.reduceLeDiff, Nat.reduceLT, reduceIte, reduceCtorEq, Int.reduceToNat, Int.reduceLE, Int.reduceLT, Int.reduceNeg, Bool.not_not, and_self, Bool.and_eq_false_iff, Int.cast_ofNat_Int, Int.reduceAdd, Int.reduceSub, Int.reduceMul, Int.reduceEq, Int.reduceNe, snapL_pv _ 3]) (hg _ (List.getElem_mem hlt)) ⟨rfl, trivial⟩ trivial ?_
    simp only [go_sem, Nat.reduceEqDiff, Nat.reduceBEq, Nat.reduceAdd, Nat.reduceMul, Nat.reduceSub, Nat.reduceLeDiff, Nat.reduceLT, reduceIte, reduceCtorEq, Int.reduceToNat, Int.reduceLE, Int.reduceLT, Int.reduceNeg, Bool.not_not, and_self, Bool.and_eq_false_iff, Int.cast_ofNat_Int, Int.reduceAdd, Int.reduceSub, Int.reduceMul, Int.reduceEq, Int.reduceNe]
    refine ⟨fun hq1 => ?_, fun hq0 => ⟨⟨by omega, by omega⟩, i + 1, rfl, ⟨hlt, fun j hj hji => ?_⟩, by omega⟩⟩
    · rw [idxA_yes hlt hq1 hq]
    · by_cases hj2 : j = i
      · subst hj2; exact hq0
      · exact hq j hj (by omega)
  · simp only [go_sem, Nat.reduceEqDiff, Nat.reduceBEq, Nat.reduceAdd, Nat.reduceMul, Nat.reduceSub, Nat.reduceLeDiff, Nat.reduceLT, reduceIte, reduceCtorEq, Int.reduceToNat, Int.reduceLE, Int.reduceLT, Int.reduceNeg, Bool.not_not, and_self, Bool.and_eq_false_iff, Int.cast_ofNat_Int, Int.reduceAdd, Int.reduceSub, Int.reduceMul, Int.reduceEq, Int.reduceNe, B103_0, R103_0, show ¬ ((i : Int) < (l.length : Int)) by omega]
    rw [idxA_no fun j hj => hq j hj (by omega)]
def findL (l : List La) (p : ByteArray) : Int := idxA (fun x => decide (x.p = p)) l
theorem fn82 (l : List La) (p : ByteArray) (hl : l.length < 100000) : Fn Try.prog 82 [ls l, pS p] (.pv (pI (findL l p))) [] := by
  refine Run82 [] (by simp) ?_
  simp only [go_sem, Nat.reduceEqDiff, Nat.reduceBEq, Nat.reduceAdd, Nat.reduceMul, Nat.reduceSub, Nat.reduceLeDiff, Nat.reduceLT, reduceIte, reduceCtorEq, Int.reduceToNat, Int.reduceLE, Int.reduceLT, Int.reduceNeg, Bool.not_not, and_self, Bool.and_eq_false_iff, Int.cast_ofNat_Int, Int.reduceAdd, Int.reduceSub, Int.reduceMul, Int.reduceEq, Int.reduceNe, M82]
  refine runR_callf (by simp only [go_sem, Nat.reduceEqDiff, Nat.reduceBEq, Nat.reduceAdd, Nat.reduceMul, Nat.reduceSub, Nat.reduceLeDiff, Nat.reduceLT, reduceIte, reduceCtorEq, Int.reduceToNat, Int.reduceLE, Int.reduceLT, Int.reduceNeg, Bool.not_not, and_self, Bool.and_eq_false_iff, Int.cast_ofNat_Int, Int.reduceAdd, Int.reduceSub, Int.reduceMul, Int.reduceEq, Int.reduceNe]) (by simp only [go_sem, Nat.reduceEqDiff, Nat.reduceBEq, Nat.reduceAdd, Nat.reduceMul, Nat.reduceSub, Nat.reduceLeDiff, Nat.reduceLT, reduceIte, reduceCtorEq, Int.reduceToNat, Int.reduceLE, Int.reduceLT, Int.reduceNeg, Bool.not_not, and_self, Bool.and_eq_false_iff, Int.cast_ofNat_Int, Int.reduceAdd, Int.reduceSub, Int.reduceMul, Int.reduceEq, Int.reduceNe] <;> rfl) (fn103 l 104 [.pt [pS p]] (fun x => decide (x.p = p)) hl (fun x hx => fn104 x p)) ⟨rfl, trivial⟩ trivial ?_
  simp only [go_sem, Nat.reduceEqDiff, Nat.reduceBEq, Nat.reduceAdd, Nat.reduceMul, Nat.reduceSub, Nat.reduceLeDiff, Nat.reduceLT, reduceIte, reduceCtorEq, Int.reduceToNat, Int.reduceLE, Int.reduceLT, Int.reduceNeg, Bool.not_not, and_self, Bool.and_eq_false_iff, Int.cast_ofNat_Int, Int.reduceAdd, Int.reduceSub, Int.reduceMul, Int.reduceEq, Int.reduceNe]
  rfl
theorem fn83 (l : List La) (hl : l.length < 100000) : Fn Try.prog 83 [ls l] (.row 0 0 l.length) [(3, l.map La.pv)] := by
  refine Run83 [true] (by simp) ?_
  simp only [go_sem, Nat.reduceEqDiff, Nat.reduceBEq, Nat.reduceAdd, Nat.reduceMul, Nat.reduceSub, Nat.reduceLeDiff, Nat.reduceLT, reduceIte, reduceCtorEq, Int.reduceToNat, Int.reduceLE, Int.reduceLT, Int.reduceNeg, Bool.not_not, and_self, Bool.and_eq_false_iff, Int.cast_ofNat_Int, Int.reduceAdd, Int.reduceSub, Int.reduceMul, Int.reduceEq, Int.reduceNe, M83, wf_ls]
  refine runR_isnil rfl rfl ?_
  intro b hb
  simp only [go_sem, Nat.reduceEqDiff, Nat.reduceBEq, Nat.reduceAdd, Nat.reduceMul, Nat.reduceSub, Nat.reduceLeDiff, Nat.reduceLT, reduceIte, reduceCtorEq, Int.reduceToNat, Int.reduceLE, Int.reduceLT, Int.reduceNeg, Bool.not_not, and_self, Bool.and_eq_false_iff, Int.cast_ofNat_Int, Int.reduceAdd, Int.reduceSub, Int.reduceMul, Int.reduceEq, Int.reduceNe, wf_ls]
  refine ⟨fun h => ?_, fun h => ⟨by omega, ?_⟩⟩
  · have : l = [] := by simpa using hb h
    subst this
    simp
  · simp
theorem findL_lt (l : List La) (p : ByteArray) : (findL l p = -1 ∧ ∀ x ∈ l, x.p ≠ p) ∨ ∃ n, ∃ h : n < l.length, findL l p = n ∧ (l[n]).p = p ∧ ∀ j (hj : j < l.length), j < n → (l[j]).p ≠ p := by
  rcases idxA_lt (fun x : La => decide (x.p = p)) l with ⟨h1, h2⟩ | ⟨n, h, h1, h2, h3⟩
  · exact .inl ⟨h1, fun x hx => by simpa using h2 x hx⟩
  · exact .inr ⟨n, h, h1, by simpa using h2, fun j hj hji => by simpa using h3 j hj hji⟩
def lastL (l : List La) (p : ByteArray) : La × Bool := if findL l p < 0 then (default, false) else (l.getD (findL l p).toNat default, true)
theorem fn40 (l : List La) (p : ByteArray) (hl : l.length < 100000) : Fn Try.prog 40 [ls l, pS p] (.pv (.tup [(lastL l p).1.pv, pB (lastL l p).2])) [] := by
  refine Run40 [] (by simp) ?_
  simp only [go_sem, Nat.reduceEqDiff, Nat.reduceBEq, Nat.reduceAdd, Nat.reduceMul, Nat.reduceSub, Nat.reduceLeDiff, Nat.reduceLT, reduceIte, reduceCtorEq, Int.reduceToNat, Int.reduceLE, Int.reduceLT, Int.reduceNeg, Bool.not_not, and_self, Bool.and_eq_false_iff, Int.cast_ofNat_Int, Int.reduceAdd, Int.reduceSub, Int.reduceMul, Int.reduceEq, Int.reduceNe, M40]
  refine runR_callf (by simp only [go_sem, Nat.reduceEqDiff, Nat.reduceBEq, Nat.reduceAdd, Nat.reduceMul, Nat.reduceSub, Nat.reduceLeDiff, Nat.reduceLT, reduceIte, reduceCtorEq, Int.reduceToNat, Int.reduceLE, Int.reduceLT, Int.reduceNeg, Bool.not_not, and_self, Bool.and_eq_false_iff, Int.cast_ofNat_Int, Int.reduceAdd, Int.reduceSub, Int.reduceMul, Int.reduceEq, Int.reduceNe]) (by simp only [go_sem, Nat.reduceEqDiff, Nat.reduceBEq, Nat.reduceAdd, Nat.reduceMul, Nat.reduceSub, Nat.reduceLeDiff, Nat.reduceLT, reduceIte, reduceCtorEq, Int.reduceToNat, Int.reduceLE, Int.reduceLT, Int.reduceNeg, Bool.not_not, and_self, Bool.and_eq_false_iff, Int.cast_ofNat_Int, Int.reduceAdd, Int.reduceSub, Int.reduceMul, Int.reduceEq, Int.reduceNe] <;> rfl) (fn82 l p hl) ⟨rfl, trivial⟩ trivial ?_
  simp only [go_sem, Nat.reduceEqDiff, Nat.reduceBEq, Nat.reduceAdd, Nat.reduceMul, Nat.reduceSub, Nat.reduceLeDiff, Nat.reduceLT, reduceIte, reduceCtorEq, Int.reduceToNat, Int.reduceLE, Int.reduceLT, Int.reduceNeg, Bool.not_not, and_self, Bool.and_eq_false_iff, Int.cast_ofNat_Int, Int.reduceAdd, Int.reduceSub, Int.reduceMul, Int.reduceEq, Int.reduceNe, wf_ls]
  unfold lastL
  rcases findL_lt l p with ⟨h1, _⟩ | ⟨n, h, h1, _⟩
  · rw [h1]
    refine ⟨fun _ => rfl, fun h => absurd h (by omega)⟩
  · rw [h1]
    refine ⟨fun h => absurd h (by omega), fun _ => ?_⟩
    have e1 : ((n : Int)).toNat = n := by omega
    have e2 : ¬ ((n : Int) < 0) := by omega
    simp only [go_sem, Nat.reduceEqDiff, Nat.reduceBEq, Nat.reduceAdd, Nat.reduceMul, Nat.reduceSub, Nat.reduceLeDiff, Nat.reduceLT, reduceIte, reduceCtorEq, Int.reduceToNat, Int.reduceLE, Int.reduceLT, Int.reduceNeg, Bool.not_not, and_self, Bool.and_eq_false_iff, Int.cast_ofNat_Int, Int.reduceAdd, Int.reduceSub, Int.reduceMul, Int.reduceEq, Int.reduceNe, e1, e2, getD_map h, getD_get h]
    omega
theorem fn41 (l : List La) (p : ByteArray) (hl : l.length < 100000) : Fn Try.prog 41 [ls l, pS p] (.pv (.tup [(lastL l p).1.pv, pB (lastL l p).2])) [] := by
  refine Run41 [] (by simp) ?_
  simp only [go_sem, Nat.reduceEqDiff, Nat.reduceBEq, Nat.reduceAdd, Nat.reduceMul, Nat.reduceSub, Nat.reduceLeDiff, Nat.reduceLT, reduceIte, reduceCtorEq, Int.reduceToNat, Int.reduceLE, Int.reduceLT, Int.reduceNeg, Bool.not_not, and_self, Bool.and_eq_false_iff, Int.cast_ofNat_Int, Int.reduceAdd, Int.reduceSub, Int.reduceMul, Int.reduceEq, Int.reduceNe, M41]
  refine run_loop (T := Nat) (fun i => ⟨[(0, .pv (ls l)), (1, .pv (pS p)), (4, .ptr 4 0), (6, .pv (pI i))], [(4, .box [.pv (pS ⟨#[]⟩), .pv (pU 0), .pv (pI 0)])]⟩) (fun i => i ≤ l.length ∧ ∀ j (h : j < l.length), j < i → ¬ (l[j]).p = p) (fun i => l.length - i) 0 rfl ⟨Nat.zero_le _, fun j _ h => absurd h (by omega)⟩ ?_
  intro i ⟨hi, hq⟩
  by_cases hlt : i < l.length
  · simp only [go_sem, Nat.reduceEqDiff, Nat.reduceBEq, Nat.reduceAdd, Nat.reduceMul, Nat.reduceSub, Nat.reduceLeDiff, Nat.reduceLT, reduceIte, reduceCtorEq, Int.reduceToNat, Int.reduceLE, Int.reduceLT, Int.reduceNeg, Bool.not_not, and_self, Bool.and_eq_false_iff, Int.cast_ofNat_Int, Int.reduceAdd, Int.reduceSub, Int.reduceMul, Int.reduceEq, Int.reduceNe, B41_0, wf_ls, getD_map hlt, show (i : Int) < (l.length : Int) by omega]
    refine ⟨fun h => ?_, fun h => ⟨⟨by omega, by omega⟩, i + 1, rfl, ⟨hlt, fun j hj hji => ?_⟩, by omega⟩⟩
    · have e : findL l p = i := idxA_yes hlt (decide_eq_true h) (fun j hj hji => decide_eq_false (hq j hj hji))
      unfold lastL
      rw [e, if_neg (by omega), show ((i : Int)).toNat = i by omega, getD_get hlt]
    · by_cases hj2 : j = i
      · subst hj2; exact h
      · exact hq j hj (by omega)
  · simp only [go_sem, Nat.reduceEqDiff, Nat.reduceBEq, Nat.reduceAdd, Nat.reduceMul, Nat.reduceSub, Nat.reduceLeDiff, Nat.reduceLT, reduceIte, reduceCtorEq, Int.reduceToNat, Int.reduceLE, Int.reduceLT, Int.reduceNeg, Bool.not_not, and_self, Bool.and_eq_false_iff, Int.cast_ofNat_Int, Int.reduceAdd, Int.reduceSub, Int.reduceMul, Int.reduceEq, Int.reduceNe, B41_0, R41_0, show ¬ ((i : Int) < (l.length : Int)) by omega]
    have e : findL l p = -1 := idxA_no fun j hj => decide_eq_false (hq j hj (by omega))
    unfold lastL
    rw [e]
    rfl
theorem fn42 (a b : List La) (ha : a.length < 100000) (hb : b.length < 100000) : Fn Try.prog 42 [ls a, ls b] (.pv (pB (decide (a = b)))) [] := by
  refine Run42 [] (by simp) ?_
  simp only [go_sem, Nat.reduceEqDiff, Nat.reduceBEq, Nat.reduceAdd, Nat.reduceMul, Nat.reduceSub, Nat.reduceLeDiff, Nat.reduceLT, reduceIte, reduceCtorEq, Int.reduceToNat, Int.reduceLE, Int.reduceLT, Int.reduceNeg, Bool.not_not, and_self, Bool.and_eq_false_iff, Int.cast_ofNat_Int, Int.reduceAdd, Int.reduceSub, Int.reduceMul, Int.reduceEq, Int.reduceNe, M42]
  refine ⟨fun h => ?_, fun h => ?_⟩
  · have : a ≠ b := fun e => h (by rw [e])
    simp [this]
  · have hlm : b.length = a.length := by omega
    refine run_loop (T := Nat) (fun i => ⟨[(0, .pv (ls a)), (1, .pv (ls b)), (5, .pv (pI i))], []⟩) (fun i => i ≤ a.length ∧ a.take i = b.take i) (fun i => a.length - i) 0 rfl ⟨Nat.zero_le _, rfl⟩ ?_
    intro i ⟨hi, hq⟩
    by_cases hlt : i < a.length
    · have hlt2 : i < b.length := by omega
      simp only [go_sem, Nat.reduceEqDiff, Nat.reduceBEq, Nat.reduceAdd, Nat.reduceMul, Nat.reduceSub, Nat.reduceLeDiff, Nat.reduceLT, reduceIte, reduceCtorEq, Int.reduceToNat, Int.reduceLE, Int.reduceLT, Int.reduceNeg, Bool.not_not, and_self, Bool.and_eq_false_iff, Int.cast_ofNat_Int, Int.reduceAdd, Int.reduceSub, Int.reduceMul, Int.reduceEq, Int.reduceNe, B42_0, wf_ls, getD_map hlt, getD_map hlt2, show (i : Int) < (a.length : Int) by omega, show (i : Int) < (b.length : Int) by omega]
      refine ⟨fun hd => ?_, fun hd => ⟨⟨by omega, by omega⟩, i + 1, rfl, ⟨hlt, ?_⟩, by omega⟩⟩
      · have : a ≠ b := fun e => by subst e; simp at hd
        simp [this]
      · have e : a[i] = b[i] := by
          cases h1 : a[i]; cases h2 : b[i]; rw [h1, h2] at hd; simp only at hd; rw [hd.1, hd.2.1, hd.2.2]
        rw [take_snoc hlt, take_snoc hlt2, hq, e]
    · simp only [go_sem, Nat.reduceEqDiff, Nat.reduceBEq, Nat.reduceAdd, Nat.reduceMul, Nat.reduceSub, Nat.reduceLeDiff, Nat.reduceLT, reduceIte, reduceCtorEq, Int.reduceToNat, Int.reduceLE, Int.reduceLT, Int.reduceNeg, Bool.not_not, and_self, Bool.and_eq_false_iff, Int.cast_ofNat_Int, Int.reduceAdd, Int.reduceSub, Int.reduceMul, Int.reduceEq, Int.reduceNe, B42_0, R42_0, show ¬ (i : Int) < (a.length : Int) by omega]
      have hie : i = a.length := by omega
      subst hie
      rw [List.take_length, ← hlm, List.take_length] at hq
      simp [hq]
def mayL (x : La) : Bool := fieldB x.p && decide (1 ≤ x.n) && decide (0 ≤ x.o)
def blL (a b : ByteArray) : Bool := Op.bytesLess a.toList b.toList
def okL (l : List La) (i : Nat) : Bool := mayL (l.getD i default) && (decide (i = 0) || blL (l.getD (i - 1) default).p (l.getD i default).p)
def checkL (l : List La) : Bool := decide (l.length ≤ 50) && (List.range l.length).all (okL l)
theorem checkL_iff (l : List La) : checkL l = true ↔ l.length ≤ 50 ∧ ∀ i, i < l.length → okL l i = true := by
  simp [checkL, List.all_eq_true]
theorem fn43 (l : List La) (hl : l.length < 100000) : Fn Try.prog 43 [ls l] (.pv (pI (errN (checkL l)))) [] := by
  refine Run43 [] (by simp) ?_
  simp only [go_sem, Nat.reduceEqDiff, Nat.reduceBEq, Nat.reduceAdd, Nat.reduceMul, Nat.reduceSub, Nat.reduceLeDiff, Nat.reduceLT, reduceIte, reduceCtorEq, Int.reduceToNat, Int.reduceLE, Int.reduceLT, Int.reduceNeg, Bool.not_not, and_self, Bool.and_eq_false_iff, Int.cast_ofNat_Int, Int.reduceAdd, Int.reduceSub, Int.reduceMul, Int.reduceEq, Int.reduceNe, M43]
  refine ⟨fun h => ?_, fun h => ?_⟩
  · have : checkL l = false := by simp [checkL]; omega
    rw [this]; rfl
  have h100 : l.length ≤ 50 := by omega
  refine run_loop (T := Nat) (fun i => ⟨[(0, .pv (ls l)), (8, .pv (ls l)), (9, .pv (pI l.length)), (10, .pv (pI i))], []⟩) (fun i => i ≤ l.length ∧ ∀ j, j < i → okL l j = true) (fun i => l.length - i) 0 rfl ⟨Nat.zero_le _, fun j h => absurd h (by omega)⟩ ?_
  intro i ⟨hi, hq⟩
  by_cases hlt : i < l.length
  · have no : okL l i = false → checkL l = false := fun h => by
      cases hc : checkL l with
      | false => rfl
      | true => rw [((checkL_iff l).1 hc).2 i hlt] at h; cases h
    have next : okL l i = true → ∀ j, j < i + 1 → okL l j = true := fun h j hj => by
      by_cases hji : j = i
      · subst hji; exact h
      · exact hq j (by omega)
    simp only [go_sem, Nat.reduceEqDiff, Nat.reduceBEq, Nat.reduceAdd, Nat.reduceMul, Nat.reduceSub, Nat.reduceLeDiff, Nat.reduceLT, reduceIte, reduceCtorEq, Int.reduceToNat, Int.reduceLE, Int.reduceLT, Int.reduceNeg, Bool.not_not, and_self, Bool.and_eq_false_iff, Int.cast_ofNat_Int, Int.reduceAdd, Int.reduceSub, Int.reduceMul, Int.reduceEq, Int.reduceNe, B43_0, wf_ls, getD_map hlt, show (i : Int) < (l.length : Int) by omega]
    refine runR_callf (by simp only [go_sem, Nat.reduceEqDiff, Nat.reduceBEq, Nat.reduceAdd, Nat.reduceMul, Nat.reduceSub, Nat.reduceLeDiff, Nat.reduceLT, reduceIte, reduceCtorEq, Int.reduceToNat, Int.reduceLE, Int.reduceLT, Int.reduceNeg, Bool.not_not, and_self, Bool.and_eq_false_iff, Int.cast_ofNat_Int, Int.reduceAdd, Int.reduceSub, Int.reduceMul, Int.reduceEq, Int.reduceNe]) (by simp only [go_sem, Nat.reduceEqDiff, Nat.reduceBEq, Nat.reduceAdd, Nat.reduceMul, Nat.reduceSub, Nat.reduceLeDiff, Nat.reduceLT, reduceIte, reduceCtorEq, Int.reduceToNat, Int.reduceLE, Int.reduceLT, Int.reduceNeg, Bool.not_not, and_self, Bool.and_eq_false_iff, Int.cast_ofNat_Int, Int.reduceAdd, Int.reduceSub, Int.reduceMul, Int.reduceEq, Int.reduceNe] <;> rfl) (fn81 (l[i]).p) ⟨rfl, trivial⟩ trivial ?_
    have hok : okL l i = (mayL l[i] && (decide (i = 0) || blL (l.getD (i - 1) default).p (l[i]).p)) := by
      unfold okL; rw [getD_get hlt]
    by_cases h0 : i = 0
    · subst h0
      simp only [go_sem, Nat.reduceEqDiff, Nat.reduceBEq, Nat.reduceAdd, Nat.reduceMul, Nat.reduceSub, Nat.reduceLeDiff, Nat.reduceLT, reduceIte, reduceCtorEq, Int.reduceToNat, Int.reduceLE, Int.reduceLT, Int.reduceNeg, Bool.not_not, and_self, Bool.and_eq_false_iff, Int.cast_ofNat_Int, Int.reduceAdd, Int.reduceSub, Int.reduceMul, Int.reduceEq, Int.reduceNe]
      simp only [decide_true, Bool.true_or, Bool.and_true] at hok
      refine ⟨fun h => ?_, fun h => ⟨1, rfl, ⟨by omega, next ?_⟩, by omega⟩⟩
      · rw [no]; rfl
        rw [hok, mayL]
        rcases h with (h | h) | h
        · rw [h]; rfl
        · simp; omega
        · simp; omega
      · rw [hok, mayL, h.1.1]; simp; omega
    · have hlt1 : i - 1 < l.length := by omega
      have e1 : ((i : Int) - 1).toNat = i - 1 := by omega
      simp only [go_sem, Nat.reduceEqDiff, Nat.reduceBEq, Nat.reduceAdd, Nat.reduceMul, Nat.reduceSub, Nat.reduceLeDiff, Nat.reduceLT, reduceIte, reduceCtorEq, Int.reduceToNat, Int.reduceLE, Int.reduceLT, Int.reduceNeg, Bool.not_not, and_self, Bool.and_eq_false_iff, Int.cast_ofNat_Int, Int.reduceAdd, Int.reduceSub, Int.reduceMul, Int.reduceEq, Int.reduceNe, wf_ls, e1, getD_map hlt1, show (0 : Int) < (i : Int) by omega]
      rw [getD_get hlt1] at hok
      refine ⟨fun h => ?_, fun h => ⟨⟨by omega, by omega⟩, ⟨by omega, by omega⟩, fun h2 => ?_, fun h2 => ⟨⟨by omega, by omega⟩, i + 1, rfl, ⟨by omega, next ?_⟩, by omega⟩⟩⟩
      · rw [no]; rfl
        rw [hok, mayL]
        rcases h with (h | h) | h
        · rw [h]; rfl
        · simp; omega
        · simp; omega
      · rw [no]; rfl
        rw [hok, blL, h2]
        simp [h0]
      · rw [hok, mayL, h.1.1, blL, h2]; simp; omega
  · simp only [go_sem, Nat.reduceEqDiff, Nat.reduceBEq, Nat.reduceAdd, Nat.reduceMul, Nat.reduceSub, Nat.reduceLeDiff, Nat.reduceLT, reduceIte, reduceCtorEq, Int.reduceToNat, Int.reduceLE, Int.reduceLT, Int.reduceNeg, Bool.not_not, and_self, Bool.and_eq_false_iff, Int.cast_ofNat_Int, Int.reduceAdd, Int.reduceSub, Int.reduceMul, Int.reduceEq, Int.reduceNe, B43_0, R43_0, show ¬ ((i : Int) < (l.length : Int)) by omega]
    have e : checkL l = true := (checkL_iff l).2 ⟨h100, fun j hj => hq j (by omega)⟩
    rw [e]; rfl
theorem fn44 (l : List La) (hl : l.length < 100000) (hs : ∀ x ∈ l, x.p.size ≤ 1000) (hn : ∀ x ∈ l, 0 ≤ x.n) : Fn Try.prog 44 [ls l] (.pv (pB (checkL l))) [] := by
  refine Run44 [] (by simp) ?_
  simp only [go_sem, Nat.reduceEqDiff, Nat.reduceBEq, Nat.reduceAdd, Nat.reduceMul, Nat.reduceSub, Nat.reduceLeDiff, Nat.reduceLT, reduceIte, reduceCtorEq, Int.reduceToNat, Int.reduceLE, Int.reduceLT, Int.reduceNeg, Bool.not_not, and_self, Bool.and_eq_false_iff, Int.cast_ofNat_Int, Int.reduceAdd, Int.reduceSub, Int.reduceMul, Int.reduceEq, Int.reduceNe, M44]
  refine run_loop (T := Nat) (fun i => ⟨[(0, .pv (ls l)), (3, .pv (pI i))], []⟩) (fun i => i ≤ l.length ∧ ∀ j, j < i → okL l j = true) (fun i => l.length - i) 0 rfl ⟨Nat.zero_le _, fun j h => absurd h (by omega)⟩ ?_
  intro i ⟨hi, hq⟩
  by_cases hlt : i < l.length
  · have no : okL l i = false → checkL l = false := fun h => by
      cases hc : checkL l with
      | false => rfl
      | true => rw [((checkL_iff l).1 hc).2 i hlt] at h; cases h
    have next : okL l i = true → ∀ j, j < i + 1 → okL l j = true := fun h j hj => by
      by_cases hji : j = i
      · subst hji; exact h
      · exact hq j (by omega)
    have hn' := hn _ (List.getElem_mem hlt)
    simp only [go_sem, Nat.reduceEqDiff, Nat.reduceBEq, Nat.reduceAdd, Nat.reduceMul, Nat.reduceSub, Nat.reduceLeDiff, Nat.reduceLT, reduceIte, reduceCtorEq, Int.reduceToNat, Int.reduceLE, Int.reduceLT, Int.reduceNeg, Bool.not_not, and_self, Bool.and_eq_false_iff, Int.cast_ofNat_Int, Int.reduceAdd, Int.reduceSub, Int.reduceMul, Int.reduceEq, Int.reduceNe, B44_0, wf_ls, getD_map hlt, show (i : Int) < (l.length : Int) by omega]
    refine runR_callf (by simp only [go_sem, Nat.reduceEqDiff, Nat.reduceBEq, Nat.reduceAdd, Nat.reduceMul, Nat.reduceSub, Nat.reduceLeDiff, Nat.reduceLT, reduceIte, reduceCtorEq, Int.reduceToNat, Int.reduceLE, Int.reduceLT, Int.reduceNeg, Bool.not_not, and_self, Bool.and_eq_false_iff, Int.cast_ofNat_Int, Int.reduceAdd, Int.reduceSub, Int.reduceMul, Int.reduceEq, Int.reduceNe]) (by simp only [go_sem, Nat.reduceEqDiff, Nat.reduceBEq, Nat.reduceAdd, Nat.reduceMul, Nat.reduceSub, Nat.reduceLeDiff, Nat.reduceLT, reduceIte, reduceCtorEq, Int.reduceToNat, Int.reduceLE, Int.reduceLT, Int.reduceNeg, Bool.not_not, and_self, Bool.and_eq_false_iff, Int.cast_ofNat_Int, Int.reduceAdd, Int.reduceSub, Int.reduceMul, Int.reduceEq, Int.reduceNe] <;> rfl) (fn46 (l[i]).p (hs _ (List.getElem_mem hlt))) ⟨rfl, trivial⟩ trivial ?_
    have hok : okL l i = (mayL l[i] && (decide (i = 0) || blL (l.getD (i - 1) default).p (l[i]).p)) := by
      unfold okL; rw [getD_get hlt]
    by_cases h0 : i = 0
    · subst h0
      simp only [go_sem, Nat.reduceEqDiff, Nat.reduceBEq, Nat.reduceAdd, Nat.reduceMul, Nat.reduceSub, Nat.reduceLeDiff, Nat.reduceLT, reduceIte, reduceCtorEq, Int.reduceToNat, Int.reduceLE, Int.reduceLT, Int.reduceNeg, Bool.not_not, and_self, Bool.and_eq_false_iff, Int.cast_ofNat_Int, Int.reduceAdd, Int.reduceSub, Int.reduceMul, Int.reduceEq, Int.reduceNe, wf_ls, getD_map hlt]
      simp only [decide_true, Bool.true_or, Bool.and_true] at hok
      refine ⟨fun h => ⟨h, by omega⟩, fun h => ⟨h, by omega⟩, fun h => ?_, fun h => ⟨1, rfl, ⟨by omega, next ?_⟩, by omega⟩⟩
      · rw [no]
        rw [hok, mayL]
        rcases h with (h | h) | h
        · rw [h]; rfl
        · simp; omega
        · simp; omega
      · rw [hok, mayL, h.1.1]; simp; omega
    · have hlt1 : i - 1 < l.length := by omega
      have e1 : ((i : Int) - 1).toNat = i - 1 := by omega
      simp only [go_sem, Nat.reduceEqDiff, Nat.reduceBEq, Nat.reduceAdd, Nat.reduceMul, Nat.reduceSub, Nat.reduceLeDiff, Nat.reduceLT, reduceIte, reduceCtorEq, Int.reduceToNat, Int.reduceLE, Int.reduceLT, Int.reduceNeg, Bool.not_not, and_self, Bool.and_eq_false_iff, Int.cast_ofNat_Int, Int.reduceAdd, Int.reduceSub, Int.reduceMul, Int.reduceEq, Int.reduceNe, wf_ls, e1, getD_map hlt1, getD_map hlt, show (0 : Int) < (i : Int) by omega]
      rw [getD_get hlt1] at hok
      refine ⟨fun h => ⟨h, by omega⟩, fun h => ⟨h, by omega⟩, fun h => ⟨h, by omega, by omega⟩, fun h => ⟨h, by omega, by omega⟩, fun h => ⟨h, by omega⟩, fun h => ?_, fun h => ⟨⟨by omega, by omega⟩, i + 1, rfl, ⟨by omega, next ?_⟩, by omega⟩⟩
      · rw [no]
        rw [hok, mayL, blL]
        rcases h with ((h | h) | h) | h
        · rw [h]; rfl
        · simp; omega
        · simp; omega
        · rw [h]; simp [h0]
      · rw [hok, mayL, h.1.1.1, blL, h.2]; simp; omega
  · simp only [go_sem, Nat.reduceEqDiff, Nat.reduceBEq, Nat.reduceAdd, Nat.reduceMul, Nat.reduceSub, Nat.reduceLeDiff, Nat.reduceLT, reduceIte, reduceCtorEq, Int.reduceToNat, Int.reduceLE, Int.reduceLT, Int.reduceNeg, Bool.not_not, and_self, Bool.and_eq_false_iff, Int.cast_ofNat_Int, Int.reduceAdd, Int.reduceSub, Int.reduceMul, Int.reduceEq, Int.reduceNe, B44_0, R44_0, show ¬ ((i : Int) < (l.length : Int)) by omega]
    have e : checkL l = true ↔ l.length ≤ 50 := by rw [checkL_iff]; exact ⟨fun h => h.1, fun h => ⟨h, fun j hj => hq j (by omega)⟩⟩
    by_cases h : l.length ≤ 50
    · rw [e.2 h]; simp; omega
    · cases hc : checkL l with
      | false => simp; omega
      | true => exact absurd (e.1 hc) h
def askL (l : List La) (p : ByteArray) (n : Int) : Int × Int :=
  if checkL l = false ∨ fieldB p = false ∨ n < 1 then (0, 1)
  else if (lastL l p).2 = true ∧ n = (lastL l p).1.n then ((lastL l p).1.o, 5)
  else if (lastL l p).2 = true ∧ n < (lastL l p).1.n then (0, 8)
  else if n - 1 = (lastL l p).1.n then (0, 0) else (0, 9)
theorem lastL_no {l : List La} {p : ByteArray} (h : (lastL l p).2 = false) : (lastL l p).1 = default := by
  unfold lastL at h ⊢
  split
  · rfl
  · rename_i h1; rw [if_neg h1] at h; cases h
theorem lastL_mem {l : List La} {p : ByteArray} (h : (lastL l p).2 = true) : (lastL l p).1 ∈ l ∧ (lastL l p).1.p = p := by
  unfold lastL at h ⊢
  rcases findL_lt l p with ⟨h1, _⟩ | ⟨n, hn, h1, h2, _⟩
  · rw [h1] at h; simp at h
  · rw [h1, if_neg (by omega), show ((n : Int)).toNat = n by omega, getD_get hn]
    exact ⟨List.getElem_mem hn, h2⟩
theorem fn36 (l : List La) (p : ByteArray) (n : Int) (hl : l.length < 100000) (hn : 0 ≤ n) (hm : n ≤ 18446744073709551615) : Fn Try.prog 36 [ls l, pS p, pU n] (.pv (.tup [pI (askL l p n).1, pI (askL l p n).2])) [] := by
  refine Run36 [] (by simp) ?_
  simp only [go_sem, Nat.reduceEqDiff, Nat.reduceBEq, Nat.reduceAdd, Nat.reduceMul, Nat.reduceSub, Nat.reduceLeDiff, Nat.reduceLT, reduceIte, reduceCtorEq, Int.reduceToNat, Int.reduceLE, Int.reduceLT, Int.reduceNeg, Bool.not_not, and_self, Bool.and_eq_false_iff, Int.cast_ofNat_Int, Int.reduceAdd, Int.reduceSub, Int.reduceMul, Int.reduceEq, Int.reduceNe, M36]
  refine runR_callf (by simp only [go_sem, Nat.reduceEqDiff, Nat.reduceBEq, Nat.reduceAdd, Nat.reduceMul, Nat.reduceSub, Nat.reduceLeDiff, Nat.reduceLT, reduceIte, reduceCtorEq, Int.reduceToNat, Int.reduceLE, Int.reduceLT, Int.reduceNeg, Bool.not_not, and_self, Bool.and_eq_false_iff, Int.cast_ofNat_Int, Int.reduceAdd, Int.reduceSub, Int.reduceMul, Int.reduceEq, Int.reduceNe]) (by simp only [go_sem, Nat.reduceEqDiff, Nat.reduceBEq, Nat.reduceAdd, Nat.reduceMul, Nat.reduceSub, Nat.reduceLeDiff, Nat.reduceLT, reduceIte, reduceCtorEq, Int.reduceToNat, Int.reduceLE, Int.reduceLT, Int.reduceNeg, Bool.not_not, and_self, Bool.and_eq_false_iff, Int.cast_ofNat_Int, Int.reduceAdd, Int.reduceSub, Int.reduceMul, Int.reduceEq, Int.reduceNe] <;> rfl) (fn43 l hl) ⟨rfl, trivial⟩ trivial ?_
  simp only [go_sem, Nat.reduceEqDiff, Nat.reduceBEq, Nat.reduceAdd, Nat.reduceMul, Nat.reduceSub, Nat.reduceLeDiff, Nat.reduceLT, reduceIte, reduceCtorEq, Int.reduceToNat, Int.reduceLE, Int.reduceLT, Int.reduceNeg, Bool.not_not, and_self, Bool.and_eq_false_iff, Int.cast_ofNat_Int, Int.reduceAdd, Int.reduceSub, Int.reduceMul, Int.reduceEq, Int.reduceNe, errN_dec, errN_iff]
  refine runR_callgf (by simp only [go_sem, Nat.reduceEqDiff, Nat.reduceBEq, Nat.reduceAdd, Nat.reduceMul, Nat.reduceSub, Nat.reduceLeDiff, Nat.reduceLT, reduceIte, reduceCtorEq, Int.reduceToNat, Int.reduceLE, Int.reduceLT, Int.reduceNeg, Bool.not_not, and_self, Bool.and_eq_false_iff, Int.cast_ofNat_Int, Int.reduceAdd, Int.reduceSub, Int.reduceMul, Int.reduceEq, Int.reduceNe]) (by simp only [go_sem, Nat.reduceEqDiff, Nat.reduceBEq, Nat.reduceAdd, Nat.reduceMul, Nat.reduceSub, Nat.reduceLeDiff, Nat.reduceLT, reduceIte, reduceCtorEq, Int.reduceToNat, Int.reduceLE, Int.reduceLT, Int.reduceNeg, Bool.not_not, and_self, Bool.and_eq_false_iff, Int.cast_ofNat_Int, Int.reduceAdd, Int.reduceSub, Int.reduceMul, Int.reduceEq, Int.reduceNe]) (by simp only [go_sem, Nat.reduceEqDiff, Nat.reduceBEq, Nat.reduceAdd, Nat.reduceMul, Nat.reduceSub, Nat.reduceLeDiff, Nat.reduceLT, reduceIte, reduceCtorEq, Int.reduceToNat, Int.reduceLE, Int.reduceLT, Int.reduceNeg, Bool.not_not, and_self, Bool.and_eq_false_iff, Int.cast_ofNat_Int, Int.reduceAdd, Int.reduceSub, Int.reduceMul, Int.reduceEq, Int.reduceNe] <;> rfl) (fun _ => fn81 p) rfl ?_
  simp only [go_sem, Nat.reduceEqDiff, Nat.reduceBEq, Nat.reduceAdd, Nat.reduceMul, Nat.reduceSub, Nat.reduceLeDiff, Nat.reduceLT, reduceIte, reduceCtorEq, Int.reduceToNat, Int.reduceLE, Int.reduceLT, Int.reduceNeg, Bool.not_not, and_self, Bool.and_eq_false_iff, Int.cast_ofNat_Int, Int.reduceAdd, Int.reduceSub, Int.reduceMul, Int.reduceEq, Int.reduceNe]
  refine ⟨fun h => ?_, fun h => ?_⟩
  · rw [show askL l p n = (0, 1) by unfold askL; rw [if_pos (by rcases h with (h | h) | h <;> simp [h])]]
  have h0 : askL l p n = if (lastL l p).2 = true ∧ n = (lastL l p).1.n then ((lastL l p).1.o, 5) else if (lastL l p).2 = true ∧ n < (lastL l p).1.n then (0, 8) else if n - 1 = (lastL l p).1.n then (0, 0) else (0, 9) := by
    unfold askL; rw [if_neg (by rw [h.1.1, h.1.2]; simp; omega)]
  have hno := lastL_no (l := l) (p := p)
  refine runR_callf (by simp only [go_sem, Nat.reduceEqDiff, Nat.reduceBEq, Nat.reduceAdd, Nat.reduceMul, Nat.reduceSub, Nat.reduceLeDiff, Nat.reduceLT, reduceIte, reduceCtorEq, Int.reduceToNat, Int.reduceLE, Int.reduceLT, Int.reduceNeg, Bool.not_not, and_self, Bool.and_eq_false_iff, Int.cast_ofNat_Int, Int.reduceAdd, Int.reduceSub, Int.reduceMul, Int.reduceEq, Int.reduceNe]) (by simp only [go_sem, Nat.reduceEqDiff, Nat.reduceBEq, Nat.reduceAdd, Nat.reduceMul, Nat.reduceSub, Nat.reduceLeDiff, Nat.reduceLT, reduceIte, reduceCtorEq, Int.reduceToNat, Int.reduceLE, Int.reduceLT, Int.reduceNeg, Bool.not_not, and_self, Bool.and_eq_false_iff, Int.cast_ofNat_Int, Int.reduceAdd, Int.reduceSub, Int.reduceMul, Int.reduceEq, Int.reduceNe] <;> rfl) (fn40 l p hl) ⟨rfl, trivial⟩ trivial ?_
  rw [h0]
  generalize lastL l p = y at hno ⊢
  obtain ⟨x, b⟩ := y
  simp only [go_sem, Nat.reduceEqDiff, Nat.reduceBEq, Nat.reduceAdd, Nat.reduceMul, Nat.reduceSub, Nat.reduceLeDiff, Nat.reduceLT, reduceIte, reduceCtorEq, Int.reduceToNat, Int.reduceLE, Int.reduceLT, Int.reduceNeg, Bool.not_not, and_self, Bool.and_eq_false_iff, Int.cast_ofNat_Int, Int.reduceAdd, Int.reduceSub, Int.reduceMul, Int.reduceEq, Int.reduceNe]
  cases b
  · obtain rfl : x = default := hno rfl
    have e0 : (default : La).n = 0 := rfl
    simp only [e0, Bool.false_eq_true, false_and, if_false, forall_const, true_or, true_and]
    refine ⟨fun h => h.elim, fun h => h.elim, ⟨by omega, by omega⟩, fun h => by rw [if_pos h], fun h => by rw [if_neg h]⟩
  · simp only [true_and, Bool.true_eq_false, false_or]
    refine ⟨fun h => by rw [if_pos h], fun h1 => ⟨fun h => by rw [if_neg h1, if_pos h], fun h2 => ⟨⟨by omega, by omega⟩, fun h => by rw [if_neg h1, if_neg h2, if_pos h], fun h => by rw [if_neg h1, if_neg h2, if_neg h]⟩⟩⟩
theorem fn37 (l : List La) (p : ByteArray) (n : Int) (hl : l.length < 100000) (hn : 0 ≤ n) (hm : n ≤ 18446744073709551615) (hs : ∀ x ∈ l, x.p.size ≤ 1000) (hk : ∀ x ∈ l, 0 ≤ x.n) (hp : p.size ≤ 1000) : Fn Try.prog 37 [ls l, pS p, pU n] (.pv (.tup [pI (askL l p n).1, pI (askL l p n).2])) [] := by
  refine Run37 [] (by simp) ?_
  simp only [go_sem, Nat.reduceEqDiff, Nat.reduceBEq, Nat.reduceAdd, Nat.reduceMul, Nat.reduceSub, Nat.reduceLeDiff, Nat.reduceLT, reduceIte, reduceCtorEq, Int.reduceToNat, Int.reduceLE, Int.reduceLT, Int.reduceNeg, Bool.not_not, and_self, Bool.and_eq_false_iff, Int.cast_ofNat_Int, Int.reduceAdd, Int.reduceSub, Int.reduceMul, Int.reduceEq, Int.reduceNe, M37]
  refine runR_callf (by simp only [go_sem, Nat.reduceEqDiff, Nat.reduceBEq, Nat.reduceAdd, Nat.reduceMul, Nat.reduceSub, Nat.reduceLeDiff, Nat.reduceLT, reduceIte, reduceCtorEq, Int.reduceToNat, Int.reduceLE, Int.reduceLT, Int.reduceNeg, Bool.not_not, and_self, Bool.and_eq_false_iff, Int.cast_ofNat_Int, Int.reduceAdd, Int.reduceSub, Int.reduceMul, Int.reduceEq, Int.reduceNe]) (by simp only [go_sem, Nat.reduceEqDiff, Nat.reduceBEq, Nat.reduceAdd, Nat.reduceMul, Nat.reduceSub, Nat.reduceLeDiff, Nat.reduceLT, reduceIte, reduceCtorEq, Int.reduceToNat, Int.reduceLE, Int.reduceLT, Int.reduceNeg, Bool.not_not, and_self, Bool.and_eq_false_iff, Int.cast_ofNat_Int, Int.reduceAdd, Int.reduceSub, Int.reduceMul, Int.reduceEq, Int.reduceNe] <;> rfl) (fn44 l hl hs hk) ⟨rfl, trivial⟩ trivial ?_
  simp only [go_sem, Nat.reduceEqDiff, Nat.reduceBEq, Nat.reduceAdd, Nat.reduceMul, Nat.reduceSub, Nat.reduceLeDiff, Nat.reduceLT, reduceIte, reduceCtorEq, Int.reduceToNat, Int.reduceLE, Int.reduceLT, Int.reduceNeg, Bool.not_not, and_self, Bool.and_eq_false_iff, Int.cast_ofNat_Int, Int.reduceAdd, Int.reduceSub, Int.reduceMul, Int.reduceEq, Int.reduceNe]
  refine runR_callgf (by simp only [go_sem, Nat.reduceEqDiff, Nat.reduceBEq, Nat.reduceAdd, Nat.reduceMul, Nat.reduceSub, Nat.reduceLeDiff, Nat.reduceLT, reduceIte, reduceCtorEq, Int.reduceToNat, Int.reduceLE, Int.reduceLT, Int.reduceNeg, Bool.not_not, and_self, Bool.and_eq_false_iff, Int.cast_ofNat_Int, Int.reduceAdd, Int.reduceSub, Int.reduceMul, Int.reduceEq, Int.reduceNe]) (by simp only [go_sem, Nat.reduceEqDiff, Nat.reduceBEq, Nat.reduceAdd, Nat.reduceMul, Nat.reduceSub, Nat.reduceLeDiff, Nat.reduceLT, reduceIte, reduceCtorEq, Int.reduceToNat, Int.reduceLE, Int.reduceLT, Int.reduceNeg, Bool.not_not, and_self, Bool.and_eq_false_iff, Int.cast_ofNat_Int, Int.reduceAdd, Int.reduceSub, Int.reduceMul, Int.reduceEq, Int.reduceNe]) (by simp only [go_sem, Nat.reduceEqDiff, Nat.reduceBEq, Nat.reduceAdd, Nat.reduceMul, Nat.reduceSub, Nat.reduceLeDiff, Nat.reduceLT, reduceIte, reduceCtorEq, Int.reduceToNat, Int.reduceLE, Int.reduceLT, Int.reduceNeg, Bool.not_not, and_self, Bool.and_eq_false_iff, Int.cast_ofNat_Int, Int.reduceAdd, Int.reduceSub, Int.reduceMul, Int.reduceEq, Int.reduceNe] <;> rfl) (fun _ => fn46 p hp) rfl ?_
  simp only [go_sem, Nat.reduceEqDiff, Nat.reduceBEq, Nat.reduceAdd, Nat.reduceMul, Nat.reduceSub, Nat.reduceLeDiff, Nat.reduceLT, reduceIte, reduceCtorEq, Int.reduceToNat, Int.reduceLE, Int.reduceLT, Int.reduceNeg, Bool.not_not, and_self, Bool.and_eq_false_iff, Int.cast_ofNat_Int, Int.reduceAdd, Int.reduceSub, Int.reduceMul, Int.reduceEq, Int.reduceNe]
  refine ⟨fun h => ?_, fun h => ?_⟩
  · rw [show askL l p n = (0, 1) by unfold askL; rw [if_pos (by rcases h with (h | h) | h <;> simp [h] <;> omega)]]
  have h0 : askL l p n = if (lastL l p).2 = true ∧ n = (lastL l p).1.n then ((lastL l p).1.o, 5) else if (lastL l p).2 = true ∧ n < (lastL l p).1.n then (0, 8) else if n - 1 = (lastL l p).1.n then (0, 0) else (0, 9) := by
    unfold askL; rw [if_neg (by rw [h.1.1, h.1.2]; simp; omega)]
  have hno := lastL_no (l := l) (p := p)
  refine runR_callf (by simp only [go_sem, Nat.reduceEqDiff, Nat.reduceBEq, Nat.reduceAdd, Nat.reduceMul, Nat.reduceSub, Nat.reduceLeDiff, Nat.reduceLT, reduceIte, reduceCtorEq, Int.reduceToNat, Int.reduceLE, Int.reduceLT, Int.reduceNeg, Bool.not_not, and_self, Bool.and_eq_false_iff, Int.cast_ofNat_Int, Int.reduceAdd, Int.reduceSub, Int.reduceMul, Int.reduceEq, Int.reduceNe]) (by simp only [go_sem, Nat.reduceEqDiff, Nat.reduceBEq, Nat.reduceAdd, Nat.reduceMul, Nat.reduceSub, Nat.reduceLeDiff, Nat.reduceLT, reduceIte, reduceCtorEq, Int.reduceToNat, Int.reduceLE, Int.reduceLT, Int.reduceNeg, Bool.not_not, and_self, Bool.and_eq_false_iff, Int.cast_ofNat_Int, Int.reduceAdd, Int.reduceSub, Int.reduceMul, Int.reduceEq, Int.reduceNe] <;> rfl) (fn41 l p hl) ⟨rfl, trivial⟩ trivial ?_
  rw [h0]
  have hmem := lastL_mem (l := l) (p := p)
  generalize lastL l p = y at hno hmem ⊢
  obtain ⟨x, b⟩ := y
  simp only [go_sem, Nat.reduceEqDiff, Nat.reduceBEq, Nat.reduceAdd, Nat.reduceMul, Nat.reduceSub, Nat.reduceLeDiff, Nat.reduceLT, reduceIte, reduceCtorEq, Int.reduceToNat, Int.reduceLE, Int.reduceLT, Int.reduceNeg, Bool.not_not, and_self, Bool.and_eq_false_iff, Int.cast_ofNat_Int, Int.reduceAdd, Int.reduceSub, Int.reduceMul, Int.reduceEq, Int.reduceNe]
  cases b
  · obtain rfl : x = default := hno rfl
    have e0 : (default : La).n = 0 := rfl
    simp only [e0, Bool.false_eq_true, false_and, if_false, forall_const]
    refine ⟨⟨fun h => by rw [if_pos (by omega)], fun h => by rw [if_neg (by omega)]⟩, fun h => h.elim⟩
  · have hx := hk x (hmem rfl).1
    simp only [true_and, Bool.true_eq_false, false_implies, forall_const]
    refine ⟨fun h => by rw [if_pos h], fun h1 => ⟨fun h => by rw [if_neg h1, if_pos h], fun h2 => ⟨⟨by omega, by omega⟩, fun h => by rw [if_neg h1, if_neg h2, if_pos (by omega)], fun h => by rw [if_neg h1, if_neg h2, if_neg (by omega)]⟩⟩⟩
def takeL (l : List La) (x : La) : List La × Int :=
  if (askL l x.p x.n).2 ≠ 0 then ([], (askL l x.p x.n).2)
  else if x.o < 0 then ([], 1)
  else if 0 ≤ findL l x.p then (l.set (findL l x.p).toNat x, 0)
  else if 50 ≤ l.length then ([], 6)
  else (putL l (l.takeWhile (fun y => blL y.p x.p)).length x, 0)
theorem tw_len {α : Type} {q : α → Bool} : ∀ {l : List α} {i : Nat}, i ≤ l.length → (∀ j (h : j < l.length), j < i → q l[j] = true) → (∀ h : i < l.length, q l[i] = false) → (l.takeWhile q).length = i
  | [], i, h0, _, _ => by simp at h0; simp [h0]
  | a :: l, 0, _, _, h => by
    have := h (by simp)
    simp at this
    simp [List.takeWhile_cons, this]
  | a :: l, i + 1, h0, h1, h2 => by
    have h3 := h1 0 (by simp) (by omega)
    simp at h3
    simp only [List.takeWhile_cons, h3, if_true, List.length_cons]
    congr 1
    exact tw_len (by simpa using h0) (fun j hj hji => by have := h1 (j + 1) (by simpa using hj) (by omega); simpa using this) (fun h => by have := h2 (by simpa using h); simpa using this)
theorem fn38 (l : List La) (x : La) (hl : l.length < 100000) (hn : 0 ≤ x.n) (hm : x.n ≤ 18446744073709551615) : Fn Try.prog 38 [ls l, x.pv] (.pv (.tup [ls (takeL l x).1, pI (takeL l x).2])) [] := by
  refine Run38 [false, false] (by simp) ?_
  simp only [go_sem, Nat.reduceEqDiff, Nat.reduceBEq, Nat.reduceAdd, Nat.reduceMul, Nat.reduceSub, Nat.reduceLeDiff, Nat.reduceLT, reduceIte, reduceCtorEq, Int.reduceToNat, Int.reduceLE, Int.reduceLT, Int.reduceNeg, Bool.not_not, and_self, Bool.and_eq_false_iff, Int.cast_ofNat_Int, Int.reduceAdd, Int.reduceSub, Int.reduceMul, Int.reduceEq, Int.reduceNe, M38]
  refine runR_callf (by simp only [go_sem, Nat.reduceEqDiff, Nat.reduceBEq, Nat.reduceAdd, Nat.reduceMul, Nat.reduceSub, Nat.reduceLeDiff, Nat.reduceLT, reduceIte, reduceCtorEq, Int.reduceToNat, Int.reduceLE, Int.reduceLT, Int.reduceNeg, Bool.not_not, and_self, Bool.and_eq_false_iff, Int.cast_ofNat_Int, Int.reduceAdd, Int.reduceSub, Int.reduceMul, Int.reduceEq, Int.reduceNe]) (by simp only [go_sem, Nat.reduceEqDiff, Nat.reduceBEq, Nat.reduceAdd, Nat.reduceMul, Nat.reduceSub, Nat.reduceLeDiff, Nat.reduceLT, reduceIte, reduceCtorEq, Int.reduceToNat, Int.reduceLE, Int.reduceLT, Int.reduceNeg, Bool.not_not, and_self, Bool.and_eq_false_iff, Int.cast_ofNat_Int, Int.reduceAdd, Int.reduceSub, Int.reduceMul, Int.reduceEq, Int.reduceNe] <;> rfl) (fn36 l x.p x.n hl hn hm) ⟨rfl, trivial⟩ trivial ?_
  simp only [go_sem, Nat.reduceEqDiff, Nat.reduceBEq, Nat.reduceAdd, Nat.reduceMul, Nat.reduceSub, Nat.reduceLeDiff, Nat.reduceLT, reduceIte, reduceCtorEq, Int.reduceToNat, Int.reduceLE, Int.reduceLT, Int.reduceNeg, Bool.not_not, and_self, Bool.and_eq_false_iff, Int.cast_ofNat_Int, Int.reduceAdd, Int.reduceSub, Int.reduceMul, Int.reduceEq, Int.reduceNe]
  unfold takeL
  refine ⟨fun h => by rw [if_pos h]; rfl, fun h => ⟨fun ho => by rw [if_neg (by omega), if_pos ho]; rfl, fun ho => ?_⟩⟩
  rw [if_neg (by omega), if_neg ho]
  refine runR_callf (by simp only [go_sem, Nat.reduceEqDiff, Nat.reduceBEq, Nat.reduceAdd, Nat.reduceMul, Nat.reduceSub, Nat.reduceLeDiff, Nat.reduceLT, reduceIte, reduceCtorEq, Int.reduceToNat, Int.reduceLE, Int.reduceLT, Int.reduceNeg, Bool.not_not, and_self, Bool.and_eq_false_iff, Int.cast_ofNat_Int, Int.reduceAdd, Int.reduceSub, Int.reduceMul, Int.reduceEq, Int.reduceNe]) (by simp only [go_sem, Nat.reduceEqDiff, Nat.reduceBEq, Nat.reduceAdd, Nat.reduceMul, Nat.reduceSub, Nat.reduceLeDiff, Nat.reduceLT, reduceIte, reduceCtorEq, Int.reduceToNat, Int.reduceLE, Int.reduceLT, Int.reduceNeg, Bool.not_not, and_self, Bool.and_eq_false_iff, Int.cast_ofNat_Int, Int.reduceAdd, Int.reduceSub, Int.reduceMul, Int.reduceEq, Int.reduceNe] <;> rfl) (fn82 l x.p hl) ⟨rfl, trivial⟩ trivial ?_
  simp only [go_sem, Nat.reduceEqDiff, Nat.reduceBEq, Nat.reduceAdd, Nat.reduceMul, Nat.reduceSub, Nat.reduceLeDiff, Nat.reduceLT, reduceIte, reduceCtorEq, Int.reduceToNat, Int.reduceLE, Int.reduceLT, Int.reduceNeg, Bool.not_not, and_self, Bool.and_eq_false_iff, Int.cast_ofNat_Int, Int.reduceAdd, Int.reduceSub, Int.reduceMul, Int.reduceEq, Int.reduceNe]
  rcases findL_lt l x.p with ⟨h1, _⟩ | ⟨k, hk, h1, h2, _⟩
  · rw [h1]
    refine ⟨fun h => absurd h (by omega), fun _ => ⟨fun h => by rw [if_neg (by omega), if_pos (by omega)]; rfl, fun h5 => ?_⟩⟩
    rw [if_neg (by omega), if_neg (by omega)]
    refine run_loop (T := Nat) (fun i => ⟨[(0, .pv (ls l)), (3, .ptr 3 0), (8, .pv (pI i))], [(3, .box [.pv (pS x.p), .pv (pU x.n), .pv (pI x.o)])]⟩) (fun i => i ≤ l.length ∧ ∀ j (h : j < l.length), j < i → blL (l[j]).p x.p = true) (fun i => l.length - i) 0 rfl ⟨Nat.zero_le _, fun j _ h => absurd h (by omega)⟩ ?_
    intro i ⟨hi, hq⟩
    have fin : ∀ v : AV, (∀ h : i < l.length, blL (l[i]).p x.p = false) → run Try.prog (retK [RV.tmp 4, RV.tmp 5] [false, false] (.pv (.tup [ls (putL l (List.takeWhile (fun y => blL y.p x.p) l).length x), pI 0])) []) R38_0 []
        ⟨[(0, .pv (ls l)), (3, .ptr 3 0), (8, .pv (pI i)), (54, v)], [(3, .box [.pv (pS x.p), .pv (pU x.n), .pv (pI x.o)])]⟩ := fun v hx => by
      rw [tw_len hi hq hx]
      simp only [go_sem, Nat.reduceEqDiff, Nat.reduceBEq, Nat.reduceAdd, Nat.reduceMul, Nat.reduceSub, Nat.reduceLeDiff, Nat.reduceLT, reduceIte, reduceCtorEq, Int.reduceToNat, Int.reduceLE, Int.reduceLT, Int.reduceNeg, Bool.not_not, and_self, Bool.and_eq_false_iff, Int.cast_ofNat_Int, Int.reduceAdd, Int.reduceSub, Int.reduceMul, Int.reduceEq, Int.reduceNe, R38_0]
      refine runG_call (by simp only [go_sem, Nat.reduceEqDiff, Nat.reduceBEq, Nat.reduceAdd, Nat.reduceMul, Nat.reduceSub, Nat.reduceLeDiff, Nat.reduceLT, reduceIte, reduceCtorEq, Int.reduceToNat, Int.reduceLE, Int.reduceLT, Int.reduceNeg, Bool.not_not, and_self, Bool.and_eq_false_iff, Int.cast_ofNat_Int, Int.reduceAdd, Int.reduceSub, Int.reduceMul, Int.reduceEq, Int.reduceNe]) rfl (fn83 l hl) (.inl rfl) trivial ?_
      simp only [go_sem, Nat.reduceEqDiff, Nat.reduceBEq, Nat.reduceAdd, Nat.reduceMul, Nat.reduceSub, Nat.reduceLeDiff, Nat.reduceLT, reduceIte, reduceCtorEq, Int.reduceToNat, Int.reduceLE, Int.reduceLT, Int.reduceNeg, Bool.not_not, and_self, Bool.and_eq_false_iff, Int.cast_ofNat_Int, Int.reduceAdd, Int.reduceSub, Int.reduceMul, Int.reduceEq, Int.reduceNe]
      have hS := fnS84 (l.map La.pv) (wf_ls l) x.pv (wf_ls [x]) i (by simpa using hi) (by simpa using hl)
      rw [List.length_map] at hS
      refine runR_calls (fun _ => 1058) (by simp only [go_sem, Nat.reduceEqDiff, Nat.reduceBEq, Nat.reduceAdd, Nat.reduceMul, Nat.reduceSub, Nat.reduceLeDiff, Nat.reduceLT, reduceIte, reduceCtorEq, Int.reduceToNat, Int.reduceLE, Int.reduceLT, Int.reduceNeg, Bool.not_not, and_self, Bool.and_eq_false_iff, Int.cast_ofNat_Int, Int.reduceAdd, Int.reduceSub, Int.reduceMul, Int.reduceEq, Int.reduceNe]) (by simp only [go_sem, Nat.reduceEqDiff, Nat.reduceBEq, Nat.reduceAdd, Nat.reduceMul, Nat.reduceSub, Nat.reduceLeDiff, Nat.reduceLT, reduceIte, reduceCtorEq, Int.reduceToNat, Int.reduceLE, Int.reduceLT, Int.reduceNeg, Bool.not_not, and_self, Bool.and_eq_false_iff, Int.cast_ofNat_Int, Int.reduceAdd, Int.reduceSub, Int.reduceMul, Int.reduceEq, Int.reduceNe] <;> rfl) hS rfl (by intro e he; simp only [List.mem_cons, List.not_mem_nil, or_false] at he; subst he; simp only [go_sem, Nat.reduceEqDiff, Nat.reduceBEq, Nat.reduceAdd, Nat.reduceMul, Nat.reduceSub, Nat.reduceLeDiff, Nat.reduceLT, reduceIte, reduceCtorEq, Int.reduceToNat, Int.reduceLE, Int.reduceLT, Int.reduceNeg, Bool.not_not, and_self, Bool.and_eq_false_iff, Int.cast_ofNat_Int, Int.reduceAdd, Int.reduceSub, Int.reduceMul, Int.reduceEq, Int.reduceNe]) (by simp) (by simp) (by simp) (by intro e he _; decide) ?_
      simp only [go_sem, Nat.reduceEqDiff, Nat.reduceBEq, Nat.reduceAdd, Nat.reduceMul, Nat.reduceSub, Nat.reduceLeDiff, Nat.reduceLT, reduceIte, reduceCtorEq, Int.reduceToNat, Int.reduceLE, Int.reduceLT, Int.reduceNeg, Bool.not_not, and_self, Bool.and_eq_false_iff, Int.cast_ofNat_Int, Int.reduceAdd, Int.reduceSub, Int.reduceMul, Int.reduceEq, Int.reduceNe]
      rw [putL_map]
    by_cases hlt : i < l.length
    · simp only [go_sem, Nat.reduceEqDiff, Nat.reduceBEq, Nat.reduceAdd, Nat.reduceMul, Nat.reduceSub, Nat.reduceLeDiff, Nat.reduceLT, reduceIte, reduceCtorEq, Int.reduceToNat, Int.reduceLE, Int.reduceLT, Int.reduceNeg, Bool.not_not, and_self, Bool.and_eq_false_iff, Int.cast_ofNat_Int, Int.reduceAdd, Int.reduceSub, Int.reduceMul, Int.reduceEq, Int.reduceNe, B38_0, wf_ls, getD_map hlt, show (i : Int) < (l.length : Int) by omega]
      refine ⟨fun h => ⟨⟨by omega, by omega⟩, i + 1, rfl, ⟨hlt, fun j hj hji => ?_⟩, by omega⟩, fun h => fin _ (fun _ => h)⟩
      by_cases hj2 : j = i
      · subst hj2; exact h
      · exact hq j hj (by omega)
    · simp only [go_sem, Nat.reduceEqDiff, Nat.reduceBEq, Nat.reduceAdd, Nat.reduceMul, Nat.reduceSub, Nat.reduceLeDiff, Nat.reduceLT, reduceIte, reduceCtorEq, Int.reduceToNat, Int.reduceLE, Int.reduceLT, Int.reduceNeg, Bool.not_not, and_self, Bool.and_eq_false_iff, Int.cast_ofNat_Int, Int.reduceAdd, Int.reduceSub, Int.reduceMul, Int.reduceEq, Int.reduceNe, B38_0, wf_ls, show ¬ (i : Int) < (l.length : Int) by omega]
      exact fin _ (fun h => absurd h hlt)
  · rw [h1]
    refine ⟨fun _ => ?_, fun h => absurd h (by omega)⟩
    rw [if_pos (by omega)]
    refine runR_call (by simp only [go_sem, Nat.reduceEqDiff, Nat.reduceBEq, Nat.reduceAdd, Nat.reduceMul, Nat.reduceSub, Nat.reduceLeDiff, Nat.reduceLT, reduceIte, reduceCtorEq, Int.reduceToNat, Int.reduceLE, Int.reduceLT, Int.reduceNeg, Bool.not_not, and_self, Bool.and_eq_false_iff, Int.cast_ofNat_Int, Int.reduceAdd, Int.reduceSub, Int.reduceMul, Int.reduceEq, Int.reduceNe]) rfl (fn83 l hl) (.inl rfl) trivial ?_
    simp only [go_sem, Nat.reduceEqDiff, Nat.reduceBEq, Nat.reduceAdd, Nat.reduceMul, Nat.reduceSub, Nat.reduceLeDiff, Nat.reduceLT, reduceIte, reduceCtorEq, Int.reduceToNat, Int.reduceLE, Int.reduceLT, Int.reduceNeg, Bool.not_not, and_self, Bool.and_eq_false_iff, Int.cast_ofNat_Int, Int.reduceAdd, Int.reduceSub, Int.reduceMul, Int.reduceEq, Int.reduceNe]
    refine ⟨by omega, hk, ?_⟩
    rw [List.take_of_length_le (by simp), getD_map hk]
    unfold ls
    rw [List.map_set]
    rfl
end Go.Vc
