/- A part of the proofs of the seat Ytjlmnegbgmpekaa: the contracts of functions, each proved out of its code. -/
import Derived.Test.YtjlmnegbgmpekaaVh
import Derived.Test.YtjlmnegbgmpekaaProg
namespace Go.Vc
open Go.Proofs
set_option maxRecDepth 100000

/-- 'outbox.Find.1' -/
def M70 : MC := (.seq (.reg [⟨(some 2), none, (.box (.t 0))⟩, ⟨(some 3), none, (.q (.mv (.c (.bool false))))⟩] [] [1, 2] [2]) (.seq (.reg [⟨(some 4), none, (.q (.fa (.t 2) 0))⟩, ⟨(some 5), none,
  (.q (.ld (.t 4) 1 false))⟩, ⟨(some 6), none, (.q (.ld (.t 1) 1 false))⟩, ⟨(some 7), none, (.q (.bin .eql (.t 5) (.t 6)))⟩, ⟨(some 3), none, (.q (.mv (.t 7)))⟩] [] [3] []) .ret))
theorem mc70 : ofCode Try.prog [] Try.f70.ntmps [(0, ⟨[1, 2], [2], [], 0, [], none⟩),
    (1, ⟨[3], [], [], 0, [], none⟩)] (Try.f70.body.getD .skip) = some M70 := by kernel_rfl
theorem Run70 {args : List PV} {v : AV} {rs : List (Nat × List PV)} (ids : List Bool) (h : args.length ≤ 8) (hv : run Try.prog (retK [RV.tmp 3] ids v rs) M70 [] ⟨entry 0 args, []⟩) : Fn Try.prog 70 args v rs :=
  Fn_run ids (by kernel_rfl) Try.func70 (by decide) rfl mc70 (by kernel_rfl) (by rw [Try.ntmps70]; exact h) (by rw [Try.ntmps70]; decide) hv

/-- 'api.Out]' -/
def B69_0 : MC := (.seq (.reg [⟨(some 9), none, (.q (.bin .lss (.t 8) (.t 7)))⟩] [] [0, 1, 7, 8, 9] []) (.seq (.cond (.t 9) .skip (.exit 0)) (.seq (.block 1 (.seq (.reg [⟨(some 10), none,
  (.q (.mv (.t 8)))⟩, ⟨(some 5), none, (.q (.mv (.t 10)))⟩] [] [0, 1, 5, 7, 8] []) (.seq (.reg [⟨(some 11), none, (.q (.mv (.t 1)))⟩, ⟨(some 12), none, (.q (.mv (.t 0)))⟩, ⟨(some 13), none,
  (.q (.mv (.t 5)))⟩, ⟨(some 14), none, (.q (.ia (.t 12) (.t 13) 5))⟩, ⟨(some 15), none, (.q (.ld (.t 14) 5 true))⟩, ⟨(some 16), none, (.call (.t 11) [(.t 15)])⟩] [] [0, 1, 5, 7, 8, 16] [1016])
  (.cond (.t 16) (.seq (.reg [⟨(some 17), none, (.q (.mv (.t 5)))⟩, ⟨(some 4), none, (.q (.mv (.t 17)))⟩] [] [4] []) .ret) .skip)))) (.reg [⟨(some 18), none, (.q (.bin .add (.t 8)
  (.c (.int .i64 1))))⟩, ⟨(some 8), none, (.q (.mv (.t 18)))⟩] [] [0, 1, 7, 8] []))))
def R69_0 : MC := (.seq (.reg [⟨(some 4), none, (.q (.mv (.c (.int .i64 (-1)))))⟩] [] [4] []) .ret)
def M69 : MC := (.seq (.reg [⟨(some 4), none, (.q (.mv (.c (.int .i64 0))))⟩] [] [0, 1] []) (.seq (.seq (.reg [⟨(some 6), none, (.q (.mv (.t 0)))⟩, ⟨(some 7), none, (.q (.len (.t 6) false))⟩,
  ⟨(some 8), none, (.q (.mv (.c (.int .i64 0))))⟩] [] [0, 1, 7, 8] []) (.block 0 (.loop B69_0))) R69_0))
theorem mc69 : ofCode Try.prog [] Try.f69.ntmps [(0, ⟨[0, 1], [], [], 0, [], none⟩),
    (1, ⟨[0, 1, 7, 8], [], [], 0, [], none⟩),
    (2, ⟨[0, 1, 7, 8, 9], [], [], 0, [], none⟩),
    (3, ⟨[0, 1, 5, 7, 8], [], [], 0, [], none⟩),
    (4, ⟨[0, 1, 5, 7, 8, 16], [1016], [], 0, [], none⟩),
    (5, ⟨[4], [], [], 0, [], none⟩),
    (6, ⟨[0, 1, 7, 8], [], [], 0, [], none⟩),
    (7, ⟨[4], [], [], 0, [], none⟩)] (Try.f69.body.getD .skip) = some M69 := by kernel_rfl
theorem Run69 {args : List PV} {v : AV} {rs : List (Nat × List PV)} (ids : List Bool) (h : args.length ≤ 19) (hv : run Try.prog (retK [RV.tmp 4] ids v rs) M69 [] ⟨entry 0 args, []⟩) : Fn Try.prog 69 args v rs :=
  Fn_run ids (by kernel_rfl) Try.func69 (by decide) rfl mc69 (by kernel_rfl) (by rw [Try.ntmps69]; exact h) (by rw [Try.ntmps69]; decide) hv

/-- 'outbox.Find' -/
def M24 : MC := (.seq (.reg [⟨(some 3), none, (.box (.t 1))⟩, ⟨(some 4), none, (.q (.mv (.c (.int .i64 0))))⟩] [] [0, 3] [3]) (.seq (.reg [⟨(some 5), none, (.q (.mv (.t 0)))⟩, ⟨(some 6), none,
  (.q (.clo 70 [(.t 3)]))⟩, ⟨(some 7), none, (.call (.f 69) [(.t 5), (.t 6)])⟩, ⟨(some 4), none, (.q (.mv (.t 7)))⟩] [] [4] [1007]) .ret))
theorem mc24 : ofCode Try.prog [] Try.f24.ntmps [(0, ⟨[0, 3], [3], [], 0, [], none⟩),
    (1, ⟨[4], [1007], [], 0, [], none⟩)] (Try.f24.body.getD .skip) = some M24 := by kernel_rfl
theorem Run24 {args : List PV} {v : AV} {rs : List (Nat × List PV)} (ids : List Bool) (h : args.length ≤ 8) (hv : run Try.prog (retK [RV.tmp 4] ids v rs) M24 [] ⟨entry 0 args, []⟩) : Fn Try.prog 24 args v rs :=
  Fn_run ids (by kernel_rfl) Try.func24 (by decide) rfl mc24 (by kernel_rfl) (by rw [Try.ntmps24]; exact h) (by rw [Try.ntmps24]; decide) hv

/-- 'trystref11.Ids' -/
def B59_0 : MC := (.seq (.seq (.reg [⟨(some 11), none, (.q (.mv (.t 5)))⟩, ⟨(some 12), none, (.q (.mv (.t 0)))⟩, ⟨(some 13), none, (.q (.len (.t 12) false))⟩, ⟨(some 14), none, (.q (.bin .lss (.t 11)
  (.t 13)))⟩] [] [0, 1, 5, 14] []) (.cond (.t 14) .skip (.exit 0))) (.seq (.block 1 (.seq (.reg [⟨(some 17), none, (.q (.mv (.t 0)))⟩, ⟨(some 18), none, (.q (.mv (.t 5)))⟩, ⟨(some 19), none,
  (.q (.ia (.t 17) (.t 18) 1))⟩, ⟨(some 20), none, (.q (.ld (.t 19) 1 false))⟩, ⟨(some 21), none, (.q (.mv (.t 1)))⟩, ⟨(some 22), none, (.q (.mv (.t 5)))⟩, ⟨(some 23), none, (.q (.ia (.t 21) (.t 22)
  1))⟩, ⟨(some 24), none, (.q (.ld (.t 23) 1 false))⟩, ⟨(some 25), none, (.q (.bin .neq (.t 20) (.t 24)))⟩] [] [0, 1, 5, 25] []) (.cond (.t 25) (.seq (.reg [⟨(some 4), none,
  (.q (.mv (.c (.bool false))))⟩] [] [4] []) .ret) .skip))) (.reg [⟨(some 15), none, (.q (.mv (.t 5)))⟩, ⟨(some 16), none, (.q (.bin .add (.t 15) (.c (.int .i64 1))))⟩, ⟨(some 5), none,
  (.q (.mv (.t 16)))⟩] [] [0, 1, 5] [])))
def R59_0 : MC := (.seq (.reg [⟨(some 4), none, (.q (.mv (.c (.bool true))))⟩] [] [4] []) .ret)
def M59 : MC := (.seq (.reg [⟨(some 4), none, (.q (.mv (.c (.bool false))))⟩] [] [0, 1] []) (.seq (.seq (.reg [⟨(some 6), none, (.q (.mv (.t 0)))⟩, ⟨(some 7), none, (.q (.len (.t 6) false))⟩,
  ⟨(some 8), none, (.q (.mv (.t 1)))⟩, ⟨(some 9), none, (.q (.len (.t 8) false))⟩, ⟨(some 10), none, (.q (.bin .neq (.t 7) (.t 9)))⟩] [] [0, 1, 10] []) (.cond (.t 10) (.seq (.reg [⟨(some 4), none,
  (.q (.mv (.c (.bool false))))⟩] [] [4] []) .ret) .skip)) (.seq (.seq (.reg [⟨(some 5), none, (.q (.mv (.c (.int .i64 0))))⟩] [] [0, 1, 5] []) (.block 0 (.loop B59_0))) R59_0)))
theorem mc59 : ofCode Try.prog [] Try.f59.ntmps [(0, ⟨[0, 1], [], [], 0, [], none⟩),
    (1, ⟨[0, 1, 10], [], [], 0, [], none⟩),
    (2, ⟨[4], [], [], 0, [], none⟩),
    (3, ⟨[0, 1, 5], [], [], 0, [], none⟩),
    (4, ⟨[0, 1, 5, 14], [], [], 0, [], none⟩),
    (5, ⟨[0, 1, 5], [], [], 0, [], none⟩),
    (6, ⟨[0, 1, 5, 25], [], [(0, 269), (1, 270), (2, 268), (3, 264), (4, 464), (5, 480), (6, 448), (7, 384), (8, 256)], 511, [], none⟩),
    (7, ⟨[4], [], [], 0, [], none⟩),
    (8, ⟨[4], [], [], 0, [], none⟩)] (Try.f59.body.getD .skip) = some M59 := by kernel_rfl
theorem Run59 {args : List PV} {v : AV} {rs : List (Nat × List PV)} (ids : List Bool) (h : args.length ≤ 26) (hv : run Try.prog (retK [RV.tmp 4] ids v rs) M59 [] ⟨entry 0 args, []⟩) : Fn Try.prog 59 args v rs :=
  Fn_run ids (by kernel_rfl) Try.func59 (by decide) rfl mc59 (by kernel_rfl) (by rw [Try.ntmps59]; exact h) (by rw [Try.ntmps59]; decide) hv

/-- 'trystref15.SameOne' -/
def M32 : MC := (.seq (.reg [⟨(some 2), none, (.box (.t 0))⟩, ⟨(some 3), none, (.box (.t 1))⟩, ⟨(some 4), none, (.q (.mv (.c (.bool false))))⟩] [] [2, 3] [2, 3]) (.seq (.reg [⟨(some 5), none,
  (.q (.fa (.t 2) 0))⟩, ⟨(some 6), none, (.q (.ld (.t 5) 1 false))⟩, ⟨(some 7), none, (.q (.fa (.t 3) 0))⟩, ⟨(some 8), none, (.q (.ld (.t 7) 1 false))⟩, ⟨(some 9), none, (.q (.bin .eql (.t 6)
  (.t 8)))⟩, ⟨(some 10), none, (.q (.mv (.t 9)))⟩, ⟨(some 11), (some (10, true)), (.q (.fa (.t 2) 1))⟩, ⟨(some 12), (some (10, true)), (.q (.ld (.t 11) 1 false))⟩, ⟨(some 13), (some (10, true)),
  (.q (.fa (.t 3) 1))⟩, ⟨(some 14), (some (10, true)), (.q (.ld (.t 13) 1 false))⟩, ⟨(some 15), (some (10, true)), (.q (.bin .eql (.t 12) (.t 14)))⟩, ⟨(some 16), none, (.q (.pick (.t 10) (.t 15)
  (.c (.bool false))))⟩, ⟨(some 17), none, (.q (.mv (.t 16)))⟩, ⟨(some 18), (some (17, true)), (.q (.fa (.t 2) 3))⟩, ⟨(some 19), (some (17, true)), (.q (.ld (.t 18) 1 false))⟩, ⟨(some 20), (some (17,
  true)), (.q (.fa (.t 3) 3))⟩, ⟨(some 21), (some (17, true)), (.q (.ld (.t 20) 1 false))⟩, ⟨(some 22), (some (17, true)), (.q (.bin .eql (.t 19) (.t 21)))⟩, ⟨(some 23), none, (.q (.pick (.t 17)
  (.t 22) (.c (.bool false))))⟩, ⟨(some 24), none, (.q (.mv (.t 23)))⟩, ⟨(some 25), (some (24, true)), (.q (.fa (.t 2) 4))⟩, ⟨(some 26), (some (24, true)), (.q (.ld (.t 25) 1 false))⟩, ⟨(some 27),
  (some (24, true)), (.q (.fa (.t 3) 4))⟩, ⟨(some 28), (some (24, true)), (.q (.ld (.t 27) 1 false))⟩, ⟨(some 29), (some (24, true)), (.q (.bin .eql (.t 26) (.t 28)))⟩, ⟨(some 30), none,
  (.q (.pick (.t 24) (.t 29) (.c (.bool false))))⟩, ⟨(some 31), none, (.q (.mv (.t 30)))⟩, ⟨(some 32), (some (31, true)), (.q (.fa (.t 2) 2))⟩, ⟨(some 33), (some (31, true)), (.q (.ld (.t 32)
  1 false))⟩, ⟨(some 34), (some (31, true)), (.q (.fa (.t 3) 2))⟩, ⟨(some 35), (some (31, true)), (.q (.ld (.t 34) 1 false))⟩, ⟨(some 36), (some (31, true)), (.call (.f 59) [(.t 33), (.t 35)])⟩,
  ⟨(some 37), none, (.q (.pick (.t 31) (.t 36) (.c (.bool false))))⟩, ⟨(some 4), none, (.q (.mv (.t 37)))⟩] [] [4] [1036]) .ret))
theorem mc32 : ofCode Try.prog [] Try.f32.ntmps [(0, ⟨[2, 3], [2, 3], [], 0, [], none⟩),
    (1, ⟨[4], [1036], [], 0, [], none⟩)] (Try.f32.body.getD .skip) = some M32 := by kernel_rfl
theorem Run32 {args : List PV} {v : AV} {rs : List (Nat × List PV)} (ids : List Bool) (h : args.length ≤ 38) (hv : run Try.prog (retK [RV.tmp 4] ids v rs) M32 [] ⟨entry 0 args, []⟩) : Fn Try.prog 32 args v rs :=
  Fn_run ids (by kernel_rfl) Try.func32 (by decide) rfl mc32 (by kernel_rfl) (by rw [Try.ntmps32]; exact h) (by rw [Try.ntmps32]; decide) hv

/-- 'trystref15.Same' -/
def B23_0 : MC := (.seq (.seq (.reg [⟨(some 11), none, (.q (.mv (.t 5)))⟩, ⟨(some 12), none, (.q (.mv (.t 0)))⟩, ⟨(some 13), none, (.q (.len (.t 12) false))⟩, ⟨(some 14), none, (.q (.bin .lss (.t 11)
  (.t 13)))⟩] [] [0, 1, 5, 14] []) (.cond (.t 14) .skip (.exit 0))) (.seq (.block 1 (.seq (.reg [⟨(some 17), none, (.q (.mv (.t 0)))⟩, ⟨(some 18), none, (.q (.mv (.t 5)))⟩, ⟨(some 19), none,
  (.q (.ia (.t 17) (.t 18) 5))⟩, ⟨(some 20), none, (.q (.ld (.t 19) 5 true))⟩, ⟨(some 21), none, (.q (.mv (.t 1)))⟩, ⟨(some 22), none, (.q (.mv (.t 5)))⟩, ⟨(some 23), none, (.q (.ia (.t 21) (.t 22)
  5))⟩, ⟨(some 24), none, (.q (.ld (.t 23) 5 true))⟩, ⟨(some 25), none, (.call (.f 32) [(.t 20), (.t 24)])⟩, ⟨(some 26), none, (.q (.not (.t 25)))⟩] [] [0, 1, 5, 26] [1025]) (.cond (.t 26)
  (.seq (.reg [⟨(some 4), none, (.q (.mv (.c (.bool false))))⟩] [] [4] []) .ret) .skip))) (.reg [⟨(some 15), none, (.q (.mv (.t 5)))⟩, ⟨(some 16), none, (.q (.bin .add (.t 15) (.c (.int .i64 1))))⟩,
  ⟨(some 5), none, (.q (.mv (.t 16)))⟩] [] [0, 1, 5] [])))
def R23_0 : MC := (.seq (.reg [⟨(some 4), none, (.q (.mv (.c (.bool true))))⟩] [] [4] []) .ret)
def M23 : MC := (.seq (.reg [⟨(some 4), none, (.q (.mv (.c (.bool false))))⟩] [] [0, 1] []) (.seq (.seq (.reg [⟨(some 6), none, (.q (.mv (.t 0)))⟩, ⟨(some 7), none, (.q (.len (.t 6) false))⟩,
  ⟨(some 8), none, (.q (.mv (.t 1)))⟩, ⟨(some 9), none, (.q (.len (.t 8) false))⟩, ⟨(some 10), none, (.q (.bin .neq (.t 7) (.t 9)))⟩] [] [0, 1, 10] []) (.cond (.t 10) (.seq (.reg [⟨(some 4), none,
  (.q (.mv (.c (.bool false))))⟩] [] [4] []) .ret) .skip)) (.seq (.seq (.reg [⟨(some 5), none, (.q (.mv (.c (.int .i64 0))))⟩] [] [0, 1, 5] []) (.block 0 (.loop B23_0))) R23_0)))
theorem mc23 : ofCode Try.prog [] Try.f23.ntmps [(0, ⟨[0, 1], [], [], 0, [], none⟩),
    (1, ⟨[0, 1, 10], [], [], 0, [], none⟩),
    (2, ⟨[4], [], [], 0, [], none⟩),
    (3, ⟨[0, 1, 5], [], [], 0, [], none⟩),
    (4, ⟨[0, 1, 5, 14], [], [], 0, [], none⟩),
    (5, ⟨[0, 1, 5], [], [], 0, [], none⟩),
    (6, ⟨[0, 1, 5, 26], [1025], [(0, 781), (1, 782), (2, 780), (3, 776), (4, 976), (5, 992), (6, 960), (7, 896), (8, 0), (9, 512)], 1023, [], none⟩),
    (7, ⟨[4], [], [], 0, [], none⟩),
    (8, ⟨[4], [], [], 0, [], none⟩)] (Try.f23.body.getD .skip) = some M23 := by kernel_rfl
theorem Run23 {args : List PV} {v : AV} {rs : List (Nat × List PV)} (ids : List Bool) (h : args.length ≤ 27) (hv : run Try.prog (retK [RV.tmp 4] ids v rs) M23 [] ⟨entry 0 args, []⟩) : Fn Try.prog 23 args v rs :=
  Fn_run ids (by kernel_rfl) Try.func23 (by decide) rfl mc23 (by kernel_rfl) (by rw [Try.ntmps23]; exact h) (by rw [Try.ntmps23]; decide) hv

/-- 'outbox.at' -/
def M73 : MC := (.seq (.reg [⟨(some 2), none, (.q (.mv (.c (.bool false))))⟩] [] [0] []) (.seq (.reg [⟨(some 3), none, (.q (.mv (.t 0)))⟩, ⟨(some 4), none, (.q (.bin .geq (.t 3) (.c (.int .i64 0))))⟩,
  ⟨(some 5), none, (.q (.mv (.t 4)))⟩, ⟨(some 6), (some (5, true)), (.q (.mv (.t 0)))⟩, ⟨(some 7), (some (5, true)), (.q (.bin .leq (.t 6) (.c (.int .i64 1099511627775))))⟩, ⟨(some 8), none,
  (.q (.pick (.t 5) (.t 7) (.c (.bool false))))⟩, ⟨(some 2), none, (.q (.mv (.t 8)))⟩] [] [2] []) .ret))
theorem mc73 : ofCode Try.prog [] Try.f73.ntmps [(0, ⟨[0], [], [], 0, [], none⟩),
    (1, ⟨[2], [], [], 0, [], none⟩)] (Try.f73.body.getD .skip) = some M73 := by kernel_rfl
theorem Run73 {args : List PV} {v : AV} {rs : List (Nat × List PV)} (ids : List Bool) (h : args.length ≤ 9) (hv : run Try.prog (retK [RV.tmp 2] ids v rs) M73 [] ⟨entry 0 args, []⟩) : Fn Try.prog 73 args v rs :=
  Fn_run ids (by kernel_rfl) Try.func73 (by decide) rfl mc73 (by kernel_rfl) (by rw [Try.ntmps73]; exact h) (by rw [Try.ntmps73]; decide) hv

/-- 'trystlaw02.Few' -/
def M35 : MC := (.seq (.reg [⟨(some 2), none, (.q (.mv (.c (.string ⟨#[]⟩))))⟩] [] [0] []) (.seq (.seq (.reg [⟨(some 3), none, (.q (.mv (.t 0)))⟩, ⟨(some 4), none, (.q (.len (.t 3) true))⟩, ⟨(some 5),
  none, (.q (.bin .gtr (.t 4) (.c (.int .i64 60))))⟩] [] [0, 5] []) (.cond (.t 5) (.seq (.reg [⟨(some 6), none, (.q (.mv (.t 0)))⟩, ⟨(some 7), none, (.q (.slc (.t 6) none (some (.c (.int .i64 60)))
  0 true))⟩, ⟨(some 2), none, (.q (.mv (.t 7)))⟩] [] [2] []) .ret) .skip)) (.seq (.reg [⟨(some 8), none, (.q (.mv (.t 0)))⟩, ⟨(some 2), none, (.q (.mv (.t 8)))⟩] [] [2] []) .ret)))
theorem mc35 : ofCode Try.prog [] Try.f35.ntmps [(0, ⟨[0], [], [], 0, [], none⟩),
    (1, ⟨[0, 5], [], [], 0, [], none⟩),
    (2, ⟨[2], [], [], 0, [], none⟩),
    (3, ⟨[2], [], [], 0, [], none⟩)] (Try.f35.body.getD .skip) = some M35 := by kernel_rfl
theorem Run35 {args : List PV} {v : AV} {rs : List (Nat × List PV)} (ids : List Bool) (h : args.length ≤ 9) (hv : run Try.prog (retK [RV.tmp 2] ids v rs) M35 [] ⟨entry 0 args, []⟩) : Fn Try.prog 35 args v rs :=
  Fn_run ids (by kernel_rfl) Try.func35 (by decide) rfl mc35 (by kernel_rfl) (by rw [Try.ntmps35]; exact h) (by rw [Try.ntmps35]; decide) hv

/-- 'trystlaw15.One' -/
def M26 : MC := (.seq (.reg [⟨(some 1), none, (.box (.t 0))⟩, ⟨(some 2), none, (.alloc [(.pv (.sc (.int .u64 0))), (.pv (.sc (.string ⟨#[]⟩))), .e0, (.pv (.sc (.int .i64 0))),
  (.pv (.sc (.int .i64 0)))])⟩] [] [1, 2] [1, 2, 18, 1005]) (.seq (.reg [⟨(some 3), none, (.q (.fa (.t 1) 1))⟩, ⟨(some 4), none, (.q (.ld (.t 3) 1 false))⟩, ⟨(some 5), none, (.call (.f 35) [(.t 4)])⟩,
  ⟨(some 6), none, (.q (.fa (.t 1) 1))⟩, ⟨none, none, (.st (.t 6) (.t 5) 1)⟩] [] [1, 2] [1, 2, 18, 1005]) (.seq (.seq (.reg [⟨(some 7), none, (.q (.fa (.t 1) 2))⟩, ⟨(some 8), none, (.q (.ld (.t 7)
  1 false))⟩, ⟨(some 9), none, (.q (.len (.t 8) false))⟩, ⟨(some 10), none, (.q (.bin .gtr (.t 9) (.c (.int .i64 31))))⟩] [] [1, 2, 10] [1, 2, 18, 1005]) (.cond (.t 10) (.reg [⟨(some 11), none,
  (.q (.fa (.t 1) 2))⟩, ⟨(some 12), none, (.q (.ld (.t 11) 1 false))⟩, ⟨(some 13), none, (.q (.slc (.t 12) none (some (.c (.int .i64 31))) 1 false))⟩, ⟨(some 14), none, (.q (.fa (.t 1) 2))⟩, ⟨none,
  none, (.st (.t 14) (.t 13) 1)⟩] [] [1, 2] [1, 2, 18, 1005]) .skip)) (.seq (.reg [⟨(some 15), none, (.lits [] 1)⟩, ⟨(some 16), none, (.q (.fa (.t 1) 2))⟩, ⟨(some 17), none, (.q (.ld (.t 16)
  1 false))⟩, ⟨(some 18), none, (.app (.t 15) (.t 17) 1 8)⟩, ⟨(some 19), none, (.q (.fa (.t 1) 2))⟩, ⟨none, none, (.st (.t 19) (.t 18) 1)⟩] [(18, 18, 0)] [1, 2] [1, 2, 18, 1005])
  (.seq (.reg [⟨(some 20), none, (.q (.ld (.t 1) 5 true))⟩, ⟨none, none, (.st (.t 2) (.t 20) 5)⟩] [] [2] [2, 18, 1005]) .ret)))))
theorem mc26 : ofCode Try.prog [] Try.f26.ntmps [(0, ⟨[1, 2], [1, 2, 18, 1005], [], 0, [], none⟩),
    (1, ⟨[1, 2], [1, 2, 18, 1005], [], 0, [], none⟩),
    (2, ⟨[1, 2, 10], [1, 2, 18, 1005], [], 0, [], none⟩),
    (3, ⟨[1, 2], [1, 2, 18, 1005], [], 0, [], none⟩),
    (4, ⟨[1, 2], [1, 2, 18, 1005], [], 0, [(18, 18, 0)], none⟩),
    (5, ⟨[2], [2, 18, 1005], [], 0, [], none⟩)] (Try.f26.body.getD .skip) = some M26 := by kernel_rfl
theorem Run26 {args : List PV} {v : AV} {rs : List (Nat × List PV)} (ids : List Bool) (h : args.length ≤ 21) (hv : run Try.prog (retK [RV.cell 2 5 true] ids v rs) M26 [] ⟨entry 0 args, []⟩) : Fn Try.prog 26 args v rs :=
  Fn_run ids (by kernel_rfl) Try.func26 (by decide) rfl mc26 (by kernel_rfl) (by rw [Try.ntmps26]; exact h) (by rw [Try.ntmps26]; decide) hv

/-- 'trystlaw15.Few' -/
def B20_0 : MC := (.seq (.seq (.reg [⟨(some 5), none, (.q (.mv (.t 4)))⟩, ⟨(some 6), none, (.q (.mv (.t 0)))⟩, ⟨(some 7), none, (.q (.len (.t 6) false))⟩, ⟨(some 8), none, (.q (.bin .lss (.t 5)
  (.t 7)))⟩, ⟨(some 9), none, (.q (.mv (.t 8)))⟩, ⟨(some 10), (some (9, true)), (.q (.mv (.t 4)))⟩, ⟨(some 11), (some (9, true)), (.q (.bin .lss (.t 10) (.c (.int .i64 101))))⟩, ⟨(some 12), none,
  (.q (.pick (.t 9) (.t 11) (.c (.bool false))))⟩] [] [0, 3, 4, 12] [22, 2003]) (.cond (.t 12) .skip (.exit 0))) (.seq (.block 1 (.reg [⟨(some 15), none, (.q (.mv (.t 3)))⟩, ⟨(some 16), none,
  (.q (.mv (.t 0)))⟩, ⟨(some 17), none, (.q (.mv (.t 4)))⟩, ⟨(some 18), none, (.q (.ia (.t 16) (.t 17) 5))⟩, ⟨(some 19), none, (.q (.ld (.t 18) 5 true))⟩, ⟨(some 20), none, (.call (.f 26) [(.t 19)])⟩,
  ⟨(some 21), none, (.lits [(.t 20)] 5)⟩, ⟨(some 22), none, (.app (.t 15) (.t 21) 5 64)⟩, ⟨(some 3), none, (.q (.mv (.t 22)))⟩] [] [0, 3, 4] [22, 2003])) (.reg [⟨(some 13), none, (.q (.mv (.t 4)))⟩,
  ⟨(some 14), none, (.q (.bin .add (.t 13) (.c (.int .i64 1))))⟩, ⟨(some 4), none, (.q (.mv (.t 14)))⟩] [] [0, 3, 4] [22, 2003])))
def R20_0 : MC := (.seq (.reg [⟨(some 23), none, (.q (.mv (.t 3)))⟩, ⟨(some 2), none, (.q (.mv (.t 23)))⟩] [] [2] [22, 2003]) .ret)
def M20 : MC := (.seq (.reg [⟨(some 2), none, (.q (.mv .nil))⟩] [] [0] []) (.seq (.reg [⟨(some 3), none, (.q (.mv .nil))⟩] [(3, 2003, 5)] [0, 3] [22, 2003]) (.seq (.seq (.reg [⟨(some 4), none,
  (.q (.mv (.c (.int .i64 0))))⟩] [] [0, 3, 4] [22, 2003]) (.block 0 (.loop B20_0))) R20_0)))
theorem mc20 : ofCode Try.prog [] Try.f20.ntmps [(0, ⟨[0], [], [], 0, [], none⟩),
    (1, ⟨[0, 3], [22, 2003], [], 0, [(3, 2003, 5)], none⟩),
    (2, ⟨[0, 3, 4], [22, 2003], [], 0, [], none⟩),
    (3, ⟨[0, 3, 4, 12], [22, 2003], [], 0, [], none⟩),
    (4, ⟨[0, 3, 4], [22, 2003], [], 0, [], none⟩),
    (5, ⟨[0, 3, 4], [22, 2003], [], 0, [], none⟩),
    (6, ⟨[2], [22, 2003], [], 0, [], none⟩)] (Try.f20.body.getD .skip) = some M20 := by kernel_rfl
theorem Run20 {args : List PV} {v : AV} {rs : List (Nat × List PV)} (ids : List Bool) (h : args.length ≤ 24) (hv : run Try.prog (retK [RV.tmp 2] ids v rs) M20 [] ⟨entry 0 args, []⟩) : Fn Try.prog 20 args v rs :=
  Fn_run ids (by kernel_rfl) Try.func20 (by decide) rfl mc20 (by kernel_rfl) (by rw [Try.ntmps20]; exact h) (by rw [Try.ntmps20]; decide) hv

/-- 'api.Out]' -/
def M72 : MC := (.seq (.reg [⟨(some 2), none, (.q (.mv .nil))⟩] [] [0] []) (.seq (.seq (.reg [⟨(some 3), none, (.q (.mv (.t 0)))⟩, ⟨(some 4), none, (.isnil (.t 3) false)⟩] [] [0, 4] []) (.cond (.t 4)
  (.seq (.reg [⟨(some 2), none, (.q (.mv .nil))⟩] [(2, 2002, 5)] [2] [7, 2002]) .ret) .skip)) (.seq (.reg [⟨(some 5), none, (.lits [] 5)⟩, ⟨(some 6), none, (.q (.mv (.t 0)))⟩, ⟨(some 7), none,
  (.app (.t 5) (.t 6) 5 64)⟩, ⟨(some 2), none, (.q (.mv (.t 7)))⟩] [] [2] [7, 2002]) .ret)))
theorem mc72 : ofCode Try.prog [] Try.f72.ntmps [(0, ⟨[0], [], [], 0, [], none⟩),
    (1, ⟨[0, 4], [], [], 0, [], none⟩),
    (2, ⟨[2], [7, 2002], [], 0, [(2, 2002, 5)], none⟩),
    (3, ⟨[2], [7, 2002], [], 0, [], none⟩)] (Try.f72.body.getD .skip) = some M72 := by kernel_rfl
theorem Run72 {args : List PV} {v : AV} {rs : List (Nat × List PV)} (ids : List Bool) (h : args.length ≤ 8) (hv : run Try.prog (retK [RV.tmp 2] ids v rs) M72 [] ⟨entry 0 args, []⟩) : Fn Try.prog 72 args v rs :=
  Fn_run ids (by kernel_rfl) Try.func72 (by decide) rfl mc72 (by kernel_rfl) (by rw [Try.ntmps72]; exact h) (by rw [Try.ntmps72]; decide) hv

/-- 'api.Out]' -/
def M98 : MC := (.seq (.reg [⟨(some 6), none, (.q (.mv .nil))⟩] [] [0, 1, 2] [0]) (.seq (.reg [⟨(some 8), none, (.q (.mv (.t 0)))⟩, ⟨(some 9), none, (.q (.mv (.t 1)))⟩, ⟨(some 10), none,
  (.q (.mv (.t 2)))⟩, ⟨(some 11), none, (.q (.mv (.t 0)))⟩, ⟨(some 12), none, (.q (.len (.t 11) false))⟩, ⟨(some 13), none, (.q (.chk (.t 8) (.t 9) (.t 10) (.t 12)))⟩] [] [0, 1, 2] [0])
  (.seq (.seq (.reg [⟨(some 14), none, (.q (.mv (.t 1)))⟩, ⟨(some 15), none, (.q (.mv (.t 2)))⟩, ⟨(some 16), none, (.q (.bin .eql (.t 14) (.t 15)))⟩] [] [0, 1, 2, 16] [0]) (.cond (.t 16)
  (.seq (.reg [⟨(some 17), none, (.q (.mv (.t 0)))⟩, ⟨(some 6), none, (.q (.mv (.t 17)))⟩] [] [6] [0]) .ret) .skip)) (.seq (.reg [⟨(some 18), none, (.q (.mv (.t 0)))⟩, ⟨(some 19), none,
  (.q (.len (.t 18) false))⟩, ⟨(some 7), none, (.q (.mv (.t 19)))⟩] [] [0, 1, 2, 7] [0]) (.seq (.reg [⟨(some 20), none, (.q (.mv (.t 0)))⟩, ⟨(some 21), none, (.q (.mv (.t 1)))⟩, ⟨(some 22), none,
  (.q (.slc (.t 20) none (some (.t 21)) 5 false))⟩, ⟨(some 23), none, (.q (.mv (.t 0)))⟩, ⟨(some 24), none, (.q (.mv (.t 2)))⟩, ⟨(some 25), none, (.q (.slc (.t 23) (some (.t 24)) none 5 false))⟩,
  ⟨(some 26), none, (.appi (.t 22) (.t 25) 5 64)⟩, ⟨(some 0), none, (.q (.mv (.t 26)))⟩] [] [0, 7] [0]) (.seq (.reg [⟨(some 27), none, (.q (.mv (.t 0)))⟩, ⟨(some 28), none, (.q (.mv (.t 0)))⟩,
  ⟨(some 29), none, (.q (.len (.t 28) false))⟩, ⟨(some 30), none, (.q (.mv (.t 7)))⟩, ⟨(some 31), none, (.q (.slcx (.t 27) (some (.t 29)) (some (.t 30)) 5))⟩, ⟨none, none, (.clr (.t 31)
  5 (.agg [(.sc (.int .u64 0)), (.sc (.string ⟨#[]⟩)), (.lst []), (.sc (.int .i64 0)), (.sc (.int .i64 0))]))⟩] [] [0] [0]) (.seq (.reg [⟨(some 32), none, (.q (.mv (.t 0)))⟩, ⟨(some 6), none,
  (.q (.mv (.t 32)))⟩] [] [6] [0]) .ret)))))))
theorem mc98 : ofCode Try.prog [26, 31] Try.f98.ntmps [(0, ⟨[0, 1, 2], [0], [], 0, [], none⟩),
    (1, ⟨[0, 1, 2], [0], [], 0, [], none⟩),
    (2, ⟨[0, 1, 2, 16], [0], [], 0, [], none⟩),
    (3, ⟨[6], [0], [], 0, [], none⟩),
    (4, ⟨[0, 1, 2, 7], [0], [], 0, [], none⟩),
    (5, ⟨[0, 7], [0], [(0, 197), (1, 198), (2, 196), (3, 232), (4, 240), (5, 224), (6, 0), (7, 128)], 191, [], none⟩),
    (6, ⟨[0], [0], [], 0, [], none⟩),
    (7, ⟨[6], [0], [], 0, [], none⟩)] (Try.f98.body.getD .skip) = some M98 := by kernel_rfl
theorem Run98 {args : List PV} {v : AV} {rs : List (Nat × List PV)} (ids : List Bool) (h : args.length ≤ 33) (hv : run Try.prog (retK [RV.tmp 6] ids v rs) M98 [] ⟨entry 0 args, []⟩) : Fn Try.prog 98 args v rs :=
  Fn_run ids (by kernel_rfl) Try.func98 (by decide) rfl mc98 (by kernel_rfl) (by rw [Try.ntmps98]; exact h) (by rw [Try.ntmps98]; decide) hv
theorem RunS98 {args : List AV} {st st' : List (Nat × Row)} {v : AV} (h : args.length ≤ 33) (hk : (st'.map (·.1)).Nodup) (hv : run Try.prog (retS [RV.tmp 6] v st') M98 [] ⟨entryA 0 args, st⟩) : FnS Try.prog 98 args st v st' :=
  FnS_run (by kernel_rfl) Try.func98 (by decide) rfl mc98 (by kernel_rfl) (by rw [Try.ntmps98]; exact h) (by rw [Try.ntmps98]; decide) hk hv

/-- 'outbox.without' -/
def M68 : MC := (.seq (.reg [⟨(some 4), none, (.q (.mv .nil))⟩] [] [0, 1] []) (.seq (.reg [⟨(some 5), none, (.q (.mv (.t 0)))⟩, ⟨(some 6), none, (.call (.f 72) [(.t 5)])⟩, ⟨(some 7), none,
  (.q (.mv (.t 1)))⟩, ⟨(some 8), none, (.q (.mv (.t 1)))⟩, ⟨(some 9), none, (.q (.bin .add (.t 8) (.c (.int .i64 1))))⟩, ⟨(some 10), none, (.calls (.f 98) [(.t 6), (.t 7), (.t 9)])⟩, ⟨(some 4), none,
  (.q (.mv (.t 10)))⟩] [] [4] [1006, 1010]) .ret))
theorem mc68 : ofCode Try.prog [10] Try.f68.ntmps [(0, ⟨[0, 1], [], [], 0, [], none⟩),
    (1, ⟨[4], [1006, 1010], [], 0, [], none⟩)] (Try.f68.body.getD .skip) = some M68 := by kernel_rfl
theorem Run68 {args : List PV} {v : AV} {rs : List (Nat × List PV)} (ids : List Bool) (h : args.length ≤ 11) (hv : run Try.prog (retK [RV.tmp 4] ids v rs) M68 [] ⟨entry 0 args, []⟩) : Fn Try.prog 68 args v rs :=
  Fn_run ids (by kernel_rfl) Try.func68 (by decide) rfl mc68 (by kernel_rfl) (by rw [Try.ntmps68]; exact h) (by rw [Try.ntmps68]; decide) hv

/-- 'outbox.may' -/
def M71 : MC := (.seq (.reg [⟨(some 1), none, (.box (.t 0))⟩, ⟨(some 2), none, (.q (.mv (.c (.bool false))))⟩] [] [1] [1]) (.seq (.reg [⟨(some 3), none, (.q (.fa (.t 1) 0))⟩, ⟨(some 4), none,
  (.q (.ld (.t 3) 1 false))⟩, ⟨(some 5), none, (.q (.bin .geq (.t 4) (.c (.int .u64 1))))⟩, ⟨(some 6), none, (.q (.mv (.t 5)))⟩, ⟨(some 7), (some (6, true)), (.q (.fa (.t 1) 1))⟩, ⟨(some 8), (some (6,
  true)), (.q (.ld (.t 7) 1 false))⟩, ⟨(some 9), (some (6, true)), (.call (.f 81) [(.t 8)])⟩, ⟨(some 10), none, (.q (.pick (.t 6) (.t 9) (.c (.bool false))))⟩, ⟨(some 11), none, (.q (.mv (.t 10)))⟩,
  ⟨(some 12), (some (11, true)), (.q (.fa (.t 1) 2))⟩, ⟨(some 13), (some (11, true)), (.q (.ld (.t 12) 1 false))⟩, ⟨(some 14), (some (11, true)), (.q (.len (.t 13) false))⟩, ⟨(some 15), (some (11,
  true)), (.q (.bin .geq (.t 14) (.c (.int .i64 1))))⟩, ⟨(some 16), none, (.q (.pick (.t 11) (.t 15) (.c (.bool false))))⟩, ⟨(some 17), none, (.q (.mv (.t 16)))⟩, ⟨(some 18), (some (17, true)),
  (.q (.fa (.t 1) 2))⟩, ⟨(some 19), (some (17, true)), (.q (.ld (.t 18) 1 false))⟩, ⟨(some 20), (some (17, true)), (.q (.len (.t 19) false))⟩, ⟨(some 21), (some (17, true)), (.q (.bin .leq (.t 20)
  (.c (.int .i64 30))))⟩, ⟨(some 22), none, (.q (.pick (.t 17) (.t 21) (.c (.bool false))))⟩, ⟨(some 23), none, (.q (.mv (.t 22)))⟩, ⟨(some 24), (some (23, true)), (.q (.fa (.t 1) 3))⟩, ⟨(some 25),
  (some (23, true)), (.q (.ld (.t 24) 1 false))⟩, ⟨(some 26), (some (23, true)), (.q (.bin .geq (.t 25) (.c (.int .i64 0))))⟩, ⟨(some 27), none, (.q (.pick (.t 23) (.t 26) (.c (.bool false))))⟩,
  ⟨(some 28), none, (.q (.mv (.t 27)))⟩, ⟨(some 29), (some (28, true)), (.q (.fa (.t 1) 3))⟩, ⟨(some 30), (some (28, true)), (.q (.ld (.t 29) 1 false))⟩, ⟨(some 31), (some (28, true)),
  (.q (.bin .lss (.t 30) (.c (.int .i64 5))))⟩, ⟨(some 32), none, (.q (.pick (.t 28) (.t 31) (.c (.bool false))))⟩, ⟨(some 33), none, (.q (.mv (.t 32)))⟩, ⟨(some 34), (some (33, true)),
  (.q (.fa (.t 1) 4))⟩, ⟨(some 35), (some (33, true)), (.q (.ld (.t 34) 1 false))⟩, ⟨(some 36), (some (33, true)), (.call (.f 73) [(.t 35)])⟩, ⟨(some 37), none, (.q (.pick (.t 33) (.t 36)
  (.c (.bool false))))⟩, ⟨(some 2), none, (.q (.mv (.t 37)))⟩] [] [2] [1009, 1036]) .ret))
theorem mc71 : ofCode Try.prog [] Try.f71.ntmps [(0, ⟨[1], [1], [], 0, [], none⟩),
    (1, ⟨[2], [1009, 1036], [], 0, [], none⟩)] (Try.f71.body.getD .skip) = some M71 := by kernel_rfl
theorem Run71 {args : List PV} {v : AV} {rs : List (Nat × List PV)} (ids : List Bool) (h : args.length ≤ 38) (hv : run Try.prog (retK [RV.tmp 2] ids v rs) M71 [] ⟨entry 0 args, []⟩) : Fn Try.prog 71 args v rs :=
  Fn_run ids (by kernel_rfl) Try.func71 (by decide) rfl mc71 (by kernel_rfl) (by rw [Try.ntmps71]; exact h) (by rw [Try.ntmps71]; decide) hv

/-- 'outbox.Check' -/
def B33_0 : MC := (.seq (.reg [⟨(some 11), none, (.q (.bin .lss (.t 10) (.t 9)))⟩] [] [0, 8, 9, 10, 11] []) (.seq (.cond (.t 11) .skip (.exit 0)) (.seq (.block 1 (.seq (.reg [⟨(some 12), none,
  (.q (.mv (.t 10)))⟩, ⟨(some 13), none, (.q (.ia (.t 8) (.t 10) 5))⟩, ⟨(some 14), none, (.q (.ld (.t 13) 5 true))⟩, ⟨(some 4), none, (.alloc [(.pv (.sc (.int .u64 0))), (.pv (.sc (.string ⟨#[]⟩))),
  .e0, (.pv (.sc (.int .i64 0))), (.pv (.sc (.int .i64 0)))])⟩, ⟨(some 3), none, (.q (.mv (.t 12)))⟩, ⟨none, none, (.st (.t 4) (.t 14) 5)⟩] [] [0, 3, 4, 8, 9, 10] [4]) (.seq (.reg [⟨(some 15), none,
  (.q (.ld (.t 4) 5 true))⟩, ⟨(some 16), none, (.call (.f 71) [(.t 15)])⟩, ⟨(some 17), none, (.q (.not (.t 16)))⟩, ⟨(some 18), none, (.q (.mv (.t 17)))⟩, ⟨(some 19), (some (18, false)),
  (.q (.mv (.t 3)))⟩, ⟨(some 20), (some (18, false)), (.q (.bin .gtr (.t 19) (.c (.int .i64 0))))⟩, ⟨(some 21), (some (18, false)), (.q (.mv (.t 20)))⟩, ⟨(some 22), (some (21, true)),
  (.q (.mv (.t 0)))⟩, ⟨(some 23), (some (21, true)), (.q (.mv (.t 3)))⟩, ⟨(some 24), (some (21, true)), (.q (.bin .sub (.t 23) (.c (.int .i64 1))))⟩, ⟨(some 25), (some (21, true)), (.q (.ia (.t 22)
  (.t 24) 5))⟩, ⟨(some 26), (some (21, true)), (.q (.fa (.t 25) 0))⟩, ⟨(some 27), (some (21, true)), (.q (.ld (.t 26) 1 false))⟩, ⟨(some 28), (some (21, true)), (.q (.fa (.t 4) 0))⟩, ⟨(some 29),
  (some (21, true)), (.q (.ld (.t 28) 1 false))⟩, ⟨(some 30), (some (21, true)), (.q (.bin .geq (.t 27) (.t 29)))⟩, ⟨(some 31), (some (18, false)), (.q (.pick (.t 21) (.t 30) (.c (.bool false))))⟩,
  ⟨(some 32), none, (.q (.pick (.t 18) (.c (.bool true)) (.t 31)))⟩] [] [0, 8, 9, 10, 32] [1016]) (.cond (.t 32) (.seq (.reg [⟨(some 2), none, (.q (.mv (.c (.int .i64 1))))⟩] [] [2] []) .ret)
  .skip)))) (.reg [⟨(some 33), none, (.q (.bin .add (.t 10) (.c (.int .i64 1))))⟩, ⟨(some 10), none, (.q (.mv (.t 33)))⟩] [] [0, 8, 9, 10] []))))
def R33_0 : MC := (.seq (.reg [⟨(some 2), none, (.q (.mv (.c (.int .i64 0))))⟩] [] [2] []) .ret)
def M33 : MC := (.seq (.reg [⟨(some 2), none, (.q (.mv (.c (.int .i64 0))))⟩] [] [0] []) (.seq (.seq (.reg [⟨(some 5), none, (.q (.mv (.t 0)))⟩, ⟨(some 6), none, (.q (.len (.t 5) false))⟩, ⟨(some 7),
  none, (.q (.bin .gtr (.t 6) (.c (.int .i64 100))))⟩] [] [0, 7] []) (.cond (.t 7) (.seq (.reg [⟨(some 2), none, (.q (.mv (.c (.int .i64 1))))⟩] [] [2] []) .ret) .skip)) (.seq (.seq (.reg [⟨(some 8),
  none, (.q (.mv (.t 0)))⟩, ⟨(some 9), none, (.q (.len (.t 8) false))⟩, ⟨(some 10), none, (.q (.mv (.c (.int .i64 0))))⟩] [] [0, 8, 9, 10] []) (.block 0 (.loop B33_0))) R33_0)))
theorem mc33 : ofCode Try.prog [] Try.f33.ntmps [(0, ⟨[0], [], [], 0, [], none⟩),
    (1, ⟨[0, 7], [], [], 0, [], none⟩),
    (2, ⟨[2], [], [], 0, [], none⟩),
    (3, ⟨[0, 8, 9, 10], [], [], 0, [], none⟩),
    (4, ⟨[0, 8, 9, 10, 11], [], [], 0, [], none⟩),
    (5, ⟨[0, 3, 4, 8, 9, 10], [4], [], 0, [], none⟩),
    (6, ⟨[0, 8, 9, 10, 32], [1016], [(0, 262143), (1, 0), (2, 262140), (3, 262136), (4, 262128), (5, 262112), (6, 262080), (7, 236672), (8, 237312), (9, 237056), (10, 236544), (11, 235520), (12, 233472), (13, 253952), (14, 245760), (15, 229376), (16, 196608), (17, 131072)], 262143, [], none⟩),
    (7, ⟨[2], [], [], 0, [], none⟩),
    (8, ⟨[0, 8, 9, 10], [], [], 0, [], none⟩),
    (9, ⟨[2], [], [], 0, [], none⟩)] (Try.f33.body.getD .skip) = some M33 := by kernel_rfl
theorem Run33 {args : List PV} {v : AV} {rs : List (Nat × List PV)} (ids : List Bool) (h : args.length ≤ 34) (hv : run Try.prog (retK [RV.tmp 2] ids v rs) M33 [] ⟨entry 0 args, []⟩) : Fn Try.prog 33 args v rs :=
  Fn_run ids (by kernel_rfl) Try.func33 (by decide) rfl mc33 (by kernel_rfl) (by rw [Try.ntmps33]; exact h) (by rw [Try.ntmps33]; decide) hv

/-- 'outbox.Ack' -/
def M21 : MC := (.seq (.reg [⟨(some 4), none, (.q (.mv .nil))⟩, ⟨(some 5), none, (.q (.mv (.c (.int .i64 0))))⟩] [] [0, 1] []) (.seq (.seq (.reg [⟨(some 7), none, (.q (.mv (.t 0)))⟩, ⟨(some 8), none,
  (.call (.f 33) [(.t 7)])⟩, ⟨(some 9), none, (.q (.bin .neq (.t 8) (.c (.int .i64 0))))⟩] [] [0, 1, 9] [1008]) (.cond (.t 9) (.seq (.reg [⟨(some 4), none, (.q (.mv .nil))⟩, ⟨(some 5), none,
  (.q (.mv (.c (.int .i64 1))))⟩] [] [4, 5] [1017]) .ret) .skip)) (.seq (.reg [⟨(some 10), none, (.q (.mv (.t 0)))⟩, ⟨(some 11), none, (.q (.mv (.t 1)))⟩, ⟨(some 12), none, (.call (.f 24) [(.t 10),
  (.t 11)])⟩, ⟨(some 6), none, (.q (.mv (.t 12)))⟩] [] [0, 6] [1012]) (.seq (.seq (.reg [⟨(some 13), none, (.q (.mv (.t 6)))⟩, ⟨(some 14), none, (.q (.bin .lss (.t 13) (.c (.int .i64 0))))⟩] [] [0, 6,
  14] [1012]) (.cond (.t 14) (.seq (.reg [⟨(some 4), none, (.q (.mv .nil))⟩, ⟨(some 5), none, (.q (.mv (.c (.int .i64 4))))⟩] [] [4, 5] [1017]) .ret) .skip)) (.seq (.reg [⟨(some 15), none,
  (.q (.mv (.t 0)))⟩, ⟨(some 16), none, (.q (.mv (.t 6)))⟩, ⟨(some 17), none, (.call (.f 68) [(.t 15), (.t 16)])⟩, ⟨(some 4), none, (.q (.mv (.t 17)))⟩, ⟨(some 5), none,
  (.q (.mv (.c (.int .i64 0))))⟩] [] [4, 5] [1017]) .ret)))))
theorem mc21 : ofCode Try.prog [] Try.f21.ntmps [(0, ⟨[0, 1], [], [], 0, [], none⟩),
    (1, ⟨[0, 1, 9], [1008], [], 0, [], none⟩),
    (2, ⟨[4, 5], [1017], [], 0, [], none⟩),
    (3, ⟨[0, 6], [1012], [], 0, [], none⟩),
    (4, ⟨[0, 6, 14], [1012], [], 0, [], none⟩),
    (5, ⟨[4, 5], [1017], [], 0, [], none⟩),
    (6, ⟨[4, 5], [1017], [], 0, [], none⟩)] (Try.f21.body.getD .skip) = some M21 := by kernel_rfl
theorem Run21 {args : List PV} {v : AV} {rs : List (Nat × List PV)} (ids : List Bool) (h : args.length ≤ 18) (hv : run Try.prog (retK [RV.tmp 4, RV.tmp 5] ids v rs) M21 [] ⟨entry 0 args, []⟩) : Fn Try.prog 21 args v rs :=
  Fn_run ids (by kernel_rfl) Try.func21 (by decide) rfl mc21 (by kernel_rfl) (by rw [Try.ntmps21]; exact h) (by rw [Try.ntmps21]; decide) hv

/-- 'outbox.Add' -/
def M25 : MC := (.seq (.reg [⟨(some 3), none, (.box (.t 1))⟩, ⟨(some 4), none, (.q (.mv .nil))⟩, ⟨(some 5), none, (.q (.mv (.c (.int .i64 0))))⟩] [] [0, 3] [3]) (.seq (.seq (.reg [⟨(some 6), none,
  (.q (.mv (.t 0)))⟩, ⟨(some 7), none, (.call (.f 33) [(.t 6)])⟩, ⟨(some 8), none, (.q (.bin .neq (.t 7) (.c (.int .i64 0))))⟩, ⟨(some 9), none, (.q (.mv (.t 8)))⟩, ⟨(some 10), (some (9, false)),
  (.q (.ld (.t 3) 5 true))⟩, ⟨(some 11), (some (9, false)), (.call (.f 71) [(.t 10)])⟩, ⟨(some 12), (some (9, false)), (.q (.not (.t 11)))⟩, ⟨(some 13), none, (.q (.pick (.t 9) (.c (.bool true))
  (.t 12)))⟩] [] [0, 3, 13] [3, 1007, 1011]) (.cond (.t 13) (.seq (.reg [⟨(some 4), none, (.q (.mv .nil))⟩, ⟨(some 5), none, (.q (.mv (.c (.int .i64 1))))⟩] [] [4, 5] [36, 1033]) .ret) .skip))
  (.seq (.seq (.reg [⟨(some 14), none, (.q (.mv (.t 0)))⟩, ⟨(some 15), none, (.q (.len (.t 14) false))⟩, ⟨(some 16), none, (.q (.bin .gtr (.t 15) (.c (.int .i64 0))))⟩, ⟨(some 17), none,
  (.q (.mv (.t 16)))⟩, ⟨(some 18), (some (17, true)), (.q (.mv (.t 0)))⟩, ⟨(some 19), (some (17, true)), (.q (.mv (.t 0)))⟩, ⟨(some 20), (some (17, true)), (.q (.len (.t 19) false))⟩, ⟨(some 21),
  (some (17, true)), (.q (.bin .sub (.t 20) (.c (.int .i64 1))))⟩, ⟨(some 22), (some (17, true)), (.q (.ia (.t 18) (.t 21) 5))⟩, ⟨(some 23), (some (17, true)), (.q (.fa (.t 22) 0))⟩, ⟨(some 24),
  (some (17, true)), (.q (.ld (.t 23) 1 false))⟩, ⟨(some 25), (some (17, true)), (.q (.fa (.t 3) 0))⟩, ⟨(some 26), (some (17, true)), (.q (.ld (.t 25) 1 false))⟩, ⟨(some 27), (some (17, true)),
  (.q (.bin .geq (.t 24) (.t 26)))⟩, ⟨(some 28), none, (.q (.pick (.t 17) (.t 27) (.c (.bool false))))⟩] [] [0, 3, 28] [3]) (.cond (.t 28) (.seq (.reg [⟨(some 4), none, (.q (.mv .nil))⟩, ⟨(some 5),
  none, (.q (.mv (.c (.int .i64 8))))⟩] [] [4, 5] [36, 1033]) .ret) .skip)) (.seq (.seq (.reg [⟨(some 29), none, (.q (.mv (.t 0)))⟩, ⟨(some 30), none, (.q (.len (.t 29) false))⟩, ⟨(some 31), none,
  (.q (.bin .geq (.t 30) (.c (.int .i64 100))))⟩] [] [0, 3, 31] [3]) (.cond (.t 31) (.seq (.reg [⟨(some 4), none, (.q (.mv .nil))⟩, ⟨(some 5), none, (.q (.mv (.c (.int .i64 6))))⟩] [] [4, 5] [36,
  1033]) .ret) .skip)) (.seq (.seq (.grp [1033] [⟨32, none, (.q (.mv (.t 0))), [0], []⟩, ⟨33, none, (.call (.f 72) [(.t 32)]), [32], []⟩, ⟨34, none, (.q (.ld (.t 3) 5 true)), [3], [3]⟩, ⟨35, none,
  (.lits [(.t 34)] 5), [34], []⟩] [4, 5, 33, 35, 36] [36, 1033]) (.reg [⟨(some 36), none, (.app (.t 33) (.t 35) 5 64)⟩, ⟨(some 4), none, (.q (.mv (.t 36)))⟩, ⟨(some 5), none,
  (.q (.mv (.c (.int .i64 0))))⟩] [] [4, 5] [36, 1033])) .ret)))))
theorem mc25 : ofCode Try.prog [] Try.f25.ntmps [(0, ⟨[0, 3], [3], [], 0, [], none⟩),
    (1, ⟨[0, 3, 13], [3, 1007, 1011], [], 0, [], none⟩),
    (2, ⟨[4, 5], [36, 1033], [], 0, [], none⟩),
    (3, ⟨[0, 3, 28], [3], [(0, 32767), (1, 32766), (2, 32764), (3, 32760), (4, 26384), (5, 26592), (6, 26560), (7, 26496), (8, 26368), (9, 26112), (10, 25600), (11, 30720), (12, 28672), (13, 24576), (14, 16384)], 32767, [], none⟩),
    (4, ⟨[4, 5], [36, 1033], [], 0, [], none⟩),
    (5, ⟨[0, 3, 31], [3], [], 0, [], none⟩),
    (6, ⟨[4, 5], [36, 1033], [], 0, [], none⟩),
    (7, ⟨[4, 5], [36, 1033], [(4, 0), (5, 96), (6, 64)], 111, [], some ⟨[1033], [(0, [0], []), (1, [32], []), (2, [3], [3]), (3, [34], [])], [4, 5, 33, 35, 36], [36, 1033]⟩⟩)] (Try.f25.body.getD .skip) = some M25 := by kernel_rfl
theorem Run25 {args : List PV} {v : AV} {rs : List (Nat × List PV)} (ids : List Bool) (h : args.length ≤ 37) (hv : run Try.prog (retK [RV.tmp 4, RV.tmp 5] ids v rs) M25 [] ⟨entry 0 args, []⟩) : Fn Try.prog 25 args v rs :=
  Fn_run ids (by kernel_rfl) Try.func25 (by decide) rfl mc25 (by kernel_rfl) (by rw [Try.ntmps25]; exact h) (by rw [Try.ntmps25]; decide) hv

end Go.Vc

namespace Go.Vc
open Go.Proofs
set_option linter.unusedSimpArgs false
set_option linter.unusedVariables false

structure Ot where
  id : Int
  sub : ByteArray
  ids : List Int
  tries : Int
  due : Int
  deriving DecidableEq
instance : Inhabited Ot := ⟨⟨0, ⟨#[]⟩, [], 0, 0⟩⟩
abbrev Ot.pv (x : Ot) : PV := .agg [pU x.id, pS x.sub, us x.ids, pI x.tries, pI x.due]
abbrev os (l : List Ot) : PV := .lst (l.map Ot.pv)
theorem wf_os (l : List Ot) : WfL 5 (l.map Ot.pv) := wf_map (f := Ot.pv) (s := 5) (fun a => ⟨rfl, fun c hc => by
  simp only [PV.cells, List.mem_cons, List.not_mem_nil, or_false] at hc
  rcases hc with rfl | rfl | rfl | rfl | rfl <;> rfl⟩) l
theorem fn70 (x : Ot) (n : Int) : Fn Try.prog 70 [x.pv, .pt [pU n]] (.pv (pB (decide (x.id = n)))) [] := by
  refine Run70 [] (by simp) ?_
  simp only [go_sem, Nat.reduceEqDiff, Nat.reduceBEq, Nat.reduceAdd, Nat.reduceMul, Nat.reduceSub, Nat.reduceLeDiff, Nat.reduceLT, reduceIte, reduceCtorEq, Int.reduceToNat, Int.reduceLE, Int.reduceLT, Int.reduceNeg, Bool.not_not, and_self, Bool.and_eq_false_iff, Int.cast_ofNat_Int, Int.reduceAdd, Int.reduceSub, Int.reduceMul, Int.reduceEq, Int.reduceNe, M70]
theorem fn69 (l : List Ot) (g : Nat) (caps : List PV) (q : Ot → Bool) (hl : l.length < 100000) (hg : ∀ k ∈ l, Fn Try.prog g (k.pv :: caps) (.pv (pB (q k))) []) :
    Fn Try.prog 69 [os l, .fn g caps] (.pv (pI (idxA q l))) [] := by
  refine Run69 [] (by simp) ?_
  simp only [go_sem, Nat.reduceEqDiff, Nat.reduceBEq, Nat.reduceAdd, Nat.reduceMul, Nat.reduceSub, Nat.reduceLeDiff, Nat.reduceLT, reduceIte, reduceCtorEq, Int.reduceToNat, Int.reduceLE, Int.reduceLT, Int.reduceNeg, Bool.not_not, and_self, Bool.and_eq_false_iff, Int.cast_ofNat_Int, Int.reduceAdd, Int.reduceSub, Int.reduceMul, Int.reduceEq, Int.reduceNe, M69]
  refine run_loop (T := Nat) (fun i => ⟨[(0, .pv (os l)), (1, .pv (.fn g caps)), (7, .pv (pI l.length)), (8, .pv (pI i))], []⟩) (fun i => i ≤ l.length ∧ ∀ j (h : j < l.length), j < i → q l[j] = false) (fun i => l.length - i) 0 rfl ⟨Nat.zero_le _, fun j _ h => absurd h (by omega)⟩ ?_
  intro i ⟨hi, hq⟩
  by_cases hlt : i < l.length
  · simp only [go_sem, Nat.reduceEqDiff, Nat.reduceBEq, Nat.reduceAdd, Nat.reduceMul, Nat.reduceSub, Nat.reduceLeDiff, Nat.reduceLT, reduceIte, reduceCtorEq, Int.reduceToNat, Int.reduceLE, Int.reduceLT, Int.reduceNeg, Bool.not_not, and_self, Bool.and_eq_false_iff, Int.cast_ofNat_Int, Int.reduceAdd, Int.reduceSub, Int.reduceMul, Int.reduceEq, Int.reduceNe, B69_0, wf_os, getD_map hlt, show (i : Int) < (l.length : Int) by omega]
    refine runR_callf (by simp only [go_sem, Nat.reduceEqDiff, Nat.reduceBEq, Nat.reduceAdd, Nat.reduceMul, Nat.reduceSub, Nat.reduceLeDiff, Nat.reduceLT, reduceIte, reduceCtorEq, Int.reduceToNat, Int.reduceLE, Int.reduceLT, Int.reduceNeg, Bool.not_not, and_self, Bool.and_eq_false_iff, Int.cast_ofNat_Int, Int.reduceAdd, Int.reduceSub, Int.reduceMul, Int.reduceEq, Int.reduceNe]) (by simp only [go_sem, Nat.reduceEqDiff, Nat.reduceBEq, Nat.reduceAdd, Nat.reduceMul, Nat.reduceSub, Nat.reduceLeDiff, Nat.reduceLT, reduceIte, reduceCtorEq, Int.reduceToNat, Int.reduceLE, Int.reduceLT, Int.reduceNeg, Bool.not_not, and_self, Bool.and_eq_false_iff, Int.cast_ofNat_Int, Int.reduceAdd, Int.reduceSub, Int.reduceMul, Int.reduceEq, Int.reduceNe, snapL_pv _ 3]) (hg _ (List.getElem_mem hlt)) ⟨rfl, trivial⟩ trivial ?_
    simp only [go_sem, Nat.reduceEqDiff, Nat.reduceBEq, Nat.reduceAdd, Nat.reduceMul, Nat.reduceSub, Nat.reduceLeDiff, Nat.reduceLT, reduceIte, reduceCtorEq, Int.reduceToNat, Int.reduceLE, Int.reduceLT, Int.reduceNeg, Bool.not_not, and_self, Bool.and_eq_false_iff, Int.cast_ofNat_Int, Int.reduceAdd, Int.reduceSub, Int.reduceMul, Int.reduceEq, Int.reduceNe]
    refine ⟨fun hq1 => ?_, fun hq0 => ⟨⟨by omega, by omega⟩, i + 1, rfl, ⟨hlt, fun j hj hji => ?_⟩, by omega⟩⟩
    · rw [idxA_yes hlt hq1 hq]
    · by_cases hj2 : j = i
      · subst hj2; exact hq0
      · exact hq j hj (by omega)
  · simp only [go_sem, Nat.reduceEqDiff, Nat.reduceBEq, Nat.reduceAdd, Nat.reduceMul, Nat.reduceSub, Nat.reduceLeDiff, Nat.reduceLT, reduceIte, reduceCtorEq, Int.reduceToNat, Int.reduceLE, Int.reduceLT, Int.reduceNeg, Bool.not_not, and_self, Bool.and_eq_false_iff, Int.cast_ofNat_Int, Int.reduceAdd, Int.reduceSub, Int.reduceMul, Int.reduceEq, Int.reduceNe, B69_0, R69_0, show ¬ ((i : Int) < (l.length : Int)) by omega]
    rw [idxA_no fun j hj => hq j hj (by omega)]
def findO (l : List Ot) (n : Int) : Int := idxA (fun x => decide (x.id = n)) l
theorem fn24 (l : List Ot) (n : Int) (hl : l.length < 100000) : Fn Try.prog 24 [os l, pU n] (.pv (pI (findO l n))) [] := by
  refine Run24 [] (by simp) ?_
  simp only [go_sem, Nat.reduceEqDiff, Nat.reduceBEq, Nat.reduceAdd, Nat.reduceMul, Nat.reduceSub, Nat.reduceLeDiff, Nat.reduceLT, reduceIte, reduceCtorEq, Int.reduceToNat, Int.reduceLE, Int.reduceLT, Int.reduceNeg, Bool.not_not, and_self, Bool.and_eq_false_iff, Int.cast_ofNat_Int, Int.reduceAdd, Int.reduceSub, Int.reduceMul, Int.reduceEq, Int.reduceNe, M24]
  refine runR_callf (by simp only [go_sem, Nat.reduceEqDiff, Nat.reduceBEq, Nat.reduceAdd, Nat.reduceMul, Nat.reduceSub, Nat.reduceLeDiff, Nat.reduceLT, reduceIte, reduceCtorEq, Int.reduceToNat, Int.reduceLE, Int.reduceLT, Int.reduceNeg, Bool.not_not, and_self, Bool.and_eq_false_iff, Int.cast_ofNat_Int, Int.reduceAdd, Int.reduceSub, Int.reduceMul, Int.reduceEq, Int.reduceNe]) (by simp only [go_sem, Nat.reduceEqDiff, Nat.reduceBEq, Nat.reduceAdd, Nat.reduceMul, Nat.reduceSub, Nat.reduceLeDiff, Nat.reduceLT, reduceIte, reduceCtorEq, Int.reduceToNat, Int.reduceLE, Int.reduceLT, Int.reduceNeg, Bool.not_not, and_self, Bool.and_eq_false_iff, Int.cast_ofNat_Int, Int.reduceAdd, Int.reduceSub, Int.reduceMul, Int.reduceEq, Int.reduceNe]) (fn69 l 70 [.pt [pU n]] (fun x => decide (x.id = n)) hl (fun x hx => fn70 x n)) ⟨rfl, trivial⟩ trivial ?_
  simp only [go_sem, Nat.reduceEqDiff, Nat.reduceBEq, Nat.reduceAdd, Nat.reduceMul, Nat.reduceSub, Nat.reduceLeDiff, Nat.reduceLT, reduceIte, reduceCtorEq, Int.reduceToNat, Int.reduceLE, Int.reduceLT, Int.reduceNeg, Bool.not_not, and_self, Bool.and_eq_false_iff, Int.cast_ofNat_Int, Int.reduceAdd, Int.reduceSub, Int.reduceMul, Int.reduceEq, Int.reduceNe]
  rfl
theorem fn59 (a b : List Int) (ha : a.length < 4611686018427387904) (hb : b.length < 4611686018427387904) : Fn Try.prog 59 [us a, us b] (.pv (pB (decide (a = b)))) [] := by
  refine Run59 [] (by simp) ?_
  simp only [go_sem, Nat.reduceEqDiff, Nat.reduceBEq, Nat.reduceAdd, Nat.reduceMul, Nat.reduceSub, Nat.reduceLeDiff, Nat.reduceLT, reduceIte, reduceCtorEq, Int.reduceToNat, Int.reduceLE, Int.reduceLT, Int.reduceNeg, Bool.not_not, and_self, Bool.and_eq_false_iff, Int.cast_ofNat_Int, Int.reduceAdd, Int.reduceSub, Int.reduceMul, Int.reduceEq, Int.reduceNe, M59]
  refine ⟨fun h => ?_, fun h => ?_⟩
  · have : a ≠ b := fun e => h (by rw [e])
    simp [this]
  · have hlm : b.length = a.length := by omega
    refine run_loop (T := Nat) (fun i => ⟨[(0, .pv (us a)), (1, .pv (us b)), (5, .pv (pI i))], []⟩) (fun i => i ≤ a.length ∧ a.take i = b.take i) (fun i => a.length - i) 0 rfl ⟨Nat.zero_le _, rfl⟩ ?_
    intro i ⟨hi, hq⟩
    by_cases hlt : i < a.length
    · have hlt2 : i < b.length := by omega
      simp only [go_sem, Nat.reduceEqDiff, Nat.reduceBEq, Nat.reduceAdd, Nat.reduceMul, Nat.reduceSub, Nat.reduceLeDiff, Nat.reduceLT, reduceIte, reduceCtorEq, Int.reduceToNat, Int.reduceLE, Int.reduceLT, Int.reduceNeg, Bool.not_not, and_self, Bool.and_eq_false_iff, Int.cast_ofNat_Int, Int.reduceAdd, Int.reduceSub, Int.reduceMul, Int.reduceEq, Int.reduceNe, B59_0, wf_us, getD_map hlt, getD_map hlt2, show (i : Int) < (a.length : Int) by omega, show (i : Int) < (b.length : Int) by omega]
      refine ⟨fun hd => ?_, fun hd => ?_⟩
      · have : a ≠ b := fun e => by subst e; exact hd rfl
        simp [this]
      · refine ⟨⟨by omega, by omega⟩, i + 1, rfl, ⟨hlt, ?_⟩, by omega⟩
        rw [take_snoc hlt, take_snoc hlt2, hq, hd]
    · simp only [go_sem, Nat.reduceEqDiff, Nat.reduceBEq, Nat.reduceAdd, Nat.reduceMul, Nat.reduceSub, Nat.reduceLeDiff, Nat.reduceLT, reduceIte, reduceCtorEq, Int.reduceToNat, Int.reduceLE, Int.reduceLT, Int.reduceNeg, Bool.not_not, and_self, Bool.and_eq_false_iff, Int.cast_ofNat_Int, Int.reduceAdd, Int.reduceSub, Int.reduceMul, Int.reduceEq, Int.reduceNe, B59_0, R59_0, show ¬ (i : Int) < (a.length : Int) by omega]
      have hie : i = a.length := by omega
      subst hie
      rw [List.take_length, ← hlm, List.take_length] at hq
      simp [hq]
theorem fn32 (x y : Ot) (hx : x.ids.length < 4611686018427387904) (hy : y.ids.length < 4611686018427387904) : Fn Try.prog 32 [x.pv, y.pv] (.pv (pB (decide (x = y)))) [] := by
  refine Run32 [] (by simp) ?_
  simp only [go_sem, Nat.reduceEqDiff, Nat.reduceBEq, Nat.reduceAdd, Nat.reduceMul, Nat.reduceSub, Nat.reduceLeDiff, Nat.reduceLT, reduceIte, reduceCtorEq, Int.reduceToNat, Int.reduceLE, Int.reduceLT, Int.reduceNeg, Bool.not_not, and_self, Bool.and_eq_false_iff, Int.cast_ofNat_Int, Int.reduceAdd, Int.reduceSub, Int.reduceMul, Int.reduceEq, Int.reduceNe, M32]
  refine runR_callgf (by simp only [go_sem, Nat.reduceEqDiff, Nat.reduceBEq, Nat.reduceAdd, Nat.reduceMul, Nat.reduceSub, Nat.reduceLeDiff, Nat.reduceLT, reduceIte, reduceCtorEq, Int.reduceToNat, Int.reduceLE, Int.reduceLT, Int.reduceNeg, Bool.not_not, and_self, Bool.and_eq_false_iff, Int.cast_ofNat_Int, Int.reduceAdd, Int.reduceSub, Int.reduceMul, Int.reduceEq, Int.reduceNe]) (by simp only [go_sem, Nat.reduceEqDiff, Nat.reduceBEq, Nat.reduceAdd, Nat.reduceMul, Nat.reduceSub, Nat.reduceLeDiff, Nat.reduceLT, reduceIte, reduceCtorEq, Int.reduceToNat, Int.reduceLE, Int.reduceLT, Int.reduceNeg, Bool.not_not, and_self, Bool.and_eq_false_iff, Int.cast_ofNat_Int, Int.reduceAdd, Int.reduceSub, Int.reduceMul, Int.reduceEq, Int.reduceNe]) (by simp only [go_sem, Nat.reduceEqDiff, Nat.reduceBEq, Nat.reduceAdd, Nat.reduceMul, Nat.reduceSub, Nat.reduceLeDiff, Nat.reduceLT, reduceIte, reduceCtorEq, Int.reduceToNat, Int.reduceLE, Int.reduceLT, Int.reduceNeg, Bool.not_not, and_self, Bool.and_eq_false_iff, Int.cast_ofNat_Int, Int.reduceAdd, Int.reduceSub, Int.reduceMul, Int.reduceEq, Int.reduceNe]) (fun _ => fn59 x.ids y.ids hx hy) rfl ?_
  simp only [go_sem, Nat.reduceEqDiff, Nat.reduceBEq, Nat.reduceAdd, Nat.reduceMul, Nat.reduceSub, Nat.reduceLeDiff, Nat.reduceLT, reduceIte, reduceCtorEq, Int.reduceToNat, Int.reduceLE, Int.reduceLT, Int.reduceNeg, Bool.not_not, and_self, Bool.and_eq_false_iff, Int.cast_ofNat_Int, Int.reduceAdd, Int.reduceSub, Int.reduceMul, Int.reduceEq, Int.reduceNe]
  obtain ⟨a, b, c, d, e⟩ := x
  obtain ⟨a', b', c', d', e'⟩ := y
  simp only [Ot.mk.injEq]
  by_cases h1 : a = a' <;> by_cases h2 : b = b' <;> by_cases h3 : c = c' <;> by_cases h4 : d = d' <;> by_cases h5 : e = e' <;> simp [h1, h2, h3, h4, h5]
theorem fn23 (l m : List Ot) (hl : l.length < 100000) (hm : m.length < 100000) (hk : ∀ x ∈ l, x.ids.length < 100000) (hk' : ∀ x ∈ m, x.ids.length < 100000) : Fn Try.prog 23 [os l, os m] (.pv (pB (decide (l = m)))) [] := by
  refine Run23 [] (by simp) ?_
  simp only [go_sem, Nat.reduceEqDiff, Nat.reduceBEq, Nat.reduceAdd, Nat.reduceMul, Nat.reduceSub, Nat.reduceLeDiff, Nat.reduceLT, reduceIte, reduceCtorEq, Int.reduceToNat, Int.reduceLE, Int.reduceLT, Int.reduceNeg, Bool.not_not, and_self, Bool.and_eq_false_iff, Int.cast_ofNat_Int, Int.reduceAdd, Int.reduceSub, Int.reduceMul, Int.reduceEq, Int.reduceNe, M23]
  refine ⟨fun h => ?_, fun h => ?_⟩
  · have : l ≠ m := fun e => h (by rw [e])
    simp [this]
  · have hlm : m.length = l.length := by omega
    refine run_loop (T := Nat) (fun i => ⟨[(0, .pv (os l)), (1, .pv (os m)), (5, .pv (pI i))], []⟩) (fun i => i ≤ l.length ∧ l.take i = m.take i) (fun i => l.length - i) 0 rfl ⟨Nat.zero_le _, rfl⟩ ?_
    intro i ⟨hi, hq⟩
    by_cases hlt : i < l.length
    · have hlt2 : i < m.length := by omega
      have hx := hk _ (List.getElem_mem hlt)
      have hy := hk' _ (List.getElem_mem hlt2)
      simp only [go_sem, Nat.reduceEqDiff, Nat.reduceBEq, Nat.reduceAdd, Nat.reduceMul, Nat.reduceSub, Nat.reduceLeDiff, Nat.reduceLT, reduceIte, reduceCtorEq, Int.reduceToNat, Int.reduceLE, Int.reduceLT, Int.reduceNeg, Bool.not_not, and_self, Bool.and_eq_false_iff, Int.cast_ofNat_Int, Int.reduceAdd, Int.reduceSub, Int.reduceMul, Int.reduceEq, Int.reduceNe, B23_0, wf_os, getD_map hlt, getD_map hlt2, show (i : Int) < (l.length : Int) by omega, show (i : Int) < (m.length : Int) by omega]
      refine runR_callf (by simp only [go_sem, Nat.reduceEqDiff, Nat.reduceBEq, Nat.reduceAdd, Nat.reduceMul, Nat.reduceSub, Nat.reduceLeDiff, Nat.reduceLT, reduceIte, reduceCtorEq, Int.reduceToNat, Int.reduceLE, Int.reduceLT, Int.reduceNeg, Bool.not_not, and_self, Bool.and_eq_false_iff, Int.cast_ofNat_Int, Int.reduceAdd, Int.reduceSub, Int.reduceMul, Int.reduceEq, Int.reduceNe]) (by simp only [go_sem, Nat.reduceEqDiff, Nat.reduceBEq, Nat.reduceAdd, Nat.reduceMul, Nat.reduceSub, Nat.reduceLeDiff, Nat.reduceLT, reduceIte, reduceCtorEq, Int.reduceToNat, Int.reduceLE, Int.reduceLT, Int.reduceNeg, Bool.not_not, and_self, Bool.and_eq_false_iff, Int.cast_ofNat_Int, Int.reduceAdd, Int.reduceSub, Int.reduceMul, Int.reduceEq, Int.reduceNe]) (fn32 l[i] m[i] (by omega) (by omega)) ⟨rfl, trivial⟩ trivial ?_
      simp only [go_sem, Nat.reduceEqDiff, Nat.reduceBEq, Nat.reduceAdd, Nat.reduceMul, Nat.reduceSub, Nat.reduceLeDiff, Nat.reduceLT, reduceIte, reduceCtorEq, Int.reduceToNat, Int.reduceLE, Int.reduceLT, Int.reduceNeg, Bool.not_not, and_self, Bool.and_eq_false_iff, Int.cast_ofNat_Int, Int.reduceAdd, Int.reduceSub, Int.reduceMul, Int.reduceEq, Int.reduceNe]
      refine ⟨fun hd => ?_, fun hd => ?_⟩
      · have : l ≠ m := fun e => by subst e; exact hd rfl
        simp [this]
      · refine ⟨⟨by omega, by omega⟩, i + 1, rfl, ⟨hlt, ?_⟩, by omega⟩
        rw [take_snoc hlt, take_snoc hlt2, hq, hd]
    · simp only [go_sem, Nat.reduceEqDiff, Nat.reduceBEq, Nat.reduceAdd, Nat.reduceMul, Nat.reduceSub, Nat.reduceLeDiff, Nat.reduceLT, reduceIte, reduceCtorEq, Int.reduceToNat, Int.reduceLE, Int.reduceLT, Int.reduceNeg, Bool.not_not, and_self, Bool.and_eq_false_iff, Int.cast_ofNat_Int, Int.reduceAdd, Int.reduceSub, Int.reduceMul, Int.reduceEq, Int.reduceNe, B23_0, R23_0, show ¬ (i : Int) < (l.length : Int) by omega]
      have hie : i = l.length := by omega
      subst hie
      rw [List.take_length, ← hlm, List.take_length] at hq
      simp [hq]
def timeB (n : Int) : Bool := decide (0 ≤ n ∧ n ≤ 1099511627775)
theorem fn73 (n : Int) : Fn Try.prog 73 [pI n] (.pv (pB (timeB n))) [] := by
  refine Run73 [] (by simp) ?_
  simp only [go_sem, Nat.reduceEqDiff, Nat.reduceBEq, Nat.reduceAdd, Nat.reduceMul, Nat.reduceSub, Nat.reduceLeDiff, Nat.reduceLT, reduceIte, reduceCtorEq, Int.reduceToNat, Int.reduceLE, Int.reduceLT, Int.reduceNeg, Bool.not_not, and_self, Bool.and_eq_false_iff, Int.cast_ofNat_Int, Int.reduceAdd, Int.reduceSub, Int.reduceMul, Int.reduceEq, Int.reduceNe, M73]
  unfold timeB
  by_cases h1 : 0 ≤ n <;> by_cases h2 : n ≤ 1099511627775 <;> simp [h1, h2]
def few60 (s : ByteArray) : ByteArray := if 60 < s.size then s.extract 0 60 else s
theorem fn35 (s : ByteArray) : Fn Try.prog 35 [pS s] (.pv (pS (few60 s))) [] := by
  refine Run35 [] (by simp) ?_
  simp only [go_sem, Nat.reduceEqDiff, Nat.reduceBEq, Nat.reduceAdd, Nat.reduceMul, Nat.reduceSub, Nat.reduceLeDiff, Nat.reduceLT, reduceIte, reduceCtorEq, Int.reduceToNat, Int.reduceLE, Int.reduceLT, Int.reduceNeg, Bool.not_not, and_self, Bool.and_eq_false_iff, Int.cast_ofNat_Int, Int.reduceAdd, Int.reduceSub, Int.reduceMul, Int.reduceEq, Int.reduceNe, M35]
  refine ⟨fun h => ⟨by omega, ?_⟩, fun h => ?_⟩
  · simp [few60, show 60 < s.size by omega]
  · simp [few60, show ¬ 60 < s.size by omega]
def oneO (x : Ot) : Ot := { x with sub := few60 x.sub, ids := x.ids.take 31 }
theorem fn26 (x : Ot) (hx : x.ids.length ≤ 9223372036854775807) : Fn Try.prog 26 [x.pv] (.pv (oneO x).pv) [] := by
  refine Run26 [false] (by simp) ?_
  simp only [go_sem, Nat.reduceEqDiff, Nat.reduceBEq, Nat.reduceAdd, Nat.reduceMul, Nat.reduceSub, Nat.reduceLeDiff, Nat.reduceLT, reduceIte, reduceCtorEq, Int.reduceToNat, Int.reduceLE, Int.reduceLT, Int.reduceNeg, Bool.not_not, and_self, Bool.and_eq_false_iff, Int.cast_ofNat_Int, Int.reduceAdd, Int.reduceSub, Int.reduceMul, Int.reduceEq, Int.reduceNe, M26]
  refine runR_callf (by simp only [go_sem, Nat.reduceEqDiff, Nat.reduceBEq, Nat.reduceAdd, Nat.reduceMul, Nat.reduceSub, Nat.reduceLeDiff, Nat.reduceLT, reduceIte, reduceCtorEq, Int.reduceToNat, Int.reduceLE, Int.reduceLT, Int.reduceNeg, Bool.not_not, and_self, Bool.and_eq_false_iff, Int.cast_ofNat_Int, Int.reduceAdd, Int.reduceSub, Int.reduceMul, Int.reduceEq, Int.reduceNe]) (by simp only [go_sem, Nat.reduceEqDiff, Nat.reduceBEq, Nat.reduceAdd, Nat.reduceMul, Nat.reduceSub, Nat.reduceLeDiff, Nat.reduceLT, reduceIte, reduceCtorEq, Int.reduceToNat, Int.reduceLE, Int.reduceLT, Int.reduceNeg, Bool.not_not, and_self, Bool.and_eq_false_iff, Int.cast_ofNat_Int, Int.reduceAdd, Int.reduceSub, Int.reduceMul, Int.reduceEq, Int.reduceNe]) (fn35 x.sub) ⟨rfl, trivial⟩ trivial ?_
  simp only [go_sem, Nat.reduceEqDiff, Nat.reduceBEq, Nat.reduceAdd, Nat.reduceMul, Nat.reduceSub, Nat.reduceLeDiff, Nat.reduceLT, reduceIte, reduceCtorEq, Int.reduceToNat, Int.reduceLE, Int.reduceLT, Int.reduceNeg, Bool.not_not, and_self, Bool.and_eq_false_iff, Int.cast_ofNat_Int, Int.reduceAdd, Int.reduceSub, Int.reduceMul, Int.reduceEq, Int.reduceNe]
  refine ⟨fun h => ⟨⟨by omega, wf_us _⟩, ⟨(wf_us _).take, by rw [List.length_take]; omega, by rw [List.length_take]; omega⟩, ?_⟩, fun h => ⟨⟨wf_us _, by omega, by omega⟩, ?_⟩⟩
  · rw [← List.map_take]; rfl
  · rw [take_len_map]
    unfold oneO
    rw [List.take_of_length_le (by omega)]
def fewO (l : List Ot) : List Ot := (l.take 101).map oneO
theorem fn20 (l : List Ot) (hl : l.length ≤ 9223372036854775807) (hk : ∀ x ∈ l, x.ids.length ≤ 9223372036854775807) : Fn Try.prog 20 [os l] (.pv (os (fewO l))) [] := by
  refine Run20 [false] (by simp) ?_
  simp only [go_sem, Nat.reduceEqDiff, Nat.reduceBEq, Nat.reduceAdd, Nat.reduceMul, Nat.reduceSub, Nat.reduceLeDiff, Nat.reduceLT, reduceIte, reduceCtorEq, Int.reduceToNat, Int.reduceLE, Int.reduceLT, Int.reduceNeg, Bool.not_not, and_self, Bool.and_eq_false_iff, Int.cast_ofNat_Int, Int.reduceAdd, Int.reduceSub, Int.reduceMul, Int.reduceEq, Int.reduceNe, M20]
  refine run_loop (T := Nat) (fun i => ⟨[(0, .pv (os l)), (3, .row 2003 0 i), (4, .pv (pI i))], [(2003, .sl 5 (((l.take i).map oneO).map Ot.pv))]⟩) (fun i => i ≤ l.length ∧ i ≤ 101) (fun i => l.length - i) 0 rfl ⟨Nat.zero_le _, Nat.zero_le _⟩ ?_
  intro i ⟨hi, h41⟩
  have fin : (i = l.length ∨ i = 101) → fewO l = (l.take i).map oneO := fun h => by
    unfold fewO
    rcases h with h | h
    · rw [h, List.take_length, List.take_of_length_le (by omega)]
    · rw [h]
  have tk : List.take i (List.map Ot.pv (List.map oneO (List.take i l))) = List.map Ot.pv (List.map oneO (List.take i l)) := List.take_of_length_le (by simp; omega)
  by_cases hlt : i < l.length
  · by_cases h4 : i < 101
    · have hx := hk _ (List.getElem_mem hlt)
      simp only [go_sem, Nat.reduceEqDiff, Nat.reduceBEq, Nat.reduceAdd, Nat.reduceMul, Nat.reduceSub, Nat.reduceLeDiff, Nat.reduceLT, reduceIte, reduceCtorEq, Int.reduceToNat, Int.reduceLE, Int.reduceLT, Int.reduceNeg, Bool.not_not, and_self, Bool.and_eq_false_iff, Int.cast_ofNat_Int, Int.reduceAdd, Int.reduceSub, Int.reduceMul, Int.reduceEq, Int.reduceNe, B20_0, wf_os, getD_map hlt, show (i : Int) < (l.length : Int) by omega, show (i : Int) < 101 by omega]
      refine runR_call (by simp only [go_sem, Nat.reduceEqDiff, Nat.reduceBEq, Nat.reduceAdd, Nat.reduceMul, Nat.reduceSub, Nat.reduceLeDiff, Nat.reduceLT, reduceIte, reduceCtorEq, Int.reduceToNat, Int.reduceLE, Int.reduceLT, Int.reduceNeg, Bool.not_not, and_self, Bool.and_eq_false_iff, Int.cast_ofNat_Int, Int.reduceAdd, Int.reduceSub, Int.reduceMul, Int.reduceEq, Int.reduceNe]) rfl (fn26 l[i] hx) (.inl rfl) trivial ?_
      simp only [go_sem, Nat.reduceEqDiff, Nat.reduceBEq, Nat.reduceAdd, Nat.reduceMul, Nat.reduceSub, Nat.reduceLeDiff, Nat.reduceLT, reduceIte, reduceCtorEq, Int.reduceToNat, Int.reduceLE, Int.reduceLT, Int.reduceNeg, Bool.not_not, and_self, Bool.and_eq_false_iff, Int.cast_ofNat_Int, Int.reduceAdd, Int.reduceSub, Int.reduceMul, Int.reduceEq, Int.reduceNe]
      refine ⟨⟨wf_os [oneO l[i]], by omega, by omega⟩, ⟨by omega, by omega⟩, i + 1, ?_, ⟨by omega, by omega⟩, by omega⟩
      rw [tk, take_snoc hlt, List.map_append, List.map_append]
      rfl
    · simp only [go_sem, Nat.reduceEqDiff, Nat.reduceBEq, Nat.reduceAdd, Nat.reduceMul, Nat.reduceSub, Nat.reduceLeDiff, Nat.reduceLT, reduceIte, reduceCtorEq, Int.reduceToNat, Int.reduceLE, Int.reduceLT, Int.reduceNeg, Bool.not_not, and_self, Bool.and_eq_false_iff, Int.cast_ofNat_Int, Int.reduceAdd, Int.reduceSub, Int.reduceMul, Int.reduceEq, Int.reduceNe, B20_0, R20_0, show (i : Int) < (l.length : Int) by omega, show ¬ (i : Int) < 101 by omega]
      rw [tk, fin (by omega)]
  · simp only [go_sem, Nat.reduceEqDiff, Nat.reduceBEq, Nat.reduceAdd, Nat.reduceMul, Nat.reduceSub, Nat.reduceLeDiff, Nat.reduceLT, reduceIte, reduceCtorEq, Int.reduceToNat, Int.reduceLE, Int.reduceLT, Int.reduceNeg, Bool.not_not, and_self, Bool.and_eq_false_iff, Int.cast_ofNat_Int, Int.reduceAdd, Int.reduceSub, Int.reduceMul, Int.reduceEq, Int.reduceNe, B20_0, R20_0, show ¬ (i : Int) < (l.length : Int) by omega]
    rw [tk, fin (by omega)]
theorem fn72 (l : List Ot) (hl : l.length < 100000) : Fn Try.prog 72 [os l] (.row 0 0 l.length) [(5, l.map Ot.pv)] := by
  refine Run72 [true] (by simp) ?_
  simp only [go_sem, Nat.reduceEqDiff, Nat.reduceBEq, Nat.reduceAdd, Nat.reduceMul, Nat.reduceSub, Nat.reduceLeDiff, Nat.reduceLT, reduceIte, reduceCtorEq, Int.reduceToNat, Int.reduceLE, Int.reduceLT, Int.reduceNeg, Bool.not_not, and_self, Bool.and_eq_false_iff, Int.cast_ofNat_Int, Int.reduceAdd, Int.reduceSub, Int.reduceMul, Int.reduceEq, Int.reduceNe, M72, wf_os]
  refine runR_isnil rfl rfl ?_
  intro b hb
  simp only [go_sem, Nat.reduceEqDiff, Nat.reduceBEq, Nat.reduceAdd, Nat.reduceMul, Nat.reduceSub, Nat.reduceLeDiff, Nat.reduceLT, reduceIte, reduceCtorEq, Int.reduceToNat, Int.reduceLE, Int.reduceLT, Int.reduceNeg, Bool.not_not, and_self, Bool.and_eq_false_iff, Int.cast_ofNat_Int, Int.reduceAdd, Int.reduceSub, Int.reduceMul, Int.reduceEq, Int.reduceNe, wf_os]
  refine ⟨fun h => ?_, fun h => ⟨by omega, ?_⟩⟩
  · have : l = [] := by simpa using hb h
    subst this
    simp
  · simp
abbrev zO : PV := .agg [pU 0, pS ⟨#[]⟩, .lst [], pI 0, pI 0]
/-- 'slices.Delete': the row that is lent bears what is left, then nothing -/
theorem fnS98 (xs : List PV) (hx : WfL 5 xs) (i : Nat) (hi : i < xs.length) (hl : xs.length < 100000) :
    FnS Try.prog 98 [.row 0 0 xs.length, .pv (pI i), .pv (pI ((i : Int) + 1))] [(0, .sl 5 xs)] (.row 0 0 (xs.length - 1)) [(0, .sl 5 (xs.take i ++ (xs.drop (i + 1) ++ [zO])))] := by
  refine RunS98 (by simp) (by simp) ?_
  simp only [go_sem, Nat.reduceEqDiff, Nat.reduceBEq, Nat.reduceAdd, Nat.reduceMul, Nat.reduceSub, Nat.reduceLeDiff, Nat.reduceLT, reduceIte, reduceCtorEq, Int.reduceToNat, Int.reduceLE, Int.reduceLT, Int.reduceNeg, Bool.not_not, and_self, Bool.and_eq_false_iff, Int.cast_ofNat_Int, Int.reduceAdd, Int.reduceSub, Int.reduceMul, Int.reduceEq, Int.reduceNe, M98]
  have e1 : ((i : Int) + 1).toNat = i + 1 := by omega
  have e2 : List.take (xs.length - (i + 1)) (List.drop (i + 1) xs) = List.drop (i + 1) xs := List.take_of_length_le (by rw [List.length_drop]; omega)
  have e3 : (List.drop (i + 1) xs).length = xs.length - (i + 1) := List.length_drop
  have e4 : (laidAt xs i (List.drop (i + 1) xs)).length = xs.length := laidAt_length (by rw [e3]; omega)
  have e5 : i + (xs.length - (i + 1)) = xs.length - 1 := by omega
  have e6 : xs.length - (xs.length - 1) = 1 := by omega
  simp only [Nat.sub_zero, e1, e2, e3, e4, e5, e6]
  refine ⟨by omega, fun h => absurd h (by omega), fun _ => ⟨by omega, by omega, by omega, hx.drop, by omega, by omega, by omega, by omega, trivial, ?_⟩⟩
  congr 1
  unfold laidAt
  rw [e3, e5, List.replicate_one]
  have e7 : (List.take i xs ++ (List.drop (i + 1) xs ++ List.drop (xs.length - 1) xs)).take (xs.length - 1) = List.take i xs ++ List.drop (i + 1) xs := by
    rw [← List.append_assoc, List.take_append_of_le_length (by rw [List.length_append, List.length_take, e3]; omega), List.take_of_length_le (by rw [List.length_append, List.length_take, e3]; omega)]
  rw [e7, List.append_assoc]
  congr 2
  rw [List.drop_of_length_le (by simp only [List.length_append, List.length_take, List.length_drop, List.length_singleton, List.length_cons, List.length_nil]; omega), List.append_nil]
/-- a list without one -/
def cutO (l : List Ot) (i : Nat) : List Ot := l.take i ++ l.drop (i + 1)
theorem fn68 (l : List Ot) (i : Nat) (hi : i < l.length) (hl : l.length < 100000) : Fn Try.prog 68 [os l, pI i] (.pv (os (cutO l i))) [] := by
  refine Run68 [false] (by simp) ?_
  simp only [go_sem, Nat.reduceEqDiff, Nat.reduceBEq, Nat.reduceAdd, Nat.reduceMul, Nat.reduceSub, Nat.reduceLeDiff, Nat.reduceLT, reduceIte, reduceCtorEq, Int.reduceToNat, Int.reduceLE, Int.reduceLT, Int.reduceNeg, Bool.not_not, and_self, Bool.and_eq_false_iff, Int.cast_ofNat_Int, Int.reduceAdd, Int.reduceSub, Int.reduceMul, Int.reduceEq, Int.reduceNe, M68]
  refine runR_call (by simp only [go_sem, Nat.reduceEqDiff, Nat.reduceBEq, Nat.reduceAdd, Nat.reduceMul, Nat.reduceSub, Nat.reduceLeDiff, Nat.reduceLT, reduceIte, reduceCtorEq, Int.reduceToNat, Int.reduceLE, Int.reduceLT, Int.reduceNeg, Bool.not_not, and_self, Bool.and_eq_false_iff, Int.cast_ofNat_Int, Int.reduceAdd, Int.reduceSub, Int.reduceMul, Int.reduceEq, Int.reduceNe]) rfl (fn72 l hl) (.inl rfl) trivial ?_
  simp only [go_sem, Nat.reduceEqDiff, Nat.reduceBEq, Nat.reduceAdd, Nat.reduceMul, Nat.reduceSub, Nat.reduceLeDiff, Nat.reduceLT, reduceIte, reduceCtorEq, Int.reduceToNat, Int.reduceLE, Int.reduceLT, Int.reduceNeg, Bool.not_not, and_self, Bool.and_eq_false_iff, Int.cast_ofNat_Int, Int.reduceAdd, Int.reduceSub, Int.reduceMul, Int.reduceEq, Int.reduceNe]
  have h := fnS98 (l.map Ot.pv) (wf_os l) i (by simpa using hi) (by simpa using hl)
  rw [List.length_map] at h
  refine ⟨⟨by omega, by omega⟩, runR_calls (fun _ => 1006) (by simp only [go_sem, Nat.reduceEqDiff, Nat.reduceBEq, Nat.reduceAdd, Nat.reduceMul, Nat.reduceSub, Nat.reduceLeDiff, Nat.reduceLT, reduceIte, reduceCtorEq, Int.reduceToNat, Int.reduceLE, Int.reduceLT, Int.reduceNeg, Bool.not_not, and_self, Bool.and_eq_false_iff, Int.cast_ofNat_Int, Int.reduceAdd, Int.reduceSub, Int.reduceMul, Int.reduceEq, Int.reduceNe]) (by simp only [go_sem, Nat.reduceEqDiff, Nat.reduceBEq, Nat.reduceAdd, Nat.reduceMul, Nat.reduceSub, Nat.reduceLeDiff, Nat.reduceLT, reduceIte, reduceCtorEq, Int.reduceToNat, Int.reduceLE, Int.reduceLT, Int.reduceNeg, Bool.not_not, and_self, Bool.and_eq_false_iff, Int.cast_ofNat_Int, Int.reduceAdd, Int.reduceSub, Int.reduceMul, Int.reduceEq, Int.reduceNe] <;> rfl) h rfl (by intro e he; simp only [List.mem_cons, List.not_mem_nil, or_false] at he; subst he; simp only [go_sem, Nat.reduceEqDiff, Nat.reduceBEq, Nat.reduceAdd, Nat.reduceMul, Nat.reduceSub, Nat.reduceLeDiff, Nat.reduceLT, reduceIte, reduceCtorEq, Int.reduceToNat, Int.reduceLE, Int.reduceLT, Int.reduceNeg, Bool.not_not, and_self, Bool.and_eq_false_iff, Int.cast_ofNat_Int, Int.reduceAdd, Int.reduceSub, Int.reduceMul, Int.reduceEq, Int.reduceNe]) (by simp) (by simp) (by simp) (by intro e he _; decide) ?_⟩
  simp only [go_sem, Nat.reduceEqDiff, Nat.reduceBEq, Nat.reduceAdd, Nat.reduceMul, Nat.reduceSub, Nat.reduceLeDiff, Nat.reduceLT, reduceIte, reduceCtorEq, Int.reduceToNat, Int.reduceLE, Int.reduceLT, Int.reduceNeg, Bool.not_not, and_self, Bool.and_eq_false_iff, Int.cast_ofNat_Int, Int.reduceAdd, Int.reduceSub, Int.reduceMul, Int.reduceEq, Int.reduceNe]
  have e3 : (List.map Ot.pv l).length = l.length := List.length_map _
  rw [← List.append_assoc, List.take_append_of_le_length (by rw [List.length_append, List.length_take, List.length_drop]; omega), List.take_of_length_le (by rw [List.length_append, List.length_take, List.length_drop]; omega)]
  rw [← List.map_take, ← List.map_drop, ← List.map_append]
  rfl
end Go.Vc
