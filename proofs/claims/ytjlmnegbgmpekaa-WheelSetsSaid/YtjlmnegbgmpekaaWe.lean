/- A part of the proofs of the seat Ytjlmnegbgmpekaa: the contracts of functions, each proved out of its code. -/
import Derived.Test.YtjlmnegbgmpekaaWc
import Derived.Test.YtjlmnegbgmpekaaProg
import Derived.Test.YtjlmnegbgmpekaaWd
namespace Go.Vc
open Go.Proofs
set_option maxRecDepth 100000

/-- 'cmp.isNaN[int]' -/
def M99 : MC := (.seq (.reg [⟨(some 2), none, (.q (.mv (.c (.bool false))))⟩] [] [0] []) (.seq (.reg [⟨(some 3), none, (.q (.mv (.t 0)))⟩, ⟨(some 4), none, (.q (.mv (.t 0)))⟩, ⟨(some 5), none,
  (.q (.bin .neq (.t 3) (.t 4)))⟩, ⟨(some 2), none, (.q (.mv (.t 5)))⟩] [] [2] []) .ret))
theorem mc99 : ofCode Try.prog [] Try.f99.ntmps [(0, ⟨[0], [], [], 0, [], none⟩),
    (1, ⟨[2], [], [], 0, [], none⟩)] (Try.f99.body.getD .skip) = some M99 := by kernel_rfl
theorem Run99 {args : List PV} {v : AV} {rs : List (Nat × List PV)} (ids : List Bool) (h : args.length ≤ 6) (hv : run Try.prog (retK [RV.tmp 2] ids v rs) M99 [] ⟨entry 0 args, []⟩) : Fn Try.prog 99 args v rs :=
  Fn_run ids (by kernel_rfl) Try.func99 (by decide) rfl mc99 (by kernel_rfl) (by rw [Try.ntmps99]; exact h) (by rw [Try.ntmps99]; decide) hv

/-- 'cmp.isNaN[uint64]' -/
def M100 : MC := (.seq (.reg [⟨(some 2), none, (.q (.mv (.c (.bool false))))⟩] [] [0] []) (.seq (.reg [⟨(some 3), none, (.q (.mv (.t 0)))⟩, ⟨(some 4), none, (.q (.mv (.t 0)))⟩, ⟨(some 5), none,
  (.q (.bin .neq (.t 3) (.t 4)))⟩, ⟨(some 2), none, (.q (.mv (.t 5)))⟩] [] [2] []) .ret))
theorem mc100 : ofCode Try.prog [] Try.f100.ntmps [(0, ⟨[0], [], [], 0, [], none⟩),
    (1, ⟨[2], [], [], 0, [], none⟩)] (Try.f100.body.getD .skip) = some M100 := by kernel_rfl
theorem Run100 {args : List PV} {v : AV} {rs : List (Nat × List PV)} (ids : List Bool) (h : args.length ≤ 6) (hv : run Try.prog (retK [RV.tmp 2] ids v rs) M100 [] ⟨entry 0 args, []⟩) : Fn Try.prog 100 args v rs :=
  Fn_run ids (by kernel_rfl) Try.func100 (by decide) rfl mc100 (by kernel_rfl) (by rw [Try.ntmps100]; exact h) (by rw [Try.ntmps100]; decide) hv

/-- 'cmp.Compare[int]' -/
def M78 : MC := (.seq (.reg [⟨(some 4), none, (.q (.mv (.c (.int .i64 0))))⟩] [] [0, 1] []) (.seq (.reg [⟨(some 7), none, (.q (.mv (.t 0)))⟩, ⟨(some 8), none, (.call (.f 99) [(.t 7)])⟩, ⟨(some 5),
  none, (.q (.mv (.t 8)))⟩] [] [0, 1, 5] [1008]) (.seq (.reg [⟨(some 9), none, (.q (.mv (.t 1)))⟩, ⟨(some 10), none, (.call (.f 99) [(.t 9)])⟩, ⟨(some 6), none, (.q (.mv (.t 10)))⟩] [] [0, 1, 5,
  6] [1008, 1010]) (.seq (.seq (.reg [⟨(some 11), none, (.q (.mv (.t 5)))⟩] [] [0, 1, 6, 11] [1008, 1010]) (.cond (.t 11) (.seq (.seq (.reg [⟨(some 12), none, (.q (.mv (.t 6)))⟩] [] [12] [1010])
  (.cond (.t 12) (.seq (.reg [⟨(some 4), none, (.q (.mv (.c (.int .i64 0))))⟩] [] [4] []) .ret) .skip)) (.seq (.reg [⟨(some 4), none, (.q (.mv (.c (.int .i64 (-1)))))⟩] [] [4] []) .ret)) .skip))
  (.seq (.seq (.reg [⟨(some 13), none, (.q (.mv (.t 6)))⟩] [] [0, 1, 13] [1010]) (.cond (.t 13) (.seq (.reg [⟨(some 4), none, (.q (.mv (.c (.int .i64 1))))⟩] [] [4] []) .ret) .skip))
  (.seq (.seq (.reg [⟨(some 14), none, (.q (.mv (.t 0)))⟩, ⟨(some 15), none, (.q (.mv (.t 1)))⟩, ⟨(some 16), none, (.q (.bin .lss (.t 14) (.t 15)))⟩] [] [0, 1, 16] []) (.cond (.t 16)
  (.seq (.reg [⟨(some 4), none, (.q (.mv (.c (.int .i64 (-1)))))⟩] [] [4] []) .ret) .skip)) (.seq (.seq (.reg [⟨(some 17), none, (.q (.mv (.t 0)))⟩, ⟨(some 18), none, (.q (.mv (.t 1)))⟩, ⟨(some 19),
  none, (.q (.bin .gtr (.t 17) (.t 18)))⟩] [] [19] []) (.cond (.t 19) (.seq (.reg [⟨(some 4), none, (.q (.mv (.c (.int .i64 1))))⟩] [] [4] []) .ret) .skip)) (.seq (.reg [⟨(some 4), none,
  (.q (.mv (.c (.int .i64 0))))⟩] [] [4] []) .ret))))))))
theorem mc78 : ofCode Try.prog [] Try.f78.ntmps [(0, ⟨[0, 1], [], [], 0, [], none⟩),
    (1, ⟨[0, 1, 5], [1008], [], 0, [], none⟩),
    (2, ⟨[0, 1, 5, 6], [1008, 1010], [], 0, [], none⟩),
    (3, ⟨[0, 1, 6, 11], [1008, 1010], [], 0, [], none⟩),
    (4, ⟨[12], [1010], [], 0, [], none⟩),
    (5, ⟨[4], [], [], 0, [], none⟩),
    (6, ⟨[4], [], [], 0, [], none⟩),
    (7, ⟨[0, 1, 13], [1010], [], 0, [], none⟩),
    (8, ⟨[4], [], [], 0, [], none⟩),
    (9, ⟨[0, 1, 16], [], [], 0, [], none⟩),
    (10, ⟨[4], [], [], 0, [], none⟩),
    (11, ⟨[19], [], [], 0, [], none⟩),
    (12, ⟨[4], [], [], 0, [], none⟩),
    (13, ⟨[4], [], [], 0, [], none⟩)] (Try.f78.body.getD .skip) = some M78 := by kernel_rfl
theorem Run78 {args : List PV} {v : AV} {rs : List (Nat × List PV)} (ids : List Bool) (h : args.length ≤ 20) (hv : run Try.prog (retK [RV.tmp 4] ids v rs) M78 [] ⟨entry 0 args, []⟩) : Fn Try.prog 78 args v rs :=
  Fn_run ids (by kernel_rfl) Try.func78 (by decide) rfl mc78 (by kernel_rfl) (by rw [Try.ntmps78]; exact h) (by rw [Try.ntmps78]; decide) hv

/-- 'cmp.Compare[uint64]' -/
def M79 : MC := (.seq (.reg [⟨(some 4), none, (.q (.mv (.c (.int .i64 0))))⟩] [] [0, 1] []) (.seq (.reg [⟨(some 7), none, (.q (.mv (.t 0)))⟩, ⟨(some 8), none, (.call (.f 100) [(.t 7)])⟩, ⟨(some 5),
  none, (.q (.mv (.t 8)))⟩] [] [0, 1, 5] [1008]) (.seq (.reg [⟨(some 9), none, (.q (.mv (.t 1)))⟩, ⟨(some 10), none, (.call (.f 100) [(.t 9)])⟩, ⟨(some 6), none, (.q (.mv (.t 10)))⟩] [] [0, 1, 5,
  6] [1008, 1010]) (.seq (.seq (.reg [⟨(some 11), none, (.q (.mv (.t 5)))⟩] [] [0, 1, 6, 11] [1008, 1010]) (.cond (.t 11) (.seq (.seq (.reg [⟨(some 12), none, (.q (.mv (.t 6)))⟩] [] [12] [1010])
  (.cond (.t 12) (.seq (.reg [⟨(some 4), none, (.q (.mv (.c (.int .i64 0))))⟩] [] [4] []) .ret) .skip)) (.seq (.reg [⟨(some 4), none, (.q (.mv (.c (.int .i64 (-1)))))⟩] [] [4] []) .ret)) .skip))
  (.seq (.seq (.reg [⟨(some 13), none, (.q (.mv (.t 6)))⟩] [] [0, 1, 13] [1010]) (.cond (.t 13) (.seq (.reg [⟨(some 4), none, (.q (.mv (.c (.int .i64 1))))⟩] [] [4] []) .ret) .skip))
  (.seq (.seq (.reg [⟨(some 14), none, (.q (.mv (.t 0)))⟩, ⟨(some 15), none, (.q (.mv (.t 1)))⟩, ⟨(some 16), none, (.q (.bin .lss (.t 14) (.t 15)))⟩] [] [0, 1, 16] []) (.cond (.t 16)
  (.seq (.reg [⟨(some 4), none, (.q (.mv (.c (.int .i64 (-1)))))⟩] [] [4] []) .ret) .skip)) (.seq (.seq (.reg [⟨(some 17), none, (.q (.mv (.t 0)))⟩, ⟨(some 18), none, (.q (.mv (.t 1)))⟩, ⟨(some 19),
  none, (.q (.bin .gtr (.t 17) (.t 18)))⟩] [] [19] []) (.cond (.t 19) (.seq (.reg [⟨(some 4), none, (.q (.mv (.c (.int .i64 1))))⟩] [] [4] []) .ret) .skip)) (.seq (.reg [⟨(some 4), none,
  (.q (.mv (.c (.int .i64 0))))⟩] [] [4] []) .ret))))))))
theorem mc79 : ofCode Try.prog [] Try.f79.ntmps [(0, ⟨[0, 1], [], [], 0, [], none⟩),
    (1, ⟨[0, 1, 5], [1008], [], 0, [], none⟩),
    (2, ⟨[0, 1, 5, 6], [1008, 1010], [], 0, [], none⟩),
    (3, ⟨[0, 1, 6, 11], [1008, 1010], [], 0, [], none⟩),
    (4, ⟨[12], [1010], [], 0, [], none⟩),
    (5, ⟨[4], [], [], 0, [], none⟩),
    (6, ⟨[4], [], [], 0, [], none⟩),
    (7, ⟨[0, 1, 13], [1010], [], 0, [], none⟩),
    (8, ⟨[4], [], [], 0, [], none⟩),
    (9, ⟨[0, 1, 16], [], [], 0, [], none⟩),
    (10, ⟨[4], [], [], 0, [], none⟩),
    (11, ⟨[19], [], [], 0, [], none⟩),
    (12, ⟨[4], [], [], 0, [], none⟩),
    (13, ⟨[4], [], [], 0, [], none⟩)] (Try.f79.body.getD .skip) = some M79 := by kernel_rfl
theorem Run79 {args : List PV} {v : AV} {rs : List (Nat × List PV)} (ids : List Bool) (h : args.length ≤ 20) (hv : run Try.prog (retK [RV.tmp 4] ids v rs) M79 [] ⟨entry 0 args, []⟩) : Fn Try.prog 79 args v rs :=
  Fn_run ids (by kernel_rfl) Try.func79 (by decide) rfl mc79 (by kernel_rfl) (by rw [Try.ntmps79]; exact h) (by rw [Try.ntmps79]; decide) hv

/-- 'cmp.Or[int]' -/
def B77_0 : MC := (.seq (.reg [⟨(some 9), none, (.q (.bin .lss (.t 8) (.t 7)))⟩] [] [3, 6, 7, 8, 9] []) (.seq (.cond (.t 9) .skip (.exit 0)) (.seq (.block 1 (.seq (.reg [⟨(some 10), none,
  (.q (.ia (.t 6) (.t 8) 1))⟩, ⟨(some 11), none, (.q (.ld (.t 10) 1 false))⟩, ⟨(some 5), none, (.q (.mv (.t 11)))⟩] [] [3, 5, 6, 7, 8] []) (.seq (.reg [⟨(some 12), none, (.q (.mv (.t 5)))⟩,
  ⟨(some 13), none, (.q (.mv (.t 3)))⟩, ⟨(some 14), none, (.q (.bin .neq (.t 12) (.t 13)))⟩] [] [3, 5, 6, 7, 8, 14] []) (.cond (.t 14) (.seq (.reg [⟨(some 15), none, (.q (.mv (.t 5)))⟩, ⟨(some 2),
  none, (.q (.mv (.t 15)))⟩] [] [2] []) .ret) .skip)))) (.reg [⟨(some 16), none, (.q (.bin .add (.t 8) (.c (.int .i64 1))))⟩, ⟨(some 8), none, (.q (.mv (.t 16)))⟩] [] [3, 6, 7, 8] []))))
def R77_0 : MC := (.seq (.reg [⟨(some 17), none, (.q (.mv (.t 3)))⟩, ⟨(some 2), none, (.q (.mv (.t 17)))⟩] [] [2] []) .ret)
def M77 : MC := (.seq (.reg [⟨(some 2), none, (.q (.mv (.c (.int .i64 0))))⟩] [] [0] []) (.seq (.reg [⟨(some 3), none, (.q (.mv (.c (.int .i64 0))))⟩] [] [0, 3] []) (.seq (.seq (.reg [⟨(some 6), none,
  (.q (.mv (.t 0)))⟩, ⟨(some 7), none, (.q (.len (.t 6) false))⟩, ⟨(some 8), none, (.q (.mv (.c (.int .i64 0))))⟩] [] [3, 6, 7, 8] []) (.block 0 (.loop B77_0))) R77_0)))
theorem mc77 : ofCode Try.prog [] Try.f77.ntmps [(0, ⟨[0], [], [], 0, [], none⟩),
    (1, ⟨[0, 3], [], [], 0, [], none⟩),
    (2, ⟨[3, 6, 7, 8], [], [], 0, [], none⟩),
    (3, ⟨[3, 6, 7, 8, 9], [], [], 0, [], none⟩),
    (4, ⟨[3, 5, 6, 7, 8], [], [], 0, [], none⟩),
    (5, ⟨[3, 5, 6, 7, 8, 14], [], [], 0, [], none⟩),
    (6, ⟨[2], [], [], 0, [], none⟩),
    (7, ⟨[3, 6, 7, 8], [], [], 0, [], none⟩),
    (8, ⟨[2], [], [], 0, [], none⟩)] (Try.f77.body.getD .skip) = some M77 := by kernel_rfl
theorem Run77 {args : List PV} {v : AV} {rs : List (Nat × List PV)} (ids : List Bool) (h : args.length ≤ 18) (hv : run Try.prog (retK [RV.tmp 2] ids v rs) M77 [] ⟨entry 0 args, []⟩) : Fn Try.prog 77 args v rs :=
  Fn_run ids (by kernel_rfl) Try.func77 (by decide) rfl mc77 (by kernel_rfl) (by rw [Try.ntmps77]; exact h) (by rw [Try.ntmps77]; decide) hv

/-- 'outbox.Next.1' -/
def M76 : MC := (.seq (.reg [⟨(some 2), none, (.box (.t 0))⟩, ⟨(some 3), none, (.box (.t 1))⟩, ⟨(some 4), none, (.q (.mv (.c (.int .i64 0))))⟩] [] [2, 3] [2, 3]) (.seq (.reg [⟨(some 5), none,
  (.q (.fa (.t 2) 0))⟩, ⟨(some 6), none, (.q (.fa (.t 5) 0))⟩, ⟨(some 7), none, (.q (.ld (.t 6) 1 false))⟩, ⟨(some 8), none, (.q (.fa (.t 3) 0))⟩, ⟨(some 9), none, (.q (.fa (.t 8) 0))⟩, ⟨(some 10),
  none, (.q (.ld (.t 9) 1 false))⟩, ⟨(some 12), none, (.q (.fa (.t 2) 0))⟩, ⟨(some 13), none, (.q (.fa (.t 12) 1))⟩, ⟨(some 14), none, (.q (.ld (.t 13) 1 false))⟩, ⟨(some 15), none, (.q (.fa (.t 3)
  0))⟩, ⟨(some 16), none, (.q (.fa (.t 15) 1))⟩, ⟨(some 17), none, (.q (.ld (.t 16) 1 false))⟩, ⟨(some 11), none, (.call (.f 78) [(.t 7), (.t 10)])⟩, ⟨(some 18), none, (.call (.f 79) [(.t 14),
  (.t 17)])⟩, ⟨(some 19), none, (.lits [(.t 11), (.t 18)] 1)⟩, ⟨(some 20), none, (.call (.f 77) [(.t 19)])⟩, ⟨(some 4), none, (.q (.mv (.t 20)))⟩] [] [4] [1020]) .ret))
theorem mc76 : ofCode Try.prog [] Try.f76.ntmps [(0, ⟨[2, 3], [2, 3], [], 0, [], none⟩),
    (1, ⟨[4], [1020], [(0, 122951), (1, 122950), (2, 122948), (3, 123000), (4, 122992), (5, 122976), (7, 123776), (8, 123648), (9, 123392), (10, 130048), (11, 129024), (12, 126976), (6, 0), (13, 0), (14, 0), (15, 0), (16, 65536)], 131071, [], none⟩)] (Try.f76.body.getD .skip) = some M76 := by kernel_rfl
theorem Run76 {args : List PV} {v : AV} {rs : List (Nat × List PV)} (ids : List Bool) (h : args.length ≤ 21) (hv : run Try.prog (retK [RV.tmp 4] ids v rs) M76 [] ⟨entry 0 args, []⟩) : Fn Try.prog 76 args v rs :=
  Fn_run ids (by kernel_rfl) Try.func76 (by decide) rfl mc76 (by kernel_rfl) (by rw [Try.ntmps76]; exact h) (by rw [Try.ntmps76]; decide) hv

/-- 'outbox.dues' -/
def B74_0 : MC := (.seq (.reg [⟨(some 12), none, (.q (.bin .lss (.t 11) (.t 10)))⟩] [] [1, 5, 9, 10, 11, 12] [31, 2005]) (.seq (.cond (.t 12) .skip (.exit 0)) (.seq (.block 1 (.seq (.reg [⟨(some 13),
  none, (.q (.mv (.t 11)))⟩, ⟨(some 14), none, (.q (.ia (.t 9) (.t 11) 5))⟩, ⟨(some 15), none, (.q (.ld (.t 14) 5 true))⟩, ⟨(some 7), none, (.alloc [(.pv (.sc (.int .u64 0))),
  (.pv (.sc (.string ⟨#[]⟩))), .e0, (.pv (.sc (.int .i64 0))), (.pv (.sc (.int .i64 0)))])⟩, ⟨(some 6), none, (.q (.mv (.t 13)))⟩, ⟨none, none, (.st (.t 7) (.t 15) 5)⟩] [] [1, 5, 6, 7, 9, 10, 11] [7,
  31, 2005]) (.seq (.reg [⟨(some 16), none, (.q (.fa (.t 7) 4))⟩, ⟨(some 17), none, (.q (.ld (.t 16) 1 false))⟩, ⟨(some 18), none, (.q (.fa (.t 7) 0))⟩, ⟨(some 19), none, (.q (.ld (.t 18) 1 false))⟩,
  ⟨(some 20), none, (.q (.mk [(.pv (.sc (.int .i64 0))), (.pv (.sc (.int .u64 0)))] [(0, 1, (.t 17)), (1, 1, (.t 19))]))⟩, ⟨(some 21), none, (.q (.mv (.t 6)))⟩, ⟨(some 22), none,
  (.q (.mk [(.pv (.sc (.int .i64 0))), (.pv (.sc (.int .u64 0))), (.pv (.sc (.int .i64 0)))] [(0, 2, (.t 20)), (2, 1, (.t 21))]))⟩, ⟨(some 8), none, (.alloc [(.pv (.sc (.int .i64 0))),
  (.pv (.sc (.int .u64 0))), (.pv (.sc (.int .i64 0)))])⟩, ⟨none, none, (.st (.t 8) (.t 22) 3)⟩] [] [1, 5, 8, 9, 10, 11] [8, 31, 2005]) (.seq (.reg [⟨(some 23), none, (.q (.fa (.t 8) 0))⟩, ⟨(some 24),
  none, (.q (.fa (.t 23) 0))⟩, ⟨(some 25), none, (.q (.ld (.t 24) 1 false))⟩, ⟨(some 26), none, (.q (.mv (.t 1)))⟩, ⟨(some 27), none, (.q (.bin .leq (.t 25) (.t 26)))⟩] [] [1, 5, 8, 9, 10, 11, 27] [8,
  31, 2005]) (.cond (.t 27) (.reg [⟨(some 28), none, (.q (.mv (.t 5)))⟩, ⟨(some 29), none, (.q (.ld (.t 8) 3 true))⟩, ⟨(some 30), none, (.lits [(.t 29)] 3)⟩, ⟨(some 31), none, (.app (.t 28) (.t 30)
  3 24)⟩, ⟨(some 5), none, (.q (.mv (.t 31)))⟩] [] [1, 5, 9, 10, 11] [31, 2005]) .skip))))) (.reg [⟨(some 32), none, (.q (.bin .add (.t 11) (.c (.int .i64 1))))⟩, ⟨(some 11), none,
  (.q (.mv (.t 32)))⟩] [] [1, 5, 9, 10, 11] [31, 2005]))))
def R74_0 : MC := (.seq (.reg [⟨(some 33), none, (.q (.mv (.t 5)))⟩, ⟨(some 4), none, (.q (.mv (.t 33)))⟩] [] [4] [31, 2005]) .ret)
def M74 : MC := (.seq (.reg [⟨(some 4), none, (.q (.mv .nil))⟩] [] [0, 1] []) (.seq (.reg [⟨(some 5), none, (.q (.mv .nil))⟩] [(5, 2005, 3)] [0, 1, 5] [31, 2005]) (.seq (.seq (.reg [⟨(some 9), none,
  (.q (.mv (.t 0)))⟩, ⟨(some 10), none, (.q (.len (.t 9) false))⟩, ⟨(some 11), none, (.q (.mv (.c (.int .i64 0))))⟩] [] [1, 5, 9, 10, 11] [31, 2005]) (.block 0 (.loop B74_0))) R74_0)))
theorem mc74 : ofCode Try.prog [] Try.f74.ntmps [(0, ⟨[0, 1], [], [], 0, [], none⟩),
    (1, ⟨[0, 1, 5], [31, 2005], [], 0, [(5, 2005, 3)], none⟩),
    (2, ⟨[1, 5, 9, 10, 11], [31, 2005], [], 0, [], none⟩),
    (3, ⟨[1, 5, 9, 10, 11, 12], [31, 2005], [], 0, [], none⟩),
    (4, ⟨[1, 5, 6, 7, 9, 10, 11], [7, 31, 2005], [], 0, [], none⟩),
    (5, ⟨[1, 5, 8, 9, 10, 11], [8, 31, 2005], [], 0, [], none⟩),
    (6, ⟨[1, 5, 8, 9, 10, 11, 27], [8, 31, 2005], [], 0, [], none⟩),
    (7, ⟨[1, 5, 9, 10, 11], [31, 2005], [], 0, [], none⟩),
    (8, ⟨[1, 5, 9, 10, 11], [31, 2005], [], 0, [], none⟩),
    (9, ⟨[4], [31, 2005], [], 0, [], none⟩)] (Try.f74.body.getD .skip) = some M74 := by kernel_rfl
theorem Run74 {args : List PV} {v : AV} {rs : List (Nat × List PV)} (ids : List Bool) (h : args.length ≤ 34) (hv : run Try.prog (retK [RV.tmp 4] ids v rs) M74 [] ⟨entry 0 args, []⟩) : Fn Try.prog 74 args v rs :=
  Fn_run ids (by kernel_rfl) Try.func74 (by decide) rfl mc74 (by kernel_rfl) (by rw [Try.ntmps74]; exact h) (by rw [Try.ntmps74]; decide) hv

/-- 'outbox.due]' -/
def B75_0 : MC := (.seq (.seq (.reg [⟨(some 14), none, (.q (.mv (.t 6)))⟩, ⟨(some 15), none, (.q (.mv (.t 0)))⟩, ⟨(some 16), none, (.q (.len (.t 15) false))⟩, ⟨(some 17), none, (.q (.bin .lss (.t 14)
  (.t 16)))⟩] [] [0, 1, 4, 5, 6, 17] [4, 5]) (.cond (.t 17) .skip (.exit 0))) (.seq (.block 1 (.seq (.reg [⟨(some 20), none, (.q (.mv (.t 1)))⟩, ⟨(some 21), none, (.q (.mv (.t 0)))⟩, ⟨(some 22), none,
  (.q (.mv (.t 6)))⟩, ⟨(some 23), none, (.q (.ia (.t 21) (.t 22) 3))⟩, ⟨(some 24), none, (.q (.ld (.t 23) 3 true))⟩, ⟨(some 25), none, (.q (.ld (.t 5) 3 true))⟩, ⟨(some 26), none, (.call (.t 20)
  [(.t 24), (.t 25)])⟩, ⟨(some 27), none, (.q (.bin .lss (.t 26) (.c (.int .i64 0))))⟩] [] [0, 1, 4, 5, 6, 27] [4, 5, 1026]) (.cond (.t 27) (.reg [⟨(some 28), none, (.q (.mv (.t 0)))⟩, ⟨(some 29),
  none, (.q (.mv (.t 6)))⟩, ⟨(some 30), none, (.q (.ia (.t 28) (.t 29) 3))⟩, ⟨(some 31), none, (.q (.ld (.t 30) 3 true))⟩, ⟨none, none, (.st (.t 5) (.t 31) 3)⟩] [] [0, 1, 4, 5, 6] [4, 5]) .skip)))
  (.reg [⟨(some 18), none, (.q (.mv (.t 6)))⟩, ⟨(some 19), none, (.q (.bin .add (.t 18) (.c (.int .i64 1))))⟩, ⟨(some 6), none, (.q (.mv (.t 19)))⟩] [] [0, 1, 4, 5, 6] [4, 5])))
def R75_0 : MC := (.seq (.reg [⟨(some 32), none, (.q (.ld (.t 5) 3 true))⟩, ⟨none, none, (.st (.t 4) (.t 32) 3)⟩] [] [4] [4]) .ret)
def M75 : MC := (.seq (.reg [⟨(some 4), none, (.alloc [(.pv (.sc (.int .i64 0))), (.pv (.sc (.int .u64 0))), (.pv (.sc (.int .i64 0)))])⟩] [] [0, 1, 4] [4]) (.seq (.seq (.reg [⟨(some 7), none,
  (.q (.mv (.t 0)))⟩, ⟨(some 8), none, (.q (.len (.t 7) false))⟩, ⟨(some 9), none, (.q (.bin .lss (.t 8) (.c (.int .i64 1))))⟩] [] [0, 1, 4, 9] [4]) (.cond (.t 9) .bad .skip)) (.seq (.reg [⟨(some 11),
  none, (.q (.mv (.t 0)))⟩, ⟨(some 12), none, (.q (.ia (.t 11) (.c (.int .i64 0)) 3))⟩, ⟨(some 13), none, (.q (.ld (.t 12) 3 true))⟩, ⟨(some 5), none, (.alloc [(.pv (.sc (.int .i64 0))),
  (.pv (.sc (.int .u64 0))), (.pv (.sc (.int .i64 0)))])⟩, ⟨none, none, (.st (.t 5) (.t 13) 3)⟩] [] [0, 1, 4, 5] [4, 5]) (.seq (.seq (.reg [⟨(some 6), none, (.q (.mv (.c (.int .i64 1))))⟩] [] [0, 1,
  4, 5, 6] [4, 5]) (.block 0 (.loop B75_0))) R75_0))))
theorem mc75 : ofCode Try.prog [] Try.f75.ntmps [(0, ⟨[0, 1, 4], [4], [], 0, [], none⟩),
    (1, ⟨[0, 1, 4, 9], [4], [], 0, [], none⟩),
    (2, ⟨[0, 1, 4], [4], [], 0, [], none⟩),
    (3, ⟨[0, 1, 4, 5], [4, 5], [], 0, [], none⟩),
    (4, ⟨[0, 1, 4, 5, 6], [4, 5], [], 0, [], none⟩),
    (5, ⟨[0, 1, 4, 5, 6, 17], [4, 5], [], 0, [], none⟩),
    (6, ⟨[0, 1, 4, 5, 6], [4, 5], [], 0, [], none⟩),
    (7, ⟨[0, 1, 4, 5, 6, 27], [4, 5, 1026], [(0, 193), (1, 218), (2, 220), (3, 216), (4, 208), (5, 224), (6, 0), (7, 128)], 255, [], none⟩),
    (8, ⟨[0, 1, 4, 5, 6], [4, 5], [], 0, [], none⟩),
    (9, ⟨[4], [4], [], 0, [], none⟩)] (Try.f75.body.getD .skip) = some M75 := by kernel_rfl
theorem Run75 {args : List PV} {v : AV} {rs : List (Nat × List PV)} (ids : List Bool) (h : args.length ≤ 33) (hv : run Try.prog (retK [RV.cell 4 3 true] ids v rs) M75 [] ⟨entry 0 args, []⟩) : Fn Try.prog 75 args v rs :=
  Fn_run ids (by kernel_rfl) Try.func75 (by decide) rfl mc75 (by kernel_rfl) (by rw [Try.ntmps75]; exact h) (by rw [Try.ntmps75]; decide) hv

/-- 'outbox.Next' -/
def M28 : MC := (.seq (.reg [⟨(some 4), none, (.alloc [(.pv (.sc (.int .u64 0))), (.pv (.sc (.string ⟨#[]⟩))), .e0, (.pv (.sc (.int .i64 0))), (.pv (.sc (.int .i64 0)))])⟩, ⟨(some 5), none,
  (.q (.mv (.c (.int .i64 0))))⟩] [] [0, 1, 4] [4]) (.seq (.seq (.reg [⟨(some 8), none, (.q (.mv (.t 0)))⟩, ⟨(some 9), none, (.call (.f 33) [(.t 8)])⟩, ⟨(some 10), none, (.q (.bin .neq (.t 9)
  (.c (.int .i64 0))))⟩] [] [0, 1, 4, 10] [4, 1009]) (.cond (.t 10) (.seq (.reg [⟨(some 11), none, (.q (.mk [(.pv (.sc (.int .u64 0))), (.pv (.sc (.string ⟨#[]⟩))), .e0, (.pv (.sc (.int .i64 0))),
  (.pv (.sc (.int .i64 0)))] []))⟩, ⟨none, none, (.st (.t 4) (.t 11) 5)⟩, ⟨(some 5), none, (.q (.mv (.c (.int .i64 1))))⟩] [] [4, 5] [4]) .ret) .skip)) (.seq (.reg [⟨(some 12), none,
  (.q (.mv (.t 0)))⟩, ⟨(some 13), none, (.q (.mv (.t 1)))⟩, ⟨(some 14), none, (.call (.f 74) [(.t 12), (.t 13)])⟩, ⟨(some 6), none, (.q (.mv (.t 14)))⟩] [] [0, 4, 6] [4, 1014])
  (.seq (.seq (.reg [⟨(some 15), none, (.q (.mv (.t 6)))⟩, ⟨(some 16), none, (.q (.len (.t 15) false))⟩, ⟨(some 17), none, (.q (.bin .eql (.t 16) (.c (.int .i64 0))))⟩] [] [0, 4, 6, 17] [4, 1014])
  (.cond (.t 17) (.seq (.reg [⟨(some 18), none, (.q (.mk [(.pv (.sc (.int .u64 0))), (.pv (.sc (.string ⟨#[]⟩))), .e0, (.pv (.sc (.int .i64 0))), (.pv (.sc (.int .i64 0)))] []))⟩, ⟨none, none,
  (.st (.t 4) (.t 18) 5)⟩, ⟨(some 5), none, (.q (.mv (.c (.int .i64 4))))⟩] [] [4, 5] [4]) .ret) .skip)) (.seq (.reg [⟨(some 19), none, (.q (.mv (.t 6)))⟩, ⟨(some 20), none, (.call (.f 75) [(.t 19),
  (.f 76)])⟩, ⟨(some 7), none, (.alloc [(.pv (.sc (.int .i64 0))), (.pv (.sc (.int .u64 0))), (.pv (.sc (.int .i64 0)))])⟩, ⟨none, none, (.st (.t 7) (.t 20) 3)⟩] [] [0, 4, 7] [4, 7, 1020])
  (.seq (.reg [⟨(some 21), none, (.q (.mv (.t 0)))⟩, ⟨(some 22), none, (.q (.fa (.t 7) 2))⟩, ⟨(some 23), none, (.q (.ld (.t 22) 1 false))⟩, ⟨(some 24), none, (.q (.ia (.t 21) (.t 23) 5))⟩, ⟨(some 25),
  none, (.q (.ld (.t 24) 5 true))⟩, ⟨none, none, (.st (.t 4) (.t 25) 5)⟩, ⟨(some 5), none, (.q (.mv (.c (.int .i64 0))))⟩] [] [4, 5] [4]) .ret))))))
theorem mc28 : ofCode Try.prog [] Try.f28.ntmps [(0, ⟨[0, 1, 4], [4], [], 0, [], none⟩),
    (1, ⟨[0, 1, 4, 10], [4, 1009], [], 0, [], none⟩),
    (2, ⟨[4, 5], [4], [], 0, [], none⟩),
    (3, ⟨[0, 4, 6], [4, 1014], [], 0, [], none⟩),
    (4, ⟨[0, 4, 6, 17], [4, 1014], [], 0, [], none⟩),
    (5, ⟨[4, 5], [4], [], 0, [], none⟩),
    (6, ⟨[0, 4, 7], [4, 7, 1020], [], 0, [], none⟩),
    (7, ⟨[4, 5], [4], [], 0, [], none⟩)] (Try.f28.body.getD .skip) = some M28 := by kernel_rfl
theorem Run28 {args : List PV} {v : AV} {rs : List (Nat × List PV)} (ids : List Bool) (h : args.length ≤ 26) (hv : run Try.prog (retK [RV.cell 4 5 true, RV.tmp 5] ids v rs) M28 [] ⟨entry 0 args, []⟩) : Fn Try.prog 28 args v rs :=
  Fn_run ids (by kernel_rfl) Try.func28 (by decide) rfl mc28 (by kernel_rfl) (by rw [Try.ntmps28]; exact h) (by rw [Try.ntmps28]; decide) hv

/-- 'trystlaw15.OutboxWaits' -/
def B4_0 : MC := (.seq (.seq (.reg [⟨(some 40), none, (.q (.mv (.t 11)))⟩, ⟨(some 41), none, (.q (.bin .lss (.t 40) (.c (.int .i64 4))))⟩] [] [7, 9, 10, 11, 41] [1027, 1047]) (.cond (.t 41)
  .skip (.exit 0))) (.seq (.block 1 (.seq (.reg [⟨(some 45), none, (.q (.mv (.t 7)))⟩, ⟨(some 46), none, (.q (.mv (.t 9)))⟩, ⟨(some 47), none, (.call (.f 27) [(.t 45), (.c (.int .u64 1)), (.t 46)])⟩,
  ⟨(some 44), none, (.q (.mv (.t 47)))⟩, ⟨(some 48), none, (.q (.ext (.t 44) 0))⟩, ⟨(some 49), none, (.q (.ext (.t 44) 1))⟩, ⟨(some 50), none, (.q (.ext (.t 44) 2))⟩, ⟨(some 12), none,
  (.q (.mv (.t 48)))⟩, ⟨(some 13), none, (.q (.mv (.t 49)))⟩, ⟨(some 14), none, (.q (.mv (.t 50)))⟩] [] [9, 10, 11, 12, 13, 14] [1047]) (.seq (.reg [⟨(some 52), none, (.q (.mv (.t 12)))⟩, ⟨(some 53),
  none, (.q (.mv (.t 9)))⟩, ⟨(some 54), none, (.q (.mv (.t 10)))⟩, ⟨(some 55), none, (.q (.bin .add (.t 53) (.t 54)))⟩, ⟨(some 56), none, (.q (.bin .sub (.t 55) (.c (.int .i64 1))))⟩, ⟨(some 57),
  none, (.call (.f 28) [(.t 52), (.t 56)])⟩, ⟨(some 51), none, (.q (.mv (.t 57)))⟩, ⟨(some 58), none, (.q (.ext (.t 51) 0))⟩, ⟨(some 59), none, (.q (.ext (.t 51) 1))⟩, ⟨(some 15), none,
  (.alloc [(.pv (.sc (.int .u64 0))), (.pv (.sc (.string ⟨#[]⟩))), .e0, (.pv (.sc (.int .i64 0))), (.pv (.sc (.int .i64 0)))])⟩, ⟨none, none, (.st (.t 15) (.t 58) 5)⟩, ⟨(some 16), none,
  (.q (.mv (.t 59)))⟩] [] [9, 10, 11, 12, 13, 14, 16] [1047, 1057]) (.seq (.reg [⟨(some 61), none, (.q (.mv (.t 12)))⟩, ⟨(some 62), none, (.q (.mv (.t 9)))⟩, ⟨(some 63), none, (.q (.mv (.t 10)))⟩,
  ⟨(some 64), none, (.q (.bin .add (.t 62) (.t 63)))⟩, ⟨(some 65), none, (.call (.f 28) [(.t 61), (.t 64)])⟩, ⟨(some 60), none, (.q (.mv (.t 65)))⟩, ⟨(some 66), none, (.q (.ext (.t 60) 0))⟩,
  ⟨(some 67), none, (.q (.ext (.t 60) 1))⟩, ⟨(some 17), none, (.alloc [(.pv (.sc (.int .u64 0))), (.pv (.sc (.string ⟨#[]⟩))), .e0, (.pv (.sc (.int .i64 0))), (.pv (.sc (.int .i64 0)))])⟩, ⟨none,
  none, (.st (.t 17) (.t 66) 5)⟩, ⟨(some 18), none, (.q (.mv (.t 67)))⟩] [] [9, 10, 11, 12, 13, 14, 16, 17, 18] [17, 1047, 1057, 1065]) (.seq (.seq (.reg [⟨(some 68), none, (.q (.mv (.t 13)))⟩,
  ⟨(some 69), none, (.q (.mv (.t 68)))⟩, ⟨(some 70), (some (69, false)), (.q (.mv (.t 14)))⟩, ⟨(some 71), (some (69, false)), (.q (.bin .neq (.t 70) (.c (.int .i64 0))))⟩, ⟨(some 72), none,
  (.q (.pick (.t 69) (.c (.bool true)) (.t 71)))⟩, ⟨(some 73), none, (.q (.mv (.t 72)))⟩, ⟨(some 74), (some (73, false)), (.q (.mv (.t 16)))⟩, ⟨(some 75), (some (73, false)), (.q (.bin .neq (.t 74)
  (.c (.int .i64 4))))⟩, ⟨(some 76), none, (.q (.pick (.t 73) (.c (.bool true)) (.t 75)))⟩, ⟨(some 77), none, (.q (.mv (.t 76)))⟩, ⟨(some 78), (some (77, false)), (.q (.mv (.t 18)))⟩, ⟨(some 79),
  (some (77, false)), (.q (.bin .neq (.t 78) (.c (.int .i64 0))))⟩, ⟨(some 80), none, (.q (.pick (.t 77) (.c (.bool true)) (.t 79)))⟩, ⟨(some 81), none, (.q (.mv (.t 80)))⟩, ⟨(some 82), (some (81,
  false)), (.q (.fa (.t 17) 0))⟩, ⟨(some 83), (some (81, false)), (.q (.ld (.t 82) 1 false))⟩, ⟨(some 84), (some (81, false)), (.q (.bin .neq (.t 83) (.c (.int .u64 1))))⟩, ⟨(some 85), none,
  (.q (.pick (.t 81) (.c (.bool true)) (.t 84)))⟩, ⟨(some 86), none, (.q (.mv (.t 85)))⟩, ⟨(some 87), (some (86, false)), (.q (.fa (.t 17) 4))⟩, ⟨(some 88), (some (86, false)), (.q (.ld (.t 87)
  1 false))⟩, ⟨(some 89), (some (86, false)), (.q (.mv (.t 9)))⟩, ⟨(some 90), (some (86, false)), (.q (.mv (.t 10)))⟩, ⟨(some 91), (some (86, false)), (.q (.bin .add (.t 89) (.t 90)))⟩, ⟨(some 92),
  (some (86, false)), (.q (.bin .neq (.t 88) (.t 91)))⟩, ⟨(some 93), none, (.q (.pick (.t 86) (.c (.bool true)) (.t 92)))⟩, ⟨(some 94), none, (.q (.mv (.t 93)))⟩, ⟨(some 95), (some (94, false)),
  (.q (.fa (.t 17) 3))⟩, ⟨(some 96), (some (94, false)), (.q (.ld (.t 95) 1 false))⟩, ⟨(some 97), (some (94, false)), (.q (.mv (.t 11)))⟩, ⟨(some 98), (some (94, false)), (.q (.bin .add (.t 97)
  (.c (.int .i64 1))))⟩, ⟨(some 99), (some (94, false)), (.q (.bin .neq (.t 96) (.t 98)))⟩, ⟨(some 100), none, (.q (.pick (.t 94) (.c (.bool true)) (.t 99)))⟩] [] [9, 10, 11, 12, 100] [1047, 1057,
  1065]) (.cond (.t 100) (.seq (.reg [⟨(some 6), none, (.q (.mv (.c (.bool false))))⟩] [] [6] [1036, 1110, 1125]) .ret) .skip)) (.reg [⟨(some 101), none, (.q (.mv (.t 12)))⟩, ⟨(some 102), none,
  (.q (.mv (.t 9)))⟩, ⟨(some 103), none, (.q (.mv (.t 10)))⟩, ⟨(some 104), none, (.q (.bin .add (.t 102) (.t 103)))⟩, ⟨(some 105), none, (.q (.mv (.t 10)))⟩, ⟨(some 106), none,
  (.q (.bin .mul (.c (.int .i64 2)) (.t 105)))⟩, ⟨(some 7), none, (.q (.mv (.t 101)))⟩, ⟨(some 9), none, (.q (.mv (.t 104)))⟩, ⟨(some 10), none, (.q (.mv (.t 106)))⟩] [] [7, 9, 10, 11] [1027,
  1047])))))) (.reg [⟨(some 42), none, (.q (.mv (.t 11)))⟩, ⟨(some 43), none, (.q (.bin .add (.t 42) (.c (.int .i64 1))))⟩, ⟨(some 11), none, (.q (.mv (.t 43)))⟩] [] [7, 9, 10, 11] [1027, 1047])))
def R4_0 : MC := (.seq (.reg [⟨(some 108), none, (.q (.mv (.t 7)))⟩, ⟨(some 109), none, (.q (.mv (.t 9)))⟩, ⟨(some 110), none, (.call (.f 27) [(.t 108), (.c (.int .u64 1)), (.t 109)])⟩, ⟨(some 107),
  none, (.q (.mv (.t 110)))⟩, ⟨(some 111), none, (.q (.ext (.t 107) 0))⟩, ⟨(some 112), none, (.q (.ext (.t 107) 1))⟩, ⟨(some 113), none, (.q (.ext (.t 107) 2))⟩, ⟨(some 19), none,
  (.q (.mv (.t 111)))⟩, ⟨(some 20), none, (.q (.mv (.t 112)))⟩, ⟨(some 21), none, (.q (.mv (.t 113)))⟩] [] [19, 20, 21] [1110]) (.seq (.reg [⟨(some 114), none, (.q (.mv (.t 19)))⟩, ⟨(some 115), none,
  (.q (.len (.t 114) false))⟩, ⟨(some 116), none, (.q (.bin .eql (.t 115) (.c (.int .i64 0))))⟩, ⟨(some 117), none, (.q (.mv (.t 116)))⟩, ⟨(some 118), (some (117, true)), (.q (.mv (.t 20)))⟩,
  ⟨(some 119), none, (.q (.pick (.t 117) (.t 118) (.c (.bool false))))⟩, ⟨(some 120), none, (.q (.mv (.t 119)))⟩, ⟨(some 121), (some (120, true)), (.q (.mv (.t 21)))⟩, ⟨(some 122), (some (120, true)),
  (.q (.bin .eql (.t 121) (.c (.int .i64 0))))⟩, ⟨(some 123), none, (.q (.pick (.t 120) (.t 122) (.c (.bool false))))⟩, ⟨(some 124), none, (.q (.mv (.t 123)))⟩, ⟨(some 125), (some (124, true)),
  (.call (.f 22) [])⟩, ⟨(some 126), none, (.q (.pick (.t 124) (.t 125) (.c (.bool false))))⟩, ⟨(some 6), none, (.q (.mv (.t 126)))⟩] [] [6] [1036, 1110, 1125]) .ret))
def M4 : MC := (.seq (.reg [⟨(some 6), none, (.q (.mv (.c (.bool false))))⟩] [] [0, 1, 2] []) (.seq (.reg [⟨(some 23), none, (.q (.mv (.t 0)))⟩, ⟨(some 24), none, (.q (.mv (.t 1)))⟩, ⟨(some 25), none,
  (.q (.mk [(.pv (.sc (.int .u64 0))), (.pv (.sc (.string ⟨#[]⟩))), .e0, (.pv (.sc (.int .i64 0))), (.pv (.sc (.int .i64 0)))] [(0, 1, (.c (.int .u64 1))), (1, 1, (.t 23)), (2, 1, (.t 24))]))⟩,
  ⟨(some 26), none, (.call (.f 26) [(.t 25)])⟩, ⟨(some 27), none, (.call (.f 25) [.nil, (.t 26)])⟩, ⟨(some 22), none, (.q (.mv (.t 27)))⟩, ⟨(some 28), none, (.q (.ext (.t 22) 0))⟩, ⟨(some 29), none,
  (.q (.ext (.t 22) 1))⟩, ⟨(some 7), none, (.q (.mv (.t 28)))⟩, ⟨(some 8), none, (.q (.mv (.t 29)))⟩] [] [2, 7, 8] [1027, 1047]) (.seq (.seq (.reg [⟨(some 30), none, (.q (.mv (.t 8)))⟩, ⟨(some 31),
  none, (.q (.bin .neq (.t 30) (.c (.int .i64 0))))⟩] [] [2, 7, 31] [1027, 1047]) (.cond (.t 31) (.seq (.reg [⟨(some 32), none, (.q (.mv (.t 7)))⟩, ⟨(some 33), none, (.q (.len (.t 32) false))⟩,
  ⟨(some 34), none, (.q (.bin .eql (.t 33) (.c (.int .i64 0))))⟩, ⟨(some 35), none, (.q (.mv (.t 34)))⟩, ⟨(some 36), (some (35, true)), (.call (.f 22) [])⟩, ⟨(some 37), none, (.q (.pick (.t 35)
  (.t 36) (.c (.bool false))))⟩, ⟨(some 6), none, (.q (.mv (.t 37)))⟩] [] [6] [1036, 1110, 1125]) .ret) .skip)) (.seq (.reg [⟨(some 38), none, (.q (.mv (.t 2)))⟩, ⟨(some 39), none,
  (.q (.conv .i64 (.t 38)))⟩, ⟨(some 9), none, (.q (.mv (.t 39)))⟩] [] [7, 9] [1027, 1047]) (.seq (.reg [⟨(some 10), none, (.q (.mv (.c (.int .i64 2))))⟩] [] [7, 9, 10] [1027, 1047])
  (.seq (.seq (.reg [⟨(some 11), none, (.q (.mv (.c (.int .i64 0))))⟩] [] [7, 9, 10, 11] [1027, 1047]) (.block 0 (.loop B4_0))) R4_0))))))
theorem mc4 : ofCode Try.prog [] Try.f4.ntmps [(0, ⟨[0, 1, 2], [], [], 0, [], none⟩),
    (1, ⟨[2, 7, 8], [1027, 1047], [], 0, [], none⟩),
    (2, ⟨[2, 7, 31], [1027, 1047], [], 0, [], none⟩),
    (3, ⟨[6], [1036, 1110, 1125], [], 0, [], none⟩),
    (4, ⟨[7, 9], [1027, 1047], [], 0, [], none⟩),
    (5, ⟨[7, 9, 10], [1027, 1047], [], 0, [], none⟩),
    (6, ⟨[7, 9, 10, 11], [1027, 1047], [], 0, [], none⟩),
    (7, ⟨[7, 9, 10, 11, 41], [1027, 1047], [], 0, [], none⟩),
    (8, ⟨[7, 9, 10, 11], [1027, 1047], [], 0, [], none⟩),
    (9, ⟨[9, 10, 11, 12, 13, 14], [1047], [], 0, [], none⟩),
    (10, ⟨[9, 10, 11, 12, 13, 14, 16], [1047, 1057], [], 0, [], none⟩),
    (11, ⟨[9, 10, 11, 12, 13, 14, 16, 17, 18], [17, 1047, 1057, 1065], [], 0, [], none⟩),
    (12, ⟨[9, 10, 11, 12, 100], [1047, 1057, 1065], [], 0, [], none⟩),
    (13, ⟨[6], [1036, 1110, 1125], [], 0, [], none⟩),
    (14, ⟨[7, 9, 10, 11], [1027, 1047], [], 0, [], none⟩),
    (15, ⟨[19, 20, 21], [1110], [], 0, [], none⟩),
    (16, ⟨[6], [1036, 1110, 1125], [], 0, [], none⟩)] (Try.f4.body.getD .skip) = some M4 := by kernel_rfl
theorem Run4 {args : List PV} {v : AV} {rs : List (Nat × List PV)} (ids : List Bool) (h : args.length ≤ 127) (hv : run Try.prog (retK [RV.tmp 6] ids v rs) M4 [] ⟨entry 0 args, []⟩) : Fn Try.prog 4 args v rs :=
  Fn_run ids (by kernel_rfl) Try.func4 (by decide) rfl mc4 (by kernel_rfl) (by rw [Try.ntmps4]; exact h) (by rw [Try.ntmps4]; decide) hv

end Go.Vc

namespace Go.Vc
open Go.Proofs
set_option linter.unusedSimpArgs false
set_option linter.unusedVariables false

/-! ## The next one -/
structure Du where
  at_ : Int
  id : Int
  i : Int
  deriving DecidableEq
instance : Inhabited Du := ⟨⟨0, 0, 0⟩⟩
abbrev Du.pv (x : Du) : PV := .agg [pI x.at_, pU x.id, pI x.i]
abbrev ds (l : List Du) : PV := .lst (l.map Du.pv)
theorem wf_ds (l : List Du) : WfL 3 (l.map Du.pv) := wf_map (f := Du.pv) (s := 3) (fun a => ⟨rfl, fun c hc => by
  simp only [PV.cells, List.mem_cons, List.not_mem_nil, or_false] at hc
  rcases hc with rfl | rfl | rfl <;> rfl⟩) l
def cmpI (a b : Int) : Int := if a < b then -1 else if b < a then 1 else 0
theorem fn99 (n : Int) : Fn Try.prog 99 [pI n] (.pv (pB false)) [] := by
  refine Run99 [] (by simp) ?_
  simp only [go_sem, Nat.reduceEqDiff, Nat.reduceBEq, Nat.reduceAdd, Nat.reduceMul, Nat.reduceSub, Nat.reduceLeDiff, Nat.reduceLT, reduceIte, reduceCtorEq, Int.reduceToNat, Int.reduceLE, Int.reduceLT, Int.reduceNeg, Bool.not_not, and_self, Bool.and_eq_false_iff, Int.cast_ofNat_Int, Int.reduceAdd, Int.reduceSub, Int.reduceMul, Int.reduceEq, Int.reduceNe, M99]
theorem fn100 (n : Int) : Fn Try.prog 100 [pU n] (.pv (pB false)) [] := by
  refine Run100 [] (by simp) ?_
  simp only [go_sem, Nat.reduceEqDiff, Nat.reduceBEq, Nat.reduceAdd, Nat.reduceMul, Nat.reduceSub, Nat.reduceLeDiff, Nat.reduceLT, reduceIte, reduceCtorEq, Int.reduceToNat, Int.reduceLE, Int.reduceLT, Int.reduceNeg, Bool.not_not, and_self, Bool.and_eq_false_iff, Int.cast_ofNat_Int, Int.reduceAdd, Int.reduceSub, Int.reduceMul, Int.reduceEq, Int.reduceNe, M100]
theorem fn78 (a b : Int) : Fn Try.prog 78 [pI a, pI b] (.pv (pI (cmpI a b))) [] := by
  refine Run78 [] (by simp) ?_
  simp only [go_sem, Nat.reduceEqDiff, Nat.reduceBEq, Nat.reduceAdd, Nat.reduceMul, Nat.reduceSub, Nat.reduceLeDiff, Nat.reduceLT, reduceIte, reduceCtorEq, Int.reduceToNat, Int.reduceLE, Int.reduceLT, Int.reduceNeg, Bool.not_not, and_self, Bool.and_eq_false_iff, Int.cast_ofNat_Int, Int.reduceAdd, Int.reduceSub, Int.reduceMul, Int.reduceEq, Int.reduceNe, M78]
  refine runR_callf (by simp only [go_sem, Nat.reduceEqDiff, Nat.reduceBEq, Nat.reduceAdd, Nat.reduceMul, Nat.reduceSub, Nat.reduceLeDiff, Nat.reduceLT, reduceIte, reduceCtorEq, Int.reduceToNat, Int.reduceLE, Int.reduceLT, Int.reduceNeg, Bool.not_not, and_self, Bool.and_eq_false_iff, Int.cast_ofNat_Int, Int.reduceAdd, Int.reduceSub, Int.reduceMul, Int.reduceEq, Int.reduceNe]) (by simp only [go_sem, Nat.reduceEqDiff, Nat.reduceBEq, Nat.reduceAdd, Nat.reduceMul, Nat.reduceSub, Nat.reduceLeDiff, Nat.reduceLT, reduceIte, reduceCtorEq, Int.reduceToNat, Int.reduceLE, Int.reduceLT, Int.reduceNeg, Bool.not_not, and_self, Bool.and_eq_false_iff, Int.cast_ofNat_Int, Int.reduceAdd, Int.reduceSub, Int.reduceMul, Int.reduceEq, Int.reduceNe]) (fn99 a) ⟨rfl, trivial⟩ trivial ?_
  simp only [go_sem, Nat.reduceEqDiff, Nat.reduceBEq, Nat.reduceAdd, Nat.reduceMul, Nat.reduceSub, Nat.reduceLeDiff, Nat.reduceLT, reduceIte, reduceCtorEq, Int.reduceToNat, Int.reduceLE, Int.reduceLT, Int.reduceNeg, Bool.not_not, and_self, Bool.and_eq_false_iff, Int.cast_ofNat_Int, Int.reduceAdd, Int.reduceSub, Int.reduceMul, Int.reduceEq, Int.reduceNe]
  refine runR_callf (by simp only [go_sem, Nat.reduceEqDiff, Nat.reduceBEq, Nat.reduceAdd, Nat.reduceMul, Nat.reduceSub, Nat.reduceLeDiff, Nat.reduceLT, reduceIte, reduceCtorEq, Int.reduceToNat, Int.reduceLE, Int.reduceLT, Int.reduceNeg, Bool.not_not, and_self, Bool.and_eq_false_iff, Int.cast_ofNat_Int, Int.reduceAdd, Int.reduceSub, Int.reduceMul, Int.reduceEq, Int.reduceNe]) (by simp only [go_sem, Nat.reduceEqDiff, Nat.reduceBEq, Nat.reduceAdd, Nat.reduceMul, Nat.reduceSub, Nat.reduceLeDiff, Nat.reduceLT, reduceIte, reduceCtorEq, Int.reduceToNat, Int.reduceLE, Int.reduceLT, Int.reduceNeg, Bool.not_not, and_self, Bool.and_eq_false_iff, Int.cast_ofNat_Int, Int.reduceAdd, Int.reduceSub, Int.reduceMul, Int.reduceEq, Int.reduceNe]) (fn99 b) ⟨rfl, trivial⟩ trivial ?_
  simp only [go_sem, Nat.reduceEqDiff, Nat.reduceBEq, Nat.reduceAdd, Nat.reduceMul, Nat.reduceSub, Nat.reduceLeDiff, Nat.reduceLT, reduceIte, reduceCtorEq, Int.reduceToNat, Int.reduceLE, Int.reduceLT, Int.reduceNeg, Bool.not_not, and_self, Bool.and_eq_false_iff, Int.cast_ofNat_Int, Int.reduceAdd, Int.reduceSub, Int.reduceMul, Int.reduceEq, Int.reduceNe]
  unfold cmpI
  by_cases h1 : a < b <;> by_cases h2 : b < a <;> simp [h1, h2] <;> omega
theorem fn79 (a b : Int) : Fn Try.prog 79 [pU a, pU b] (.pv (pI (cmpI a b))) [] := by
  refine Run79 [] (by simp) ?_
  simp only [go_sem, Nat.reduceEqDiff, Nat.reduceBEq, Nat.reduceAdd, Nat.reduceMul, Nat.reduceSub, Nat.reduceLeDiff, Nat.reduceLT, reduceIte, reduceCtorEq, Int.reduceToNat, Int.reduceLE, Int.reduceLT, Int.reduceNeg, Bool.not_not, and_self, Bool.and_eq_false_iff, Int.cast_ofNat_Int, Int.reduceAdd, Int.reduceSub, Int.reduceMul, Int.reduceEq, Int.reduceNe, M79]
  refine runR_callf (by simp only [go_sem, Nat.reduceEqDiff, Nat.reduceBEq, Nat.reduceAdd, Nat.reduceMul, Nat.reduceSub, Nat.reduceLeDiff, Nat.reduceLT, reduceIte, reduceCtorEq, Int.reduceToNat, Int.reduceLE, Int.reduceLT, Int.reduceNeg, Bool.not_not, and_self, Bool.and_eq_false_iff, Int.cast_ofNat_Int, Int.reduceAdd, Int.reduceSub, Int.reduceMul, Int.reduceEq, Int.reduceNe]) (by simp only [go_sem, Nat.reduceEqDiff, Nat.reduceBEq, Nat.reduceAdd, Nat.reduceMul, Nat.reduceSub, Nat.reduceLeDiff, Nat.reduceLT, reduceIte, reduceCtorEq, Int.reduceToNat, Int.reduceLE, Int.reduceLT, Int.reduceNeg, Bool.not_not, and_self, Bool.and_eq_false_iff, Int.cast_ofNat_Int, Int.reduceAdd, Int.reduceSub, Int.reduceMul, Int.reduceEq, Int.reduceNe]) (fn100 a) ⟨rfl, trivial⟩ trivial ?_
  simp only [go_sem, Nat.reduceEqDiff, Nat.reduceBEq, Nat.reduceAdd, Nat.reduceMul, Nat.reduceSub, Nat.reduceLeDiff, Nat.reduceLT, reduceIte, reduceCtorEq, Int.reduceToNat, Int.reduceLE, Int.reduceLT, Int.reduceNeg, Bool.not_not, and_self, Bool.and_eq_false_iff, Int.cast_ofNat_Int, Int.reduceAdd, Int.reduceSub, Int.reduceMul, Int.reduceEq, Int.reduceNe]
  refine runR_callf (by simp only [go_sem, Nat.reduceEqDiff, Nat.reduceBEq, Nat.reduceAdd, Nat.reduceMul, Nat.reduceSub, Nat.reduceLeDiff, Nat.reduceLT, reduceIte, reduceCtorEq, Int.reduceToNat, Int.reduceLE, Int.reduceLT, Int.reduceNeg, Bool.not_not, and_self, Bool.and_eq_false_iff, Int.cast_ofNat_Int, Int.reduceAdd, Int.reduceSub, Int.reduceMul, Int.reduceEq, Int.reduceNe]) (by simp only [go_sem, Nat.reduceEqDiff, Nat.reduceBEq, Nat.reduceAdd, Nat.reduceMul, Nat.reduceSub, Nat.reduceLeDiff, Nat.reduceLT, reduceIte, reduceCtorEq, Int.reduceToNat, Int.reduceLE, Int.reduceLT, Int.reduceNeg, Bool.not_not, and_self, Bool.and_eq_false_iff, Int.cast_ofNat_Int, Int.reduceAdd, Int.reduceSub, Int.reduceMul, Int.reduceEq, Int.reduceNe]) (fn100 b) ⟨rfl, trivial⟩ trivial ?_
  simp only [go_sem, Nat.reduceEqDiff, Nat.reduceBEq, Nat.reduceAdd, Nat.reduceMul, Nat.reduceSub, Nat.reduceLeDiff, Nat.reduceLT, reduceIte, reduceCtorEq, Int.reduceToNat, Int.reduceLE, Int.reduceLT, Int.reduceNeg, Bool.not_not, and_self, Bool.and_eq_false_iff, Int.cast_ofNat_Int, Int.reduceAdd, Int.reduceSub, Int.reduceMul, Int.reduceEq, Int.reduceNe]
  unfold cmpI
  by_cases h1 : a < b <;> by_cases h2 : b < a <;> simp [h1, h2] <;> omega
def orI (a b : Int) : Int := if a ≠ 0 then a else b
theorem wf_is (l : List Int) : WfL 1 (l.map pI) := wf_map (f := pI) (s := 1) (fun a => ⟨rfl, fun c hc => by simp only [PV.cells, List.mem_cons, List.not_mem_nil, or_false] at hc; subst hc; rfl⟩) l
def orL (l : List Int) : Int := (l.find? (fun x => decide (x ≠ 0))).getD 0
theorem orL_no {l : List Int} (h : ∀ j (h : j < l.length), l[j] = 0) : orL l = 0 := by
  have : l.find? (fun x => decide (x ≠ 0)) = none := List.find?_eq_none.2 fun x hx => by
    obtain ⟨j, hj, rfl⟩ := List.mem_iff_getElem.1 hx
    simp [h j hj]
  unfold orL
  rw [this]; rfl
theorem orL_yes : ∀ {l : List Int} {i : Nat} (h : i < l.length), l[i] ≠ 0 → (∀ j (h : j < l.length), j < i → l[j] = 0) → orL l = l[i]
  | [], _, h, _, _ => by simp at h
  | a :: l, 0, _, h1, _ => by have : a ≠ 0 := h1; simp [orL, List.find?_cons, this]
  | a :: l, i + 1, h, h1, h2 => by
    have ha : a = 0 := h2 0 (by simp) (by omega)
    have := orL_yes (l := l) (i := i) (by simpa using h) (by simpa using h1) (fun j hj hji => h2 (j + 1) (by simpa using hj) (by omega))
    simp only [orL, List.getElem_cons_succ] at this ⊢
    rw [List.find?_cons]
    simpa [ha] using this
theorem fn77 (l : List Int) (hl : l.length < 100000) : Fn Try.prog 77 [.lst (l.map pI)] (.pv (pI (orL l))) [] := by
  refine Run77 [] (by simp) ?_
  simp only [go_sem, Nat.reduceEqDiff, Nat.reduceBEq, Nat.reduceAdd, Nat.reduceMul, Nat.reduceSub, Nat.reduceLeDiff, Nat.reduceLT, reduceIte, reduceCtorEq, Int.reduceToNat, Int.reduceLE, Int.reduceLT, Int.reduceNeg, Bool.not_not, and_self, Bool.and_eq_false_iff, Int.cast_ofNat_Int, Int.reduceAdd, Int.reduceSub, Int.reduceMul, Int.reduceEq, Int.reduceNe, M77]
  refine run_loop (T := Nat) (fun i => ⟨[(3, .pv (pI 0)), (6, .pv (.lst (l.map pI))), (7, .pv (pI l.length)), (8, .pv (pI i))], []⟩) (fun i => i ≤ l.length ∧ ∀ j (h : j < l.length), j < i → l[j] = 0) (fun i => l.length - i) 0 rfl ⟨Nat.zero_le _, fun j _ h => absurd h (by omega)⟩ ?_
  intro i ⟨hi, hq⟩
  by_cases hlt : i < l.length
  · simp only [go_sem, Nat.reduceEqDiff, Nat.reduceBEq, Nat.reduceAdd, Nat.reduceMul, Nat.reduceSub, Nat.reduceLeDiff, Nat.reduceLT, reduceIte, reduceCtorEq, Int.reduceToNat, Int.reduceLE, Int.reduceLT, Int.reduceNeg, Bool.not_not, and_self, Bool.and_eq_false_iff, Int.cast_ofNat_Int, Int.reduceAdd, Int.reduceSub, Int.reduceMul, Int.reduceEq, Int.reduceNe, B77_0, wf_is, getD_map hlt, show (i : Int) < (l.length : Int) by omega]
    refine ⟨fun h => ?_, fun h => ⟨⟨by omega, by omega⟩, i + 1, rfl, ⟨hlt, fun j hj hji => ?_⟩, by omega⟩⟩
    · exact (orL_yes hlt h hq).symm
    · by_cases e : j = i
      · subst e; exact h
      · exact hq j hj (by omega)
  · simp only [go_sem, Nat.reduceEqDiff, Nat.reduceBEq, Nat.reduceAdd, Nat.reduceMul, Nat.reduceSub, Nat.reduceLeDiff, Nat.reduceLT, reduceIte, reduceCtorEq, Int.reduceToNat, Int.reduceLE, Int.reduceLT, Int.reduceNeg, Bool.not_not, and_self, Bool.and_eq_false_iff, Int.cast_ofNat_Int, Int.reduceAdd, Int.reduceSub, Int.reduceMul, Int.reduceEq, Int.reduceNe, B77_0, R77_0, show ¬ ((i : Int) < (l.length : Int)) by omega]
    exact (orL_no fun j hj => hq j hj (by omega)).symm
def cmpD (a b : Du) : Int := orL [cmpI a.at_ b.at_, cmpI a.id b.id]
theorem fn76 (a b : Du) : Fn Try.prog 76 [a.pv, b.pv] (.pv (pI (cmpD a b))) [] := by
  refine Run76 [] (by simp) ?_
  simp only [go_sem, Nat.reduceEqDiff, Nat.reduceBEq, Nat.reduceAdd, Nat.reduceMul, Nat.reduceSub, Nat.reduceLeDiff, Nat.reduceLT, reduceIte, reduceCtorEq, Int.reduceToNat, Int.reduceLE, Int.reduceLT, Int.reduceNeg, Bool.not_not, and_self, Bool.and_eq_false_iff, Int.cast_ofNat_Int, Int.reduceAdd, Int.reduceSub, Int.reduceMul, Int.reduceEq, Int.reduceNe, M76]
  refine runR_callf (by simp only [go_sem, Nat.reduceEqDiff, Nat.reduceBEq, Nat.reduceAdd, Nat.reduceMul, Nat.reduceSub, Nat.reduceLeDiff, Nat.reduceLT, reduceIte, reduceCtorEq, Int.reduceToNat, Int.reduceLE, Int.reduceLT, Int.reduceNeg, Bool.not_not, and_self, Bool.and_eq_false_iff, Int.cast_ofNat_Int, Int.reduceAdd, Int.reduceSub, Int.reduceMul, Int.reduceEq, Int.reduceNe]) (by simp only [go_sem, Nat.reduceEqDiff, Nat.reduceBEq, Nat.reduceAdd, Nat.reduceMul, Nat.reduceSub, Nat.reduceLeDiff, Nat.reduceLT, reduceIte, reduceCtorEq, Int.reduceToNat, Int.reduceLE, Int.reduceLT, Int.reduceNeg, Bool.not_not, and_self, Bool.and_eq_false_iff, Int.cast_ofNat_Int, Int.reduceAdd, Int.reduceSub, Int.reduceMul, Int.reduceEq, Int.reduceNe]) (fn78 a.at_ b.at_) ⟨rfl, trivial⟩ trivial ?_
  simp only [go_sem, Nat.reduceEqDiff, Nat.reduceBEq, Nat.reduceAdd, Nat.reduceMul, Nat.reduceSub, Nat.reduceLeDiff, Nat.reduceLT, reduceIte, reduceCtorEq, Int.reduceToNat, Int.reduceLE, Int.reduceLT, Int.reduceNeg, Bool.not_not, and_self, Bool.and_eq_false_iff, Int.cast_ofNat_Int, Int.reduceAdd, Int.reduceSub, Int.reduceMul, Int.reduceEq, Int.reduceNe]
  refine runR_callf (by simp only [go_sem, Nat.reduceEqDiff, Nat.reduceBEq, Nat.reduceAdd, Nat.reduceMul, Nat.reduceSub, Nat.reduceLeDiff, Nat.reduceLT, reduceIte, reduceCtorEq, Int.reduceToNat, Int.reduceLE, Int.reduceLT, Int.reduceNeg, Bool.not_not, and_self, Bool.and_eq_false_iff, Int.cast_ofNat_Int, Int.reduceAdd, Int.reduceSub, Int.reduceMul, Int.reduceEq, Int.reduceNe]) (by simp only [go_sem, Nat.reduceEqDiff, Nat.reduceBEq, Nat.reduceAdd, Nat.reduceMul, Nat.reduceSub, Nat.reduceLeDiff, Nat.reduceLT, reduceIte, reduceCtorEq, Int.reduceToNat, Int.reduceLE, Int.reduceLT, Int.reduceNeg, Bool.not_not, and_self, Bool.and_eq_false_iff, Int.cast_ofNat_Int, Int.reduceAdd, Int.reduceSub, Int.reduceMul, Int.reduceEq, Int.reduceNe]) (fn79 a.id b.id) ⟨rfl, trivial⟩ trivial ?_
  simp only [go_sem, Nat.reduceEqDiff, Nat.reduceBEq, Nat.reduceAdd, Nat.reduceMul, Nat.reduceSub, Nat.reduceLeDiff, Nat.reduceLT, reduceIte, reduceCtorEq, Int.reduceToNat, Int.reduceLE, Int.reduceLT, Int.reduceNeg, Bool.not_not, and_self, Bool.and_eq_false_iff, Int.cast_ofNat_Int, Int.reduceAdd, Int.reduceSub, Int.reduceMul, Int.reduceEq, Int.reduceNe]
  refine runR_callf (by simp only [go_sem, Nat.reduceEqDiff, Nat.reduceBEq, Nat.reduceAdd, Nat.reduceMul, Nat.reduceSub, Nat.reduceLeDiff, Nat.reduceLT, reduceIte, reduceCtorEq, Int.reduceToNat, Int.reduceLE, Int.reduceLT, Int.reduceNeg, Bool.not_not, and_self, Bool.and_eq_false_iff, Int.cast_ofNat_Int, Int.reduceAdd, Int.reduceSub, Int.reduceMul, Int.reduceEq, Int.reduceNe]) (by simp only [go_sem, Nat.reduceEqDiff, Nat.reduceBEq, Nat.reduceAdd, Nat.reduceMul, Nat.reduceSub, Nat.reduceLeDiff, Nat.reduceLT, reduceIte, reduceCtorEq, Int.reduceToNat, Int.reduceLE, Int.reduceLT, Int.reduceNeg, Bool.not_not, and_self, Bool.and_eq_false_iff, Int.cast_ofNat_Int, Int.reduceAdd, Int.reduceSub, Int.reduceMul, Int.reduceEq, Int.reduceNe]) (fn77 [cmpI a.at_ b.at_, cmpI a.id b.id] (by simp)) ⟨rfl, trivial⟩ trivial ?_
  simp only [go_sem, Nat.reduceEqDiff, Nat.reduceBEq, Nat.reduceAdd, Nat.reduceMul, Nat.reduceSub, Nat.reduceLeDiff, Nat.reduceLT, reduceIte, reduceCtorEq, Int.reduceToNat, Int.reduceLE, Int.reduceLT, Int.reduceNeg, Bool.not_not, and_self, Bool.and_eq_false_iff, Int.cast_ofNat_Int, Int.reduceAdd, Int.reduceSub, Int.reduceMul, Int.reduceEq, Int.reduceNe]
  rfl
def minD (l : List Du) (i : Nat) : Du := ((l.take i).drop 1).foldl (fun m x => if cmpD x m < 0 then x else m) (l.getD 0 default)
theorem minD_succ {l : List Du} {i : Nat} (h : i < l.length) (h0 : 1 ≤ i) : minD l (i + 1) = if cmpD l[i] (minD l i) < 0 then l[i] else minD l i := by
  unfold minD
  rw [take_snoc h, List.drop_append_of_le_length (by simp; omega), List.foldl_append]
  rfl
theorem minD_one {l : List Du} (h0 : 1 ≤ l.length) : minD l 1 = l[0] := by
  unfold minD
  rw [show (l.take 1).drop 1 = [] from by simp]
  exact getD_get h0
theorem fn75 (l : List Du) (hl : l.length < 100000) (h0 : 1 ≤ l.length) : Fn Try.prog 75 [ds l, .fn 76 []] (.pv (minD l l.length).pv) [] := by
  refine Run75 [] (by simp) ?_
  have g0 := getD_map (f := Du.pv) (l := l) (i := 0) (by omega)
  simp only [go_sem, Nat.reduceEqDiff, Nat.reduceBEq, Nat.reduceAdd, Nat.reduceMul, Nat.reduceSub, Nat.reduceLeDiff, Nat.reduceLT, reduceIte, reduceCtorEq, Int.reduceToNat, Int.reduceLE, Int.reduceLT, Int.reduceNeg, Bool.not_not, and_self, Bool.and_eq_false_iff, Int.cast_ofNat_Int, Int.reduceAdd, Int.reduceSub, Int.reduceMul, Int.reduceEq, Int.reduceNe, M75, wf_ds, g0, show ¬ (l.length : Int) < 1 by omega]
  refine ⟨by omega, ?_⟩
  refine run_loop (T := Nat) (fun i => ⟨[(0, .pv (ds l)), (1, .pv (.fn 76 [])), (4, .ptr 4 0), (5, .ptr 5 0), (6, .pv (pI i))], [(4, .box [.pv (pI 0), .pv (pU 0), .pv (pI 0)]), (5, .box [.pv (pI (minD l i).at_), .pv (pU (minD l i).id), .pv (pI (minD l i).i)])]⟩) (fun i => 1 ≤ i ∧ i ≤ l.length) (fun i => l.length - i) 1 ?_ ⟨Nat.le_refl _, h0⟩ ?_
  · simp only [minD_one h0]; rfl
  intro i ⟨h1, hi⟩
  by_cases hlt : i < l.length
  · simp only [go_sem, Nat.reduceEqDiff, Nat.reduceBEq, Nat.reduceAdd, Nat.reduceMul, Nat.reduceSub, Nat.reduceLeDiff, Nat.reduceLT, reduceIte, reduceCtorEq, Int.reduceToNat, Int.reduceLE, Int.reduceLT, Int.reduceNeg, Bool.not_not, and_self, Bool.and_eq_false_iff, Int.cast_ofNat_Int, Int.reduceAdd, Int.reduceSub, Int.reduceMul, Int.reduceEq, Int.reduceNe, B75_0, wf_ds, getD_map hlt, show (i : Int) < (l.length : Int) by omega]
    refine runR_callf (by simp only [go_sem, Nat.reduceEqDiff, Nat.reduceBEq, Nat.reduceAdd, Nat.reduceMul, Nat.reduceSub, Nat.reduceLeDiff, Nat.reduceLT, reduceIte, reduceCtorEq, Int.reduceToNat, Int.reduceLE, Int.reduceLT, Int.reduceNeg, Bool.not_not, and_self, Bool.and_eq_false_iff, Int.cast_ofNat_Int, Int.reduceAdd, Int.reduceSub, Int.reduceMul, Int.reduceEq, Int.reduceNe]) (by simp only [go_sem, Nat.reduceEqDiff, Nat.reduceBEq, Nat.reduceAdd, Nat.reduceMul, Nat.reduceSub, Nat.reduceLeDiff, Nat.reduceLT, reduceIte, reduceCtorEq, Int.reduceToNat, Int.reduceLE, Int.reduceLT, Int.reduceNeg, Bool.not_not, and_self, Bool.and_eq_false_iff, Int.cast_ofNat_Int, Int.reduceAdd, Int.reduceSub, Int.reduceMul, Int.reduceEq, Int.reduceNe]) (fn76 l[i] (minD l i)) ⟨rfl, trivial⟩ trivial ?_
    simp only [go_sem, Nat.reduceEqDiff, Nat.reduceBEq, Nat.reduceAdd, Nat.reduceMul, Nat.reduceSub, Nat.reduceLeDiff, Nat.reduceLT, reduceIte, reduceCtorEq, Int.reduceToNat, Int.reduceLE, Int.reduceLT, Int.reduceNeg, Bool.not_not, and_self, Bool.and_eq_false_iff, Int.cast_ofNat_Int, Int.reduceAdd, Int.reduceSub, Int.reduceMul, Int.reduceEq, Int.reduceNe, wf_ds, getD_map hlt]
    have e := minD_succ hlt h1
    refine ⟨fun h => ⟨by omega, ⟨by omega, by omega⟩, i + 1, ?_, ⟨by omega, by omega⟩, by omega⟩, fun h => ⟨⟨by omega, by omega⟩, i + 1, ?_, ⟨by omega, by omega⟩, by omega⟩⟩
    · rw [e, if_pos h]; rfl
    · rw [e, if_neg (by omega)]; rfl
  · simp only [go_sem, Nat.reduceEqDiff, Nat.reduceBEq, Nat.reduceAdd, Nat.reduceMul, Nat.reduceSub, Nat.reduceLeDiff, Nat.reduceLT, reduceIte, reduceCtorEq, Int.reduceToNat, Int.reduceLE, Int.reduceLT, Int.reduceNeg, Bool.not_not, and_self, Bool.and_eq_false_iff, Int.cast_ofNat_Int, Int.reduceAdd, Int.reduceSub, Int.reduceMul, Int.reduceEq, Int.reduceNe, B75_0, R75_0, show ¬ ((i : Int) < (l.length : Int)) by omega]
    have : i = l.length := by omega
    subst this
    rfl
theorem minD_mem (l : List Du) : ∀ i, 1 ≤ i → i ≤ l.length → minD l i ∈ l
  | 0, h, _ => by omega
  | 1, _, h => by rw [minD_one h]; exact List.getElem_mem _
  | i + 2, _, h => by
    rw [minD_succ (by omega) (by omega)]
    split
    · exact List.getElem_mem _
    · exact minD_mem l (i + 1) (by omega) (by omega)
def duA (now : Int) : List Ot → Nat → List Du
  | [], _ => []
  | x :: l, i => (if x.due ≤ now then [⟨x.due, x.id, i⟩] else []) ++ duA now l (i + 1)
theorem duA_snoc (now : Int) (x : Ot) : ∀ (l : List Ot) (i : Nat), duA now (l ++ [x]) i = duA now l i ++ if x.due ≤ now then [⟨x.due, x.id, ((i + l.length : Nat) : Int)⟩] else []
  | [], i => by simp [duA]
  | y :: l, i => by
    simp only [List.cons_append, duA, duA_snoc now x l (i + 1), List.append_assoc, List.length_cons]
    rw [show i + 1 + l.length = i + (l.length + 1) by omega]
theorem duA_len (now : Int) : ∀ (l : List Ot) (i : Nat), (duA now l i).length ≤ l.length
  | [], i => by simp [duA]
  | y :: l, i => by
    have := duA_len now l (i + 1)
    simp only [duA, List.length_append, List.length_cons]
    split <;> simp <;> omega
theorem duA_mem (now : Int) : ∀ (l : List Ot) (k : Nat) (d : Du), d ∈ duA now l k → ∃ n, ∃ h : n < l.length, d = ⟨l[n].due, l[n].id, ((k + n : Nat) : Int)⟩ ∧ l[n].due ≤ now
  | [], k, d, h => by simp [duA] at h
  | x :: l, k, d, h => by
    simp only [duA, List.mem_append] at h
    rcases h with h | h
    · by_cases hx : x.due ≤ now
      · rw [if_pos hx] at h
        have := List.mem_singleton.1 h
        exact ⟨0, by simp, by simpa using this, by simpa using hx⟩
      · rw [if_neg hx] at h; simp at h
    · obtain ⟨n, hn, h1, h2⟩ := duA_mem now l (k + 1) d h
      exact ⟨n + 1, by simpa using hn, by rw [h1, show k + 1 + n = k + (n + 1) by omega]; rfl, by simpa using h2⟩
theorem fn74 (l : List Ot) (now : Int) (hl : l.length < 100000) : Fn Try.prog 74 [os l, pI now] (.pv (ds (duA now l 0))) [] := by
  refine Run74 [false] (by simp) ?_
  simp only [go_sem, Nat.reduceEqDiff, Nat.reduceBEq, Nat.reduceAdd, Nat.reduceMul, Nat.reduceSub, Nat.reduceLeDiff, Nat.reduceLT, reduceIte, reduceCtorEq, Int.reduceToNat, Int.reduceLE, Int.reduceLT, Int.reduceNeg, Bool.not_not, and_self, Bool.and_eq_false_iff, Int.cast_ofNat_Int, Int.reduceAdd, Int.reduceSub, Int.reduceMul, Int.reduceEq, Int.reduceNe, M74]
  refine run_loop (T := Nat) (fun i => ⟨[(1, .pv (pI now)), (5, .row 2005 0 (duA now (l.take i) 0).length), (9, .pv (os l)), (10, .pv (pI l.length)), (11, .pv (pI i))], [(2005, .sl 3 ((duA now (l.take i) 0).map Du.pv))]⟩) (fun i => i ≤ l.length) (fun i => l.length - i) 0 rfl (Nat.zero_le _) ?_
  intro i hi
  have hln := duA_len now (l.take i) 0
  have hln2 : (l.take i).length = i := by simp; omega
  have tk : List.take (duA now (l.take i) 0).length (List.map Du.pv (duA now (l.take i) 0)) = List.map Du.pv (duA now (l.take i) 0) := take_len_map _ _
  by_cases hlt : i < l.length
  · simp only [go_sem, Nat.reduceEqDiff, Nat.reduceBEq, Nat.reduceAdd, Nat.reduceMul, Nat.reduceSub, Nat.reduceLeDiff, Nat.reduceLT, reduceIte, reduceCtorEq, Int.reduceToNat, Int.reduceLE, Int.reduceLT, Int.reduceNeg, Bool.not_not, and_self, Bool.and_eq_false_iff, Int.cast_ofNat_Int, Int.reduceAdd, Int.reduceSub, Int.reduceMul, Int.reduceEq, Int.reduceNe, B74_0, wf_os, getD_map hlt, show (i : Int) < (l.length : Int) by omega]
    have e : duA now (l.take (i + 1)) 0 = duA now (l.take i) 0 ++ if l[i].due ≤ now then [⟨l[i].due, l[i].id, (i : Int)⟩] else [] := by
      rw [take_snoc hlt, duA_snoc, hln2, Nat.zero_add]
    refine ⟨fun h => ⟨⟨wf_ds [⟨l[i].due, l[i].id, i⟩], by omega, by omega⟩, ⟨by omega, by omega⟩, i + 1, ?_, by omega, by omega⟩, fun h => ⟨⟨by omega, by omega⟩, i + 1, ?_, by omega, by omega⟩⟩
    · rw [e, if_pos h, tk, List.map_append, List.length_append]; rfl
    · rw [e, if_neg h, List.append_nil]; rfl
  · simp only [go_sem, Nat.reduceEqDiff, Nat.reduceBEq, Nat.reduceAdd, Nat.reduceMul, Nat.reduceSub, Nat.reduceLeDiff, Nat.reduceLT, reduceIte, reduceCtorEq, Int.reduceToNat, Int.reduceLE, Int.reduceLT, Int.reduceNeg, Bool.not_not, and_self, Bool.and_eq_false_iff, Int.cast_ofNat_Int, Int.reduceAdd, Int.reduceSub, Int.reduceMul, Int.reduceEq, Int.reduceNe, B74_0, R74_0, show ¬ ((i : Int) < (l.length : Int)) by omega]
    have : i = l.length := by omega
    subst this
    rw [tk, List.take_length]
def nextO (l : List Ot) (now : Int) : Ot × Int :=
  if checkO l = false then (default, 1) else if (duA now l 0).length = 0 then (default, 4)
  else (l.getD (minD (duA now l 0) (duA now l 0).length).i.toNat default, 0)
theorem fn28 (l : List Ot) (now : Int) (hl : l.length < 100000) : Fn Try.prog 28 [os l, pI now] (.pv (.tup [(nextO l now).1.pv, pI (nextO l now).2])) [] := by
  refine Run28 [false, false] (by simp) ?_
  simp only [go_sem, Nat.reduceEqDiff, Nat.reduceBEq, Nat.reduceAdd, Nat.reduceMul, Nat.reduceSub, Nat.reduceLeDiff, Nat.reduceLT, reduceIte, reduceCtorEq, Int.reduceToNat, Int.reduceLE, Int.reduceLT, Int.reduceNeg, Bool.not_not, and_self, Bool.and_eq_false_iff, Int.cast_ofNat_Int, Int.reduceAdd, Int.reduceSub, Int.reduceMul, Int.reduceEq, Int.reduceNe, M28]
  refine runR_callf (by simp only [go_sem, Nat.reduceEqDiff, Nat.reduceBEq, Nat.reduceAdd, Nat.reduceMul, Nat.reduceSub, Nat.reduceLeDiff, Nat.reduceLT, reduceIte, reduceCtorEq, Int.reduceToNat, Int.reduceLE, Int.reduceLT, Int.reduceNeg, Bool.not_not, and_self, Bool.and_eq_false_iff, Int.cast_ofNat_Int, Int.reduceAdd, Int.reduceSub, Int.reduceMul, Int.reduceEq, Int.reduceNe]) (by simp only [go_sem, Nat.reduceEqDiff, Nat.reduceBEq, Nat.reduceAdd, Nat.reduceMul, Nat.reduceSub, Nat.reduceLeDiff, Nat.reduceLT, reduceIte, reduceCtorEq, Int.reduceToNat, Int.reduceLE, Int.reduceLT, Int.reduceNeg, Bool.not_not, and_self, Bool.and_eq_false_iff, Int.cast_ofNat_Int, Int.reduceAdd, Int.reduceSub, Int.reduceMul, Int.reduceEq, Int.reduceNe]) (fn33 l hl) ⟨rfl, trivial⟩ trivial ?_
  simp only [go_sem, Nat.reduceEqDiff, Nat.reduceBEq, Nat.reduceAdd, Nat.reduceMul, Nat.reduceSub, Nat.reduceLeDiff, Nat.reduceLT, reduceIte, reduceCtorEq, Int.reduceToNat, Int.reduceLE, Int.reduceLT, Int.reduceNeg, Bool.not_not, and_self, Bool.and_eq_false_iff, Int.cast_ofNat_Int, Int.reduceAdd, Int.reduceSub, Int.reduceMul, Int.reduceEq, Int.reduceNe, errN_dec]
  refine ⟨fun h => ?_, fun h => ?_⟩
  · simp [nextO, h]
    exact ⟨rfl, rfl, rfl, rfl, rfl⟩
  have hln := duA_len now l 0
  refine runR_call (by simp only [go_sem, Nat.reduceEqDiff, Nat.reduceBEq, Nat.reduceAdd, Nat.reduceMul, Nat.reduceSub, Nat.reduceLeDiff, Nat.reduceLT, reduceIte, reduceCtorEq, Int.reduceToNat, Int.reduceLE, Int.reduceLT, Int.reduceNeg, Bool.not_not, and_self, Bool.and_eq_false_iff, Int.cast_ofNat_Int, Int.reduceAdd, Int.reduceSub, Int.reduceMul, Int.reduceEq, Int.reduceNe]) rfl (fn74 l now hl) (.inl rfl) trivial ?_
  simp only [go_sem, Nat.reduceEqDiff, Nat.reduceBEq, Nat.reduceAdd, Nat.reduceMul, Nat.reduceSub, Nat.reduceLeDiff, Nat.reduceLT, reduceIte, reduceCtorEq, Int.reduceToNat, Int.reduceLE, Int.reduceLT, Int.reduceNeg, Bool.not_not, and_self, Bool.and_eq_false_iff, Int.cast_ofNat_Int, Int.reduceAdd, Int.reduceSub, Int.reduceMul, Int.reduceEq, Int.reduceNe]
  refine ⟨fun h2 => ?_, fun h2 => ?_⟩
  · have e : nextO l now = (default, 4) := by unfold nextO; rw [if_neg (by simp [h]), if_pos (by omega)]
    rw [e]; rfl
  refine runR_callf (by simp only [go_sem, Nat.reduceEqDiff, Nat.reduceBEq, Nat.reduceAdd, Nat.reduceMul, Nat.reduceSub, Nat.reduceLeDiff, Nat.reduceLT, reduceIte, reduceCtorEq, Int.reduceToNat, Int.reduceLE, Int.reduceLT, Int.reduceNeg, Bool.not_not, and_self, Bool.and_eq_false_iff, Int.cast_ofNat_Int, Int.reduceAdd, Int.reduceSub, Int.reduceMul, Int.reduceEq, Int.reduceNe]) (by simp only [go_sem, Nat.reduceEqDiff, Nat.reduceBEq, Nat.reduceAdd, Nat.reduceMul, Nat.reduceSub, Nat.reduceLeDiff, Nat.reduceLT, reduceIte, reduceCtorEq, Int.reduceToNat, Int.reduceLE, Int.reduceLT, Int.reduceNeg, Bool.not_not, and_self, Bool.and_eq_false_iff, Int.cast_ofNat_Int, Int.reduceAdd, Int.reduceSub, Int.reduceMul, Int.reduceEq, Int.reduceNe]) (fn75 (duA now l 0) (by omega) (by omega)) ⟨rfl, trivial⟩ trivial ?_
  obtain ⟨n, hn, hd, _⟩ := duA_mem now l 0 _ (minD_mem (duA now l 0) (duA now l 0).length (by omega) (Nat.le_refl _))
  have e : nextO l now = (l[n], 0) := by
    unfold nextO; rw [if_neg (by simp [h]), if_neg (by omega), hd]
    simp [hn]
  have e2 : (minD (duA now l 0) (duA now l 0).length).i = (n : Int) := by rw [hd]; simp
  simp only [go_sem, Nat.reduceEqDiff, Nat.reduceBEq, Nat.reduceAdd, Nat.reduceMul, Nat.reduceSub, Nat.reduceLeDiff, Nat.reduceLT, reduceIte, reduceCtorEq, Int.reduceToNat, Int.reduceLE, Int.reduceLT, Int.reduceNeg, Bool.not_not, and_self, Bool.and_eq_false_iff, Int.cast_ofNat_Int, Int.reduceAdd, Int.reduceSub, Int.reduceMul, Int.reduceEq, Int.reduceNe, e2, wf_os, getD_map hn, show (n : Int) < (l.length : Int) by omega]
  rw [e]
end Go.Vc

namespace Go.Vc
open Go.Proofs
set_option linter.unusedSimpArgs false
set_option linter.unusedVariables false

/-! ## 'OutboxWaits' -/
abbrev wd (t : Int) (i : Nat) : Int := if i = 0 then 0 else t + 2 ^ (i + 1) - 2
abbrev wl (x : Ot) (t : Int) (i : Nat) : Ot := ⟨1, x.sub, x.ids, i, wd t i⟩
theorem checkO_nil : checkO [] = true := by decide
theorem addW (x : Ot) : addO [] x = if mayO x = true then ([x], 0) else ([], 1) := by
  unfold addO
  cases h : mayO x <;> simp [checkO_nil]
theorem checkO_one {x : Ot} : checkO [x] = mayO x := by
  cases h : mayO x
  · cases h2 : checkO [x] with
    | false => rfl
    | true => rw [checkO_may h2 (List.mem_singleton.2 rfl)] at h; cases h
  · exact checkO_of (by simp) (fun y hy => by rw [List.mem_singleton.1 hy]; exact h) (List.pairwise_singleton _ _)
theorem findO_one {x : Ot} {n : Int} (h : x.id = n) : findO [x] n = 0 := idxA_yes (l := [x]) (i := 0) (by simp) (by simpa using h) (fun j hj hji => by omega)
theorem powW {i : Nat} (h : i ≤ 4) : 2 ≤ (2 : Int) ^ (i + 1) ∧ (2 : Int) ^ (i + 1) ≤ 32 ∧ (2 : Int) ^ (i + 2) = 2 * 2 ^ (i + 1) := by
  have : i = 0 ∨ i = 1 ∨ i = 2 ∨ i = 3 ∨ i = 4 := by omega
  rcases this with h | h | h | h | h <;> subst h <;> decide
theorem mayW {x : Ot} {t : Int} {i : Nat} (hx : mayO x = true) (h0 : 0 ≤ t) (ht : t < 4294967296) (hi : i ≤ 4) : mayO (wl x t i) = true := by
  have h := (mayO_iff x).1 hx
  have hp := powW hi
  refine (mayO_iff _).2 ⟨Int.le_refl _, h.2.1, h.2.2.1, ⟨?_, ?_⟩, (timeB_iff _).2 ?_⟩
  · show (0 : Int) ≤ (i : Int); omega
  · show (i : Int) < 5; omega
  · show (0 : Int) ≤ wd t i ∧ wd t i ≤ 1099511627775
    unfold wd; split <;> omega
theorem nackW {x : Ot} {t : Int} {i : Nat} (hx : mayO x = true) (h0 : 0 ≤ t) (ht : t < 4294967296) (hi : i < 4) :
    nackO [wl x t i] 1 (t + 2 ^ (i + 1) - 2) = ⟨[wl x t (i + 1)], false, 0⟩ := by
  have hp := powW (Nat.le_of_lt hi)
  have hc : checkO [wl x t i] = true := by rw [checkO_one]; exact mayW hx h0 ht (by omega)
  have ht2 : timeB (t + 2 ^ (i + 1) - 2) = true := (timeB_iff _).2 ⟨by omega, by omega⟩
  have hf : findO [wl x t i] 1 = 0 := findO_one rfl
  have h4 : ¬ (i : Int) = 4 := by omega
  have e : nackOne (wl x t i) (t + 2 ^ (i + 1) - 2) = wl x t (i + 1) := by
    unfold nackOne
    have e1 : ((i : Int) + 1).toNat = i + 1 := by omega
    have e2 : wd t (i + 1) = t + 2 ^ (i + 2) - 2 := by unfold wd; rw [if_neg (by omega)]
    have e3 : ((i + 1 : Nat) : Int) = (i : Int) + 1 := by omega
    simp only [e1, e2, e3, Ot.mk.injEq, true_and]
    rw [if_neg (by omega)]; omega
  unfold nackO
  rw [if_neg (by simp [hc, ht2]), hf]
  simp only [Int.lt_irrefl, if_false, Int.toNat_zero, List.getD_cons_zero, h4, List.set_cons_zero, e]
theorem nackW4 {x : Ot} {t : Int} (hx : mayO x = true) (h0 : 0 ≤ t) (ht : t < 4294967296) :
    nackO [wl x t 4] 1 (t + 2 ^ (4 + 1) - 2) = ⟨[], true, 0⟩ := by
  have hc : checkO [wl x t 4] = true := by rw [checkO_one]; exact mayW hx h0 ht (by omega)
  have ht2 : timeB (t + 2 ^ (4 + 1) - 2) = true := (timeB_iff _).2 ⟨by omega, by omega⟩
  have hf : findO [wl x t 4] 1 = 0 := findO_one rfl
  unfold nackO
  rw [if_neg (by rw [hc, ht2]; simp), hf]
  rfl
theorem nextW {x : Ot} {t n : Int} {i : Nat} (hx : mayO x = true) (h0 : 0 ≤ t) (ht : t < 4294967296) (hi : i ≤ 4) :
    nextO [wl x t i] n = if wd t i ≤ n then (wl x t i, 0) else (default, 4) := by
  have hc : checkO [wl x t i] = true := by rw [checkO_one]; exact mayW hx h0 ht (by omega)
  unfold nextO
  rw [if_neg (by simp [hc])]
  by_cases h : wd t i ≤ n
  · rw [if_pos h]
    simp [duA, h, minD]
  · rw [if_neg h]
    simp [duA, h]
theorem law4 (s : ByteArray) (l : List Int) (t : Int) (hl : l.length ≤ 9223372036854775807) (h0 : 0 ≤ t) (ht : t < 4294967296) : Fn Try.prog 4 [pS s, us l, .sc (.int .u32 t)] (.pv (pB true)) [] := by
  refine Run4 [] (by simp) ?_
  simp only [go_sem, Nat.reduceEqDiff, Nat.reduceBEq, Nat.reduceAdd, Nat.reduceMul, Nat.reduceSub, Nat.reduceLeDiff, Nat.reduceLT, reduceIte, reduceCtorEq, Int.reduceToNat, Int.reduceLE, Int.reduceLT, Int.reduceNeg, Bool.not_not, and_self, Bool.and_eq_false_iff, Int.cast_ofNat_Int, Int.reduceAdd, Int.reduceSub, Int.reduceMul, Int.reduceEq, Int.reduceNe, M4]
  refine runR_call (by simp only [go_sem, Nat.reduceEqDiff, Nat.reduceBEq, Nat.reduceAdd, Nat.reduceMul, Nat.reduceSub, Nat.reduceLeDiff, Nat.reduceLT, reduceIte, reduceCtorEq, Int.reduceToNat, Int.reduceLE, Int.reduceLT, Int.reduceNeg, Bool.not_not, and_self, Bool.and_eq_false_iff, Int.cast_ofNat_Int, Int.reduceAdd, Int.reduceSub, Int.reduceMul, Int.reduceEq, Int.reduceNe]) rfl (fn26 ⟨1, s, l, 0, 0⟩ hl) (.inl rfl) trivial ?_
  simp only [go_sem, Nat.reduceEqDiff, Nat.reduceBEq, Nat.reduceAdd, Nat.reduceMul, Nat.reduceSub, Nat.reduceLeDiff, Nat.reduceLT, reduceIte, reduceCtorEq, Int.reduceToNat, Int.reduceLE, Int.reduceLT, Int.reduceNeg, Bool.not_not, and_self, Bool.and_eq_false_iff, Int.cast_ofNat_Int, Int.reduceAdd, Int.reduceSub, Int.reduceMul, Int.reduceEq, Int.reduceNe]
  have h25 := fn25 [] (oneO ⟨1, s, l, 0, 0⟩) (by simp)
  rw [addW] at h25
  cases hm : mayO (oneO ⟨1, s, l, 0, 0⟩) with
  | false =>
    rw [hm] at h25
    refine runR_call (by simp only [go_sem, Nat.reduceEqDiff, Nat.reduceBEq, Nat.reduceAdd, Nat.reduceMul, Nat.reduceSub, Nat.reduceLeDiff, Nat.reduceLT, reduceIte, reduceCtorEq, Int.reduceToNat, Int.reduceLE, Int.reduceLT, Int.reduceNeg, Bool.not_not, and_self, Bool.and_eq_false_iff, Int.cast_ofNat_Int, Int.reduceAdd, Int.reduceSub, Int.reduceMul, Int.reduceEq, Int.reduceNe]) rfl (h25) (.inl rfl) trivial ?_
    simp only [go_sem, Nat.reduceEqDiff, Nat.reduceBEq, Nat.reduceAdd, Nat.reduceMul, Nat.reduceSub, Nat.reduceLeDiff, Nat.reduceLT, reduceIte, reduceCtorEq, Int.reduceToNat, Int.reduceLE, Int.reduceLT, Int.reduceNeg, Bool.not_not, and_self, Bool.and_eq_false_iff, Int.cast_ofNat_Int, Int.reduceAdd, Int.reduceSub, Int.reduceMul, Int.reduceEq, Int.reduceNe]
    refine runR_callgf (by simp only [go_sem, Nat.reduceEqDiff, Nat.reduceBEq, Nat.reduceAdd, Nat.reduceMul, Nat.reduceSub, Nat.reduceLeDiff, Nat.reduceLT, reduceIte, reduceCtorEq, Int.reduceToNat, Int.reduceLE, Int.reduceLT, Int.reduceNeg, Bool.not_not, and_self, Bool.and_eq_false_iff, Int.cast_ofNat_Int, Int.reduceAdd, Int.reduceSub, Int.reduceMul, Int.reduceEq, Int.reduceNe]) (by simp only [go_sem, Nat.reduceEqDiff, Nat.reduceBEq, Nat.reduceAdd, Nat.reduceMul, Nat.reduceSub, Nat.reduceLeDiff, Nat.reduceLT, reduceIte, reduceCtorEq, Int.reduceToNat, Int.reduceLE, Int.reduceLT, Int.reduceNeg, Bool.not_not, and_self, Bool.and_eq_false_iff, Int.cast_ofNat_Int, Int.reduceAdd, Int.reduceSub, Int.reduceMul, Int.reduceEq, Int.reduceNe]) (by simp only [go_sem, Nat.reduceEqDiff, Nat.reduceBEq, Nat.reduceAdd, Nat.reduceMul, Nat.reduceSub, Nat.reduceLeDiff, Nat.reduceLT, reduceIte, reduceCtorEq, Int.reduceToNat, Int.reduceLE, Int.reduceLT, Int.reduceNeg, Bool.not_not, and_self, Bool.and_eq_false_iff, Int.cast_ofNat_Int, Int.reduceAdd, Int.reduceSub, Int.reduceMul, Int.reduceEq, Int.reduceNe]) (fun _ => fn22) rfl ?_
    simp only [go_sem, Nat.reduceEqDiff, Nat.reduceBEq, Nat.reduceAdd, Nat.reduceMul, Nat.reduceSub, Nat.reduceLeDiff, Nat.reduceLT, reduceIte, reduceCtorEq, Int.reduceToNat, Int.reduceLE, Int.reduceLT, Int.reduceNeg, Bool.not_not, and_self, Bool.and_eq_false_iff, Int.cast_ofNat_Int, Int.reduceAdd, Int.reduceSub, Int.reduceMul, Int.reduceEq, Int.reduceNe]
  | true =>
    rw [hm] at h25
    refine runR_call (by simp only [go_sem, Nat.reduceEqDiff, Nat.reduceBEq, Nat.reduceAdd, Nat.reduceMul, Nat.reduceSub, Nat.reduceLeDiff, Nat.reduceLT, reduceIte, reduceCtorEq, Int.reduceToNat, Int.reduceLE, Int.reduceLT, Int.reduceNeg, Bool.not_not, and_self, Bool.and_eq_false_iff, Int.cast_ofNat_Int, Int.reduceAdd, Int.reduceSub, Int.reduceMul, Int.reduceEq, Int.reduceNe]) rfl (h25) (.inl rfl) trivial ?_
    simp only [go_sem, Nat.reduceEqDiff, Nat.reduceBEq, Nat.reduceAdd, Nat.reduceMul, Nat.reduceSub, Nat.reduceLeDiff, Nat.reduceLT, reduceIte, reduceCtorEq, Int.reduceToNat, Int.reduceLE, Int.reduceLT, Int.reduceNeg, Bool.not_not, and_self, Bool.and_eq_false_iff, Int.cast_ofNat_Int, Int.reduceAdd, Int.reduceSub, Int.reduceMul, Int.reduceEq, Int.reduceNe]
    have hx0 : oneO ⟨1, s, l, 0, 0⟩ = wl (oneO ⟨1, s, l, 0, 0⟩) t 0 := rfl
    generalize oneO ⟨1, s, l, 0, 0⟩ = x at *
    refine ⟨⟨by omega, by omega⟩, ?_⟩
    refine run_loop (T := Nat) (fun i => ⟨[(7, .pv (os [wl x t i])), (9, .pv (pI (t + 2 ^ (i + 1) - 2))), (10, .pv (pI (2 ^ (i + 1)))), (11, .pv (pI i))], []⟩) (fun i => i ≤ 4) (fun i => 4 - i) 0 ?_ (by decide) ?_
    · rw [hx0]
      simp only [Nat.zero_add, Int.pow_one, Int.add_sub_cancel]
      rfl
    intro i hi
    have hp := powW hi
    have h27 := fn27 [wl x t i] 1 (t + 2 ^ (i + 1) - 2) (by simp)
    by_cases hlt : i < 4
    · rw [nackW hm h0 ht hlt] at h27
      have hn1 := fn28 [wl x t (i + 1)] (t + 2 ^ (i + 1) - 2 + 2 ^ (i + 1) - 1) (by simp)
      have hn2 := fn28 [wl x t (i + 1)] (t + 2 ^ (i + 1) - 2 + 2 ^ (i + 1)) (by simp)
      have e2 : wd t (i + 1) = t + 2 ^ (i + 2) - 2 := by unfold wd; rw [if_neg (by omega)]
      rw [nextW hm h0 ht (by omega), if_neg (by omega)] at hn1
      rw [nextW hm h0 ht (by omega), if_pos (by omega)] at hn2
      simp only [go_sem, Nat.reduceEqDiff, Nat.reduceBEq, Nat.reduceAdd, Nat.reduceMul, Nat.reduceSub, Nat.reduceLeDiff, Nat.reduceLT, reduceIte, reduceCtorEq, Int.reduceToNat, Int.reduceLE, Int.reduceLT, Int.reduceNeg, Bool.not_not, and_self, Bool.and_eq_false_iff, Int.cast_ofNat_Int, Int.reduceAdd, Int.reduceSub, Int.reduceMul, Int.reduceEq, Int.reduceNe, B4_0, show (i : Int) < 4 by omega]
      refine runR_call (by simp only [go_sem, Nat.reduceEqDiff, Nat.reduceBEq, Nat.reduceAdd, Nat.reduceMul, Nat.reduceSub, Nat.reduceLeDiff, Nat.reduceLT, reduceIte, reduceCtorEq, Int.reduceToNat, Int.reduceLE, Int.reduceLT, Int.reduceNeg, Bool.not_not, and_self, Bool.and_eq_false_iff, Int.cast_ofNat_Int, Int.reduceAdd, Int.reduceSub, Int.reduceMul, Int.reduceEq, Int.reduceNe]) rfl (h27) (.inl rfl) trivial ?_
      simp only [go_sem, Nat.reduceEqDiff, Nat.reduceBEq, Nat.reduceAdd, Nat.reduceMul, Nat.reduceSub, Nat.reduceLeDiff, Nat.reduceLT, reduceIte, reduceCtorEq, Int.reduceToNat, Int.reduceLE, Int.reduceLT, Int.reduceNeg, Bool.not_not, and_self, Bool.and_eq_false_iff, Int.cast_ofNat_Int, Int.reduceAdd, Int.reduceSub, Int.reduceMul, Int.reduceEq, Int.reduceNe]
      refine ⟨⟨by omega, by omega⟩, ⟨by omega, by omega⟩, ?_⟩
      refine runR_call (by simp only [go_sem, Nat.reduceEqDiff, Nat.reduceBEq, Nat.reduceAdd, Nat.reduceMul, Nat.reduceSub, Nat.reduceLeDiff, Nat.reduceLT, reduceIte, reduceCtorEq, Int.reduceToNat, Int.reduceLE, Int.reduceLT, Int.reduceNeg, Bool.not_not, and_self, Bool.and_eq_false_iff, Int.cast_ofNat_Int, Int.reduceAdd, Int.reduceSub, Int.reduceMul, Int.reduceEq, Int.reduceNe]) rfl (hn1) (.inl rfl) trivial ?_
      simp only [go_sem, Nat.reduceEqDiff, Nat.reduceBEq, Nat.reduceAdd, Nat.reduceMul, Nat.reduceSub, Nat.reduceLeDiff, Nat.reduceLT, reduceIte, reduceCtorEq, Int.reduceToNat, Int.reduceLE, Int.reduceLT, Int.reduceNeg, Bool.not_not, and_self, Bool.and_eq_false_iff, Int.cast_ofNat_Int, Int.reduceAdd, Int.reduceSub, Int.reduceMul, Int.reduceEq, Int.reduceNe]
      refine ⟨⟨by omega, by omega⟩, ?_⟩
      refine runR_call (by simp only [go_sem, Nat.reduceEqDiff, Nat.reduceBEq, Nat.reduceAdd, Nat.reduceMul, Nat.reduceSub, Nat.reduceLeDiff, Nat.reduceLT, reduceIte, reduceCtorEq, Int.reduceToNat, Int.reduceLE, Int.reduceLT, Int.reduceNeg, Bool.not_not, and_self, Bool.and_eq_false_iff, Int.cast_ofNat_Int, Int.reduceAdd, Int.reduceSub, Int.reduceMul, Int.reduceEq, Int.reduceNe]) rfl (hn2) (.inl rfl) trivial ?_
      simp only [go_sem, Nat.reduceEqDiff, Nat.reduceBEq, Nat.reduceAdd, Nat.reduceMul, Nat.reduceSub, Nat.reduceLeDiff, Nat.reduceLT, reduceIte, reduceCtorEq, Int.reduceToNat, Int.reduceLE, Int.reduceLT, Int.reduceNeg, Bool.not_not, and_self, Bool.and_eq_false_iff, Int.cast_ofNat_Int, Int.reduceAdd, Int.reduceSub, Int.reduceMul, Int.reduceEq, Int.reduceNe]
      have e3 : ((i + 1 : Nat) : Int) = (i : Int) + 1 := by omega
      have e4 : wd t (i + 1) = t + 2 ^ (i + 1) - 2 + 2 ^ (i + 1) := by omega
      have e5 : t + 2 ^ (i + 1) - 2 + 2 ^ (i + 1) = t + 2 ^ (i + 1 + 1) - 2 := by
        rw [show i + 1 + 1 = i + 2 from rfl, hp.2.2]; omega
      refine ⟨⟨by omega, by omega⟩, fun _ => ⟨e4, by omega, by omega⟩, fun h => ?_, fun _ => ⟨⟨by omega, by omega⟩, ⟨by omega, by omega⟩, ⟨by omega, by omega⟩, i + 1, ?_, by omega, by omega⟩⟩
      · rcases h with h | h
        · exact h e4
        · exact h e3
      · rw [e5, ← hp.2.2, e3]
    · have hie : i = 4 := by omega
      subst hie
      rw [nackW4 hm h0 ht] at h27
      simp only [go_sem, Nat.reduceEqDiff, Nat.reduceBEq, Nat.reduceAdd, Nat.reduceMul, Nat.reduceSub, Nat.reduceLeDiff, Nat.reduceLT, reduceIte, reduceCtorEq, Int.reduceToNat, Int.reduceLE, Int.reduceLT, Int.reduceNeg, Bool.not_not, and_self, Bool.and_eq_false_iff, Int.cast_ofNat_Int, Int.reduceAdd, Int.reduceSub, Int.reduceMul, Int.reduceEq, Int.reduceNe, B4_0, R4_0]
      refine runR_call (by simp only [go_sem, Nat.reduceEqDiff, Nat.reduceBEq, Nat.reduceAdd, Nat.reduceMul, Nat.reduceSub, Nat.reduceLeDiff, Nat.reduceLT, reduceIte, reduceCtorEq, Int.reduceToNat, Int.reduceLE, Int.reduceLT, Int.reduceNeg, Bool.not_not, and_self, Bool.and_eq_false_iff, Int.cast_ofNat_Int, Int.reduceAdd, Int.reduceSub, Int.reduceMul, Int.reduceEq, Int.reduceNe]) rfl (h27) (.inl rfl) trivial ?_
      simp only [go_sem, Nat.reduceEqDiff, Nat.reduceBEq, Nat.reduceAdd, Nat.reduceMul, Nat.reduceSub, Nat.reduceLeDiff, Nat.reduceLT, reduceIte, reduceCtorEq, Int.reduceToNat, Int.reduceLE, Int.reduceLT, Int.reduceNeg, Bool.not_not, and_self, Bool.and_eq_false_iff, Int.cast_ofNat_Int, Int.reduceAdd, Int.reduceSub, Int.reduceMul, Int.reduceEq, Int.reduceNe]
      refine runR_callgf (by simp only [go_sem, Nat.reduceEqDiff, Nat.reduceBEq, Nat.reduceAdd, Nat.reduceMul, Nat.reduceSub, Nat.reduceLeDiff, Nat.reduceLT, reduceIte, reduceCtorEq, Int.reduceToNat, Int.reduceLE, Int.reduceLT, Int.reduceNeg, Bool.not_not, and_self, Bool.and_eq_false_iff, Int.cast_ofNat_Int, Int.reduceAdd, Int.reduceSub, Int.reduceMul, Int.reduceEq, Int.reduceNe]) (by simp only [go_sem, Nat.reduceEqDiff, Nat.reduceBEq, Nat.reduceAdd, Nat.reduceMul, Nat.reduceSub, Nat.reduceLeDiff, Nat.reduceLT, reduceIte, reduceCtorEq, Int.reduceToNat, Int.reduceLE, Int.reduceLT, Int.reduceNeg, Bool.not_not, and_self, Bool.and_eq_false_iff, Int.cast_ofNat_Int, Int.reduceAdd, Int.reduceSub, Int.reduceMul, Int.reduceEq, Int.reduceNe]) (by simp only [go_sem, Nat.reduceEqDiff, Nat.reduceBEq, Nat.reduceAdd, Nat.reduceMul, Nat.reduceSub, Nat.reduceLeDiff, Nat.reduceLT, reduceIte, reduceCtorEq, Int.reduceToNat, Int.reduceLE, Int.reduceLT, Int.reduceNeg, Bool.not_not, and_self, Bool.and_eq_false_iff, Int.cast_ofNat_Int, Int.reduceAdd, Int.reduceSub, Int.reduceMul, Int.reduceEq, Int.reduceNe]) (fun _ => fn22) rfl ?_
      simp only [go_sem, Nat.reduceEqDiff, Nat.reduceBEq, Nat.reduceAdd, Nat.reduceMul, Nat.reduceSub, Nat.reduceLeDiff, Nat.reduceLT, reduceIte, reduceCtorEq, Int.reduceToNat, Int.reduceLE, Int.reduceLT, Int.reduceNeg, Bool.not_not, and_self, Bool.and_eq_false_iff, Int.cast_ofNat_Int, Int.reduceAdd, Int.reduceSub, Int.reduceMul, Int.reduceEq, Int.reduceNe]
end Go.Vc

namespace Go.Vc
open Go.Proofs
set_option linter.unusedSimpArgs false

theorem u32_of {p : PV} (h : ArgOk (false, [.int .u32]) p) : ∃ n : Int, p = .sc (.int .u32 n) ∧ 0 ≤ n ∧ n < 4294967296 := by
  obtain ⟨n, rfl, hn⟩ := int_of h
  refine ⟨n, rfl, ?_⟩
  have := Go.bounds_u32 hn
  omega
theorem us_of {p : PV} (h : ArgOk (false, [.lst false [.int .u64]]) p) : ∃ l : List Int, p = us l ∧ l.length ≤ 9223372036854775807 := by
  obtain ⟨l, rfl, hl, _⟩ := ints_of (OkShs_one h)
  exact ⟨l, rfl, hl⟩
end Go.Vc

namespace Go.Vc
open Go.Proofs
set_option linter.unusedSimpArgs false

theorem u8_of {p : PV} (h : ArgOk (false, [.int .u8]) p) : ∃ n : Nat, p = p8 n ∧ n ≤ 255 := by
  obtain ⟨n, rfl, hn⟩ := int_of h
  have := Go.bounds_u8 hn
  obtain ⟨m, rfl⟩ := Int.eq_ofNat_of_zero_le this.1
  exact ⟨m, rfl, by omega⟩
theorem u8s_of {p : PV} (h : ArgOk (false, [.lst false [.int .u8]]) p) : ∃ l : List Int, p = .lst (l.map p8) ∧ l.length ≤ 9223372036854775807 ∧ ∀ x ∈ l, 0 ≤ x ∧ x ≤ 255 := by
  obtain ⟨l, rfl, hl, hx⟩ := ints_of (OkShs_one h)
  exact ⟨l, rfl, hl, fun x h' => Go.bounds_u8 (hx x h')⟩
end Go.Vc
