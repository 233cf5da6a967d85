/- A part of the proofs of the seat Ytjlmnegbgmpekaa: the contracts of functions, each proved out of its code. -/
import Derived.Test.YtjlmnegbgmpekaaVf
import Derived.Test.YtjlmnegbgmpekaaProg
import Derived.Test.YtjlmnegbgmpekaaWa
namespace Go.Vc
open Go.Proofs
set_option maxRecDepth 100000


/-- 'wheel.timer).order' -/
def M94 : MC := (.seq (.reg [⟨(some 2), none, (.box (.t 0))⟩, ⟨(some 3), none, (.box (.t 1))⟩, ⟨(some 4), none, (.q (.mv (.c (.int .i64 0))))⟩] [] [2, 3] [2, 3]) (.seq (.reg [⟨(some 5), none,
  (.q (.fa (.t 2) 0))⟩, ⟨(some 6), none, (.q (.ld (.t 5) 1 false))⟩, ⟨(some 7), none, (.q (.fa (.t 3) 0))⟩, ⟨(some 8), none, (.q (.ld (.t 7) 1 false))⟩, ⟨(some 10), none, (.q (.fa (.t 2) 1))⟩,
  ⟨(some 11), none, (.q (.ld (.t 10) 1 false))⟩, ⟨(some 12), none, (.q (.fa (.t 3) 1))⟩, ⟨(some 13), none, (.q (.ld (.t 12) 1 false))⟩, ⟨(some 9), none, (.call (.f 78) [(.t 6), (.t 8)])⟩, ⟨(some 14),
  none, (.call (.f 79) [(.t 11), (.t 13)])⟩, ⟨(some 15), none, (.lits [(.t 9), (.t 14)] 1)⟩, ⟨(some 16), none, (.call (.f 77) [(.t 15)])⟩, ⟨(some 4), none, (.q (.mv (.t 16)))⟩] [] [4] [1016]) .ret))
theorem mc94 : ofCode Try.prog [] Try.f94.ntmps [(0, ⟨[2, 3], [2, 3], [], 0, [], none⟩),
    (1, ⟨[4], [1016], [(0, 7699), (1, 7698), (2, 7708), (3, 7704), (5, 7776), (6, 7744), (7, 8064), (8, 7936), (4, 0), (9, 0), (10, 0), (11, 0), (12, 4096)], 8191, [], none⟩)] (Try.f94.body.getD .skip) = some M94 := by kernel_rfl
theorem Run94 {args : List PV} {v : AV} {rs : List (Nat × List PV)} (ids : List Bool) (h : args.length ≤ 17) (hv : run Try.prog (retK [RV.tmp 4] ids v rs) M94 [] ⟨entry 0 args, []⟩) : Fn Try.prog 94 args v rs :=
  Fn_run ids (by kernel_rfl) Try.func94 (by decide) rfl mc94 (by kernel_rfl) (by rw [Try.ntmps94]; exact h) (by rw [Try.ntmps94]; decide) hv

/-- 'wheel.find' -/
def M95 : MC := (.seq (.reg [⟨(some 3), none, (.box (.t 1))⟩, ⟨(some 4), none, (.q (.mv (.c (.int .i64 0))))⟩] [] [0, 3] [3]) (.seq (.reg [⟨(some 5), none, (.q (.mv (.t 0)))⟩, ⟨(some 6), none,
  (.q (.clo 111 [(.t 3)]))⟩, ⟨(some 7), none, (.call (.f 110) [(.t 5), (.t 6)])⟩, ⟨(some 4), none, (.q (.mv (.t 7)))⟩] [] [4] [1007]) .ret))
theorem mc95 : ofCode Try.prog [] Try.f95.ntmps [(0, ⟨[0, 3], [3], [], 0, [], none⟩),
    (1, ⟨[4], [1007], [], 0, [], none⟩)] (Try.f95.body.getD .skip) = some M95 := by kernel_rfl
theorem Run95 {args : List PV} {v : AV} {rs : List (Nat × List PV)} (ids : List Bool) (h : args.length ≤ 8) (hv : run Try.prog (retK [RV.tmp 4] ids v rs) M95 [] ⟨entry 0 args, []⟩) : Fn Try.prog 95 args v rs :=
  Fn_run ids (by kernel_rfl) Try.func95 (by decide) rfl mc95 (by kernel_rfl) (by rw [Try.ntmps95]; exact h) (by rw [Try.ntmps95]; decide) hv

/-- 'wheel.without' -/
def B96_0 : MC := (.seq (.reg [⟨(some 15), none, (.q (.bin .lss (.t 14) (.t 13)))⟩] [] [1, 5, 12, 13, 14, 15] [11, 25]) (.seq (.cond (.t 15) .skip (.exit 0)) (.seq (.block 1 (.seq (.reg [⟨(some 16),
  none, (.q (.mv (.t 14)))⟩, ⟨(some 17), none, (.q (.ia (.t 12) (.t 14) 2))⟩, ⟨(some 18), none, (.q (.ld (.t 17) 2 true))⟩, ⟨(some 7), none, (.alloc [(.pv (.sc (.int .i64 0))),
  (.pv (.sc (.int .u64 0)))])⟩, ⟨(some 6), none, (.q (.mv (.t 16)))⟩, ⟨none, none, (.st (.t 7) (.t 18) 2)⟩] [] [1, 5, 6, 7, 12, 13, 14] [7, 11, 25]) (.seq (.reg [⟨(some 19), none, (.q (.mv (.t 6)))⟩,
  ⟨(some 20), none, (.q (.mv (.t 1)))⟩, ⟨(some 21), none, (.q (.bin .neq (.t 19) (.t 20)))⟩] [] [1, 5, 7, 12, 13, 14, 21] [7, 11, 25]) (.cond (.t 21) (.reg [⟨(some 22), none, (.q (.mv (.t 5)))⟩,
  ⟨(some 23), none, (.q (.ld (.t 7) 2 true))⟩, ⟨(some 24), none, (.lits [(.t 23)] 2)⟩, ⟨(some 25), none, (.app (.t 22) (.t 24) 2 16)⟩, ⟨(some 5), none, (.q (.mv (.t 25)))⟩] [] [1, 5, 12, 13, 14] [11,
  25]) .skip)))) (.reg [⟨(some 26), none, (.q (.bin .add (.t 14) (.c (.int .i64 1))))⟩, ⟨(some 14), none, (.q (.mv (.t 26)))⟩] [] [1, 5, 12, 13, 14] [11, 25]))))
def R96_0 : MC := (.seq (.reg [⟨(some 27), none, (.q (.mv (.t 5)))⟩, ⟨(some 4), none, (.q (.mv (.t 27)))⟩] [] [4] [11, 25]) .ret)
def M96 : MC := (.seq (.reg [⟨(some 4), none, (.q (.mv .nil))⟩] [] [0, 1] []) (.seq (.reg [⟨(some 8), none, (.q (.mv (.t 0)))⟩, ⟨(some 9), none, (.q (.len (.t 8) false))⟩, ⟨(some 10), none,
  (.q (.bin .add (.t 9) (.c (.int .i64 1))))⟩, ⟨(some 11), none, (.mks (.c (.int .i64 0)) (.t 10) 2 16 (.agg [(.sc (.int .i64 0)), (.sc (.int .u64 0))]))⟩, ⟨(some 5), none, (.q (.mv (.t 11)))⟩] [] [0,
  1, 5] [11, 25]) (.seq (.seq (.reg [⟨(some 12), none, (.q (.mv (.t 0)))⟩, ⟨(some 13), none, (.q (.len (.t 12) false))⟩, ⟨(some 14), none, (.q (.mv (.c (.int .i64 0))))⟩] [] [1, 5, 12, 13, 14] [11,
  25]) (.block 0 (.loop B96_0))) R96_0)))
theorem mc96 : ofCode Try.prog [] Try.f96.ntmps [(0, ⟨[0, 1], [], [], 0, [], none⟩),
    (1, ⟨[0, 1, 5], [11, 25], [], 0, [], none⟩),
    (2, ⟨[1, 5, 12, 13, 14], [11, 25], [], 0, [], none⟩),
    (3, ⟨[1, 5, 12, 13, 14, 15], [11, 25], [], 0, [], none⟩),
    (4, ⟨[1, 5, 6, 7, 12, 13, 14], [7, 11, 25], [], 0, [], none⟩),
    (5, ⟨[1, 5, 7, 12, 13, 14, 21], [7, 11, 25], [], 0, [], none⟩),
    (6, ⟨[1, 5, 12, 13, 14], [11, 25], [], 0, [], none⟩),
    (7, ⟨[1, 5, 12, 13, 14], [11, 25], [], 0, [], none⟩),
    (8, ⟨[4], [11, 25], [], 0, [], none⟩)] (Try.f96.body.getD .skip) = some M96 := by kernel_rfl
theorem Run96 {args : List PV} {v : AV} {rs : List (Nat × List PV)} (ids : List Bool) (h : args.length ≤ 28) (hv : run Try.prog (retK [RV.tmp 4] ids v rs) M96 [] ⟨entry 0 args, []⟩) : Fn Try.prog 96 args v rs :=
  Fn_run ids (by kernel_rfl) Try.func96 (by decide) rfl mc96 (by kernel_rfl) (by rw [Try.ntmps96]; exact h) (by rw [Try.ntmps96]; decide) hv

/-- 'wheel.inOrder' -/
def B97_0 : MC := (.seq (.reg [⟨(some 15), none, (.q (.bin .lss (.t 14) (.t 13)))⟩] [] [0, 3, 12, 13, 14, 15] [0, 11, 1025]) (.seq (.cond (.t 15) .skip (.exit 0))
  (.seq (.block 1 (.seq (.reg [⟨(some 16), none, (.q (.mv (.t 14)))⟩, ⟨(some 17), none, (.q (.ia (.t 12) (.t 14) 2))⟩, ⟨(some 18), none, (.q (.ld (.t 17) 2 true))⟩, ⟨(some 5), none,
  (.alloc [(.pv (.sc (.int .i64 0))), (.pv (.sc (.int .u64 0)))])⟩, ⟨(some 4), none, (.q (.mv (.t 16)))⟩, ⟨none, none, (.st (.t 5) (.t 18) 2)⟩] [] [0, 3, 4, 5, 12, 13, 14] [0, 5, 11, 1025])
  (.reg [⟨(some 19), none, (.q (.mv (.t 3)))⟩, ⟨(some 20), none, (.q (.mv (.t 4)))⟩, ⟨(some 21), none, (.q (.ld (.t 5) 2 true))⟩, ⟨(some 22), none, (.q (.ia (.t 19) (.t 20) 2))⟩, ⟨none, none,
  (.st (.t 22) (.t 21) 2)⟩] [] [0, 3, 12, 13, 14] [0, 11, 1025]))) (.reg [⟨(some 23), none, (.q (.bin .add (.t 14) (.c (.int .i64 1))))⟩, ⟨(some 14), none, (.q (.mv (.t 23)))⟩] [] [0, 3, 12, 13,
  14] [0, 11, 1025]))))
def B97_1 : MC := (.seq (.reg [⟨(some 32), none, (.q (.bin .lss (.t 31) (.t 30)))⟩] [] [6, 29, 30, 31, 32] [0, 11, 28, 1025]) (.seq (.cond (.t 32) .skip (.exit 2))
  (.seq (.block 3 (.seq (.reg [⟨(some 33), none, (.q (.mv (.t 31)))⟩, ⟨(some 34), none, (.q (.ia (.t 29) (.t 31) 2))⟩, ⟨(some 35), none, (.q (.ld (.t 34) 2 true))⟩, ⟨(some 8), none,
  (.alloc [(.pv (.sc (.int .i64 0))), (.pv (.sc (.int .u64 0)))])⟩, ⟨(some 7), none, (.q (.mv (.t 33)))⟩, ⟨none, none, (.st (.t 8) (.t 35) 2)⟩] [] [6, 7, 8, 29, 30, 31] [0, 8, 11, 28, 1025])
  (.reg [⟨(some 36), none, (.q (.mv (.t 6)))⟩, ⟨(some 37), none, (.q (.mv (.t 7)))⟩, ⟨(some 38), none, (.q (.ld (.t 8) 2 true))⟩, ⟨(some 39), none, (.q (.ia (.t 36) (.t 37) 2))⟩, ⟨none, none,
  (.st (.t 39) (.t 38) 2)⟩] [] [6, 29, 30, 31] [0, 11, 28, 1025]))) (.reg [⟨(some 40), none, (.q (.bin .add (.t 31) (.c (.int .i64 1))))⟩, ⟨(some 31), none, (.q (.mv (.t 40)))⟩] [] [6, 29, 30, 31] [0,
  11, 28, 1025]))))
def R97_1 : MC := (.seq (.reg [⟨(some 41), none, (.q (.mv (.t 6)))⟩, ⟨(some 2), none, (.q (.mv (.t 41)))⟩] [] [2] [0, 28, 1025]) .ret)
def R97_0 : MC := (.seq (.reg [⟨(some 24), none, (.q (.mv (.t 3)))⟩, ⟨(some 25), none, (.calls (.f 112) [(.t 24), (.f 94)])⟩] [] [0, 3] [0, 11, 1025]) (.seq (.reg [⟨(some 26), none,
  (.q (.mv (.t 0)))⟩, ⟨(some 27), none, (.q (.len (.t 26) false))⟩, ⟨(some 28), none, (.mks (.t 27) (.t 27) 2 16 (.agg [(.sc (.int .i64 0)), (.sc (.int .u64 0))]))⟩, ⟨(some 6), none,
  (.q (.mv (.t 28)))⟩] [] [3, 6] [0, 11, 28, 1025]) (.seq (.seq (.reg [⟨(some 29), none, (.q (.mv (.t 3)))⟩, ⟨(some 30), none, (.q (.len (.t 29) false))⟩, ⟨(some 31), none,
  (.q (.mv (.c (.int .i64 0))))⟩] [] [6, 29, 30, 31] [0, 11, 28, 1025]) (.block 2 (.loop B97_1))) R97_1)))
def M97 : MC := (.seq (.reg [⟨(some 2), none, (.q (.mv .nil))⟩] [] [0] [0]) (.seq (.reg [⟨(some 9), none, (.q (.mv (.t 0)))⟩, ⟨(some 10), none, (.q (.len (.t 9) false))⟩, ⟨(some 11), none,
  (.mks (.t 10) (.t 10) 2 16 (.agg [(.sc (.int .i64 0)), (.sc (.int .u64 0))]))⟩, ⟨(some 3), none, (.q (.mv (.t 11)))⟩] [] [0, 3] [0, 11, 1025]) (.seq (.seq (.reg [⟨(some 12), none,
  (.q (.mv (.t 0)))⟩, ⟨(some 13), none, (.q (.len (.t 12) false))⟩, ⟨(some 14), none, (.q (.mv (.c (.int .i64 0))))⟩] [] [0, 3, 12, 13, 14] [0, 11, 1025]) (.block 0 (.loop B97_0))) R97_0)))
theorem mc97 : ofCode Try.prog [25] Try.f97.ntmps [(0, ⟨[0], [0], [], 0, [], none⟩),
    (1, ⟨[0, 3], [0, 11, 1025], [], 0, [], none⟩),
    (2, ⟨[0, 3, 12, 13, 14], [0, 11, 1025], [], 0, [], none⟩),
    (3, ⟨[0, 3, 12, 13, 14, 15], [0, 11, 1025], [], 0, [], none⟩),
    (4, ⟨[0, 3, 4, 5, 12, 13, 14], [0, 5, 11, 1025], [], 0, [], none⟩),
    (5, ⟨[0, 3, 12, 13, 14], [0, 11, 1025], [], 0, [], none⟩),
    (6, ⟨[0, 3, 12, 13, 14], [0, 11, 1025], [], 0, [], none⟩),
    (7, ⟨[0, 3], [0, 11, 1025], [], 0, [], none⟩),
    (8, ⟨[3, 6], [0, 11, 28, 1025], [], 0, [], none⟩),
    (9, ⟨[6, 29, 30, 31], [0, 11, 28, 1025], [], 0, [], none⟩),
    (10, ⟨[6, 29, 30, 31, 32], [0, 11, 28, 1025], [], 0, [], none⟩),
    (11, ⟨[6, 7, 8, 29, 30, 31], [0, 8, 11, 28, 1025], [], 0, [], none⟩),
    (12, ⟨[6, 29, 30, 31], [0, 11, 28, 1025], [], 0, [], none⟩),
    (13, ⟨[6, 29, 30, 31], [0, 11, 28, 1025], [], 0, [], none⟩),
    (14, ⟨[2], [0, 28, 1025], [], 0, [], none⟩)] (Try.f97.body.getD .skip) = some M97 := by kernel_rfl
theorem RunS97 {args : List AV} {st st' : List (Nat × Row)} {v : AV} (h : args.length ≤ 42) (hk : (st'.map (·.1)).Nodup) (hv : run Try.prog (retS [RV.tmp 2] v st') M97 [] ⟨entryA 0 args, st⟩) : FnS Try.prog 97 args st v st' :=
  FnS_run (by kernel_rfl) Try.func97 (by decide) rfl mc97 (by kernel_rfl) (by rw [Try.ntmps97]; exact h) (by rw [Try.ntmps97]; decide) hk hv

/-- 'api.Timer]' -/
def B110_0 : MC := (.seq (.reg [⟨(some 9), none, (.q (.bin .lss (.t 8) (.t 7)))⟩] [] [0, 1, 7, 8, 9] []) (.seq (.cond (.t 9) .skip (.exit 0)) (.seq (.block 1 (.seq (.reg [⟨(some 10), none,
  (.q (.mv (.t 8)))⟩, ⟨(some 5), none, (.q (.mv (.t 10)))⟩] [] [0, 1, 5, 7, 8] []) (.seq (.reg [⟨(some 11), none, (.q (.mv (.t 1)))⟩, ⟨(some 12), none, (.q (.mv (.t 0)))⟩, ⟨(some 13), none,
  (.q (.mv (.t 5)))⟩, ⟨(some 14), none, (.q (.ia (.t 12) (.t 13) 2))⟩, ⟨(some 15), none, (.q (.ld (.t 14) 2 true))⟩, ⟨(some 16), none, (.call (.t 11) [(.t 15)])⟩] [] [0, 1, 5, 7, 8, 16] [1016])
  (.cond (.t 16) (.seq (.reg [⟨(some 17), none, (.q (.mv (.t 5)))⟩, ⟨(some 4), none, (.q (.mv (.t 17)))⟩] [] [4] []) .ret) .skip)))) (.reg [⟨(some 18), none, (.q (.bin .add (.t 8)
  (.c (.int .i64 1))))⟩, ⟨(some 8), none, (.q (.mv (.t 18)))⟩] [] [0, 1, 7, 8] []))))
def R110_0 : MC := (.seq (.reg [⟨(some 4), none, (.q (.mv (.c (.int .i64 (-1)))))⟩] [] [4] []) .ret)
def M110 : MC := (.seq (.reg [⟨(some 4), none, (.q (.mv (.c (.int .i64 0))))⟩] [] [0, 1] []) (.seq (.seq (.reg [⟨(some 6), none, (.q (.mv (.t 0)))⟩, ⟨(some 7), none, (.q (.len (.t 6) false))⟩,
  ⟨(some 8), none, (.q (.mv (.c (.int .i64 0))))⟩] [] [0, 1, 7, 8] []) (.block 0 (.loop B110_0))) R110_0))
theorem mc110 : ofCode Try.prog [] Try.f110.ntmps [(0, ⟨[0, 1], [], [], 0, [], none⟩),
    (1, ⟨[0, 1, 7, 8], [], [], 0, [], none⟩),
    (2, ⟨[0, 1, 7, 8, 9], [], [], 0, [], none⟩),
    (3, ⟨[0, 1, 5, 7, 8], [], [], 0, [], none⟩),
    (4, ⟨[0, 1, 5, 7, 8, 16], [1016], [], 0, [], none⟩),
    (5, ⟨[4], [], [], 0, [], none⟩),
    (6, ⟨[0, 1, 7, 8], [], [], 0, [], none⟩),
    (7, ⟨[4], [], [], 0, [], none⟩)] (Try.f110.body.getD .skip) = some M110 := by kernel_rfl
theorem Run110 {args : List PV} {v : AV} {rs : List (Nat × List PV)} (ids : List Bool) (h : args.length ≤ 19) (hv : run Try.prog (retK [RV.tmp 4] ids v rs) M110 [] ⟨entry 0 args, []⟩) : Fn Try.prog 110 args v rs :=
  Fn_run ids (by kernel_rfl) Try.func110 (by decide) rfl mc110 (by kernel_rfl) (by rw [Try.ntmps110]; exact h) (by rw [Try.ntmps110]; decide) hv

/-- 'wheel.find.1' -/
def M111 : MC := (.seq (.reg [⟨(some 2), none, (.box (.t 0))⟩, ⟨(some 3), none, (.q (.mv (.c (.bool false))))⟩] [] [1, 2] [2]) (.seq (.reg [⟨(some 4), none, (.q (.fa (.t 2) 1))⟩, ⟨(some 5), none,
  (.q (.ld (.t 4) 1 false))⟩, ⟨(some 6), none, (.q (.ld (.t 1) 1 false))⟩, ⟨(some 7), none, (.q (.bin .eql (.t 5) (.t 6)))⟩, ⟨(some 3), none, (.q (.mv (.t 7)))⟩] [] [3] []) .ret))
theorem mc111 : ofCode Try.prog [] Try.f111.ntmps [(0, ⟨[1, 2], [2], [], 0, [], none⟩),
    (1, ⟨[3], [], [], 0, [], none⟩)] (Try.f111.body.getD .skip) = some M111 := by kernel_rfl
theorem Run111 {args : List PV} {v : AV} {rs : List (Nat × List PV)} (ids : List Bool) (h : args.length ≤ 8) (hv : run Try.prog (retK [RV.tmp 3] ids v rs) M111 [] ⟨entry 0 args, []⟩) : Fn Try.prog 111 args v rs :=
  Fn_run ids (by kernel_rfl) Try.func111 (by decide) rfl mc111 (by kernel_rfl) (by rw [Try.ntmps111]; exact h) (by rw [Try.ntmps111]; decide) hv



/-- 'wheel.Check' -/
def B60_0 : MC := (.seq (.reg [⟨(some 17), none, (.q (.bin .lss (.t 16) (.t 15)))⟩] [] [0, 3, 14, 15, 16, 17] [13]) (.seq (.cond (.t 17) .skip (.exit 0)) (.seq (.block 1 (.seq (.reg [⟨(some 18), none,
  (.q (.mv (.t 16)))⟩, ⟨(some 19), none, (.q (.ia (.t 14) (.t 16) 2))⟩, ⟨(some 20), none, (.q (.ld (.t 19) 2 true))⟩, ⟨(some 5), none, (.alloc [(.pv (.sc (.int .i64 0))), (.pv (.sc (.int .u64 0)))])⟩,
  ⟨(some 4), none, (.q (.mv (.t 18)))⟩, ⟨none, none, (.st (.t 5) (.t 20) 2)⟩] [] [0, 3, 4, 5, 14, 15, 16] [5, 13]) (.seq (.seq (.reg [⟨(some 21), none, (.q (.fa (.t 5) 0))⟩, ⟨(some 22), none,
  (.q (.ld (.t 21) 1 false))⟩, ⟨(some 23), none, (.q (.bin .lss (.t 22) (.c (.int .i64 0))))⟩, ⟨(some 24), none, (.q (.mv (.t 23)))⟩, ⟨(some 25), (some (24, false)), (.q (.fa (.t 5) 0))⟩, ⟨(some 26),
  (some (24, false)), (.q (.ld (.t 25) 1 false))⟩, ⟨(some 27), (some (24, false)), (.q (.bin .gtr (.t 26) (.c (.int .i64 1099511627775))))⟩, ⟨(some 28), none, (.q (.pick (.t 24) (.c (.bool true))
  (.t 27)))⟩] [] [0, 3, 4, 5, 14, 15, 16, 28] [5, 13]) (.cond (.t 28) (.seq (.reg [⟨(some 2), none, (.q (.mv (.c (.int .i64 1))))⟩] [] [2] []) .ret) .skip)) (.seq (.seq (.reg [⟨(some 29), none,
  (.q (.mv (.t 4)))⟩, ⟨(some 30), none, (.q (.bin .gtr (.t 29) (.c (.int .i64 0))))⟩, ⟨(some 31), none, (.q (.mv (.t 30)))⟩, ⟨(some 32), (some (31, true)), (.q (.mv (.t 0)))⟩, ⟨(some 33), (some (31,
  true)), (.q (.mv (.t 4)))⟩, ⟨(some 34), (some (31, true)), (.q (.bin .sub (.t 33) (.c (.int .i64 1))))⟩, ⟨(some 35), (some (31, true)), (.q (.ia (.t 32) (.t 34) 2))⟩, ⟨(some 36), (some (31, true)),
  (.q (.ld (.t 35) 2 true))⟩, ⟨(some 37), (some (31, true)), (.q (.ld (.t 5) 2 true))⟩, ⟨(some 38), (some (31, true)), (.call (.f 94) [(.t 36), (.t 37)])⟩, ⟨(some 39), (some (31, true)),
  (.q (.bin .geq (.t 38) (.c (.int .i64 0))))⟩, ⟨(some 40), none, (.q (.pick (.t 31) (.t 39) (.c (.bool false))))⟩] [] [0, 3, 4, 5, 14, 15, 16, 40] [5, 13, 1038]) (.cond (.t 40)
  (.seq (.reg [⟨(some 2), none, (.q (.mv (.c (.int .i64 1))))⟩] [] [2] []) .ret) .skip)) (.seq (.seq (.reg [⟨(some 42), none, (.q (.mv (.t 3)))⟩, ⟨(some 43), none, (.q (.fa (.t 5) 1))⟩, ⟨(some 44),
  none, (.q (.ld (.t 43) 1 false))⟩, ⟨(some 45), none, (.q (.mget (.t 42) (.t 44) true Kk.int (.pv (.sc (.int .i64 0)))))⟩, ⟨(some 41), none, (.q (.mv (.t 45)))⟩, ⟨(some 46), none, (.q (.ext (.t 41)
  0))⟩, ⟨(some 47), none, (.q (.ext (.t 41) 1))⟩, ⟨(some 6), none, (.q (.mv (.t 46)))⟩, ⟨(some 7), none, (.q (.mv (.t 47)))⟩] [] [0, 3, 4, 5, 7, 14, 15, 16] [5, 13]) (.seq (.reg [⟨(some 48), none,
  (.q (.mv (.t 7)))⟩] [] [0, 3, 4, 5, 14, 15, 16, 48] [5, 13]) (.cond (.t 48) (.seq (.reg [⟨(some 2), none, (.q (.mv (.c (.int .i64 1))))⟩] [] [2] []) .ret) .skip))) (.reg [⟨(some 49), none,
  (.q (.mv (.t 3)))⟩, ⟨(some 50), none, (.q (.fa (.t 5) 1))⟩, ⟨(some 51), none, (.q (.ld (.t 50) 1 false))⟩, ⟨(some 52), none, (.q (.mv (.t 4)))⟩, ⟨none, none, (.mset (.t 49) (.t 51) (.t 52)
  Kk.int)⟩] [] [0, 3, 14, 15, 16] [13])))))) (.reg [⟨(some 53), none, (.q (.bin .add (.t 16) (.c (.int .i64 1))))⟩, ⟨(some 16), none, (.q (.mv (.t 53)))⟩] [] [0, 3, 14, 15, 16] [13]))))
def R60_0 : MC := (.seq (.reg [⟨(some 2), none, (.q (.mv (.c (.int .i64 0))))⟩] [] [2] []) .ret)
def M60 : MC := (.seq (.reg [⟨(some 2), none, (.q (.mv (.c (.int .i64 0))))⟩] [] [0] []) (.seq (.seq (.reg [⟨(some 8), none, (.q (.mv (.t 0)))⟩, ⟨(some 9), none, (.q (.len (.t 8) false))⟩, ⟨(some 10),
  none, (.q (.bin .gtr (.t 9) (.c (.int .i64 120))))⟩] [] [0, 10] []) (.cond (.t 10) (.seq (.reg [⟨(some 2), none, (.q (.mv (.c (.int .i64 1))))⟩] [] [2] []) .ret) .skip)) (.seq (.reg [⟨(some 11),
  none, (.q (.mv (.t 0)))⟩, ⟨(some 12), none, (.q (.len (.t 11) false))⟩, ⟨(some 13), none, (.mkmr (.t 12))⟩, ⟨(some 3), none, (.q (.mv (.t 13)))⟩] [] [0, 3] [13]) (.seq (.seq (.reg [⟨(some 14), none,
  (.q (.mv (.t 0)))⟩, ⟨(some 15), none, (.q (.len (.t 14) false))⟩, ⟨(some 16), none, (.q (.mv (.c (.int .i64 0))))⟩] [] [0, 3, 14, 15, 16] [13]) (.block 0 (.loop B60_0))) R60_0))))
theorem mc60 : ofCode Try.prog [] Try.f60.ntmps [(0, ⟨[0], [], [], 0, [], none⟩),
    (1, ⟨[0, 10], [], [], 0, [], none⟩),
    (2, ⟨[2], [], [], 0, [], none⟩),
    (3, ⟨[0, 3], [13], [], 0, [], none⟩),
    (4, ⟨[0, 3, 14, 15, 16], [13], [], 0, [], none⟩),
    (5, ⟨[0, 3, 14, 15, 16, 17], [13], [], 0, [], none⟩),
    (6, ⟨[0, 3, 4, 5, 14, 15, 16], [5, 13], [], 0, [], none⟩),
    (7, ⟨[0, 3, 4, 5, 14, 15, 16, 28], [5, 13], [], 0, [], none⟩),
    (8, ⟨[2], [], [], 0, [], none⟩),
    (9, ⟨[0, 3, 4, 5, 14, 15, 16, 40], [5, 13, 1038], [(0, 4095), (1, 4094), (2, 4092), (3, 3784), (4, 3824), (5, 3808), (6, 3776), (7, 3712), (8, 3840), (9, 0), (10, 3072), (11, 2048)], 4095, [], none⟩),
    (10, ⟨[2], [], [], 0, [], none⟩),
    (11, ⟨[0, 3, 4, 5, 7, 14, 15, 16], [5, 13], [], 0, [], none⟩),
    (12, ⟨[0, 3, 4, 5, 14, 15, 16, 48], [5, 13], [], 0, [], none⟩),
    (13, ⟨[2], [], [], 0, [], none⟩),
    (14, ⟨[0, 3, 14, 15, 16], [13], [], 0, [], none⟩),
    (15, ⟨[0, 3, 14, 15, 16], [13], [], 0, [], none⟩),
    (16, ⟨[2], [], [], 0, [], none⟩)] (Try.f60.body.getD .skip) = some M60 := by kernel_rfl
theorem Run60 {args : List PV} {v : AV} {rs : List (Nat × List PV)} (ids : List Bool) (h : args.length ≤ 54) (hv : run Try.prog (retK [RV.tmp 2] ids v rs) M60 [] ⟨entry 0 args, []⟩) : Fn Try.prog 60 args v rs :=
  Fn_run ids (by kernel_rfl) Try.func60 (by decide) rfl mc60 (by kernel_rfl) (by rw [Try.ntmps60]; exact h) (by rw [Try.ntmps60]; decide) hv



/-- 'wheel.Stop' -/
def M61 : MC := (.seq (.reg [⟨(some 4), none, (.q (.mv .nil))⟩, ⟨(some 5), none, (.q (.mv (.c (.bool false))))⟩] [] [0, 1] []) (.seq (.seq (.reg [⟨(some 7), none, (.q (.mv (.t 0)))⟩, ⟨(some 8), none,
  (.call (.f 60) [(.t 7)])⟩, ⟨(some 9), none, (.q (.bin .neq (.t 8) (.c (.int .i64 0))))⟩] [] [0, 1, 9] [1008]) (.cond (.t 9) (.seq (.reg [⟨(some 4), none, (.q (.mv .nil))⟩, ⟨(some 5), none,
  (.q (.mv (.c (.bool false))))⟩] [] [4, 5] [1012, 1015]) .ret) .skip)) (.seq (.reg [⟨(some 10), none, (.q (.mv (.t 0)))⟩, ⟨(some 11), none, (.q (.mv (.t 1)))⟩, ⟨(some 12), none, (.call (.f 95)
  [(.t 10), (.t 11)])⟩, ⟨(some 6), none, (.q (.mv (.t 12)))⟩] [] [0, 6] [1012]) (.seq (.reg [⟨(some 13), none, (.q (.mv (.t 0)))⟩, ⟨(some 14), none, (.q (.mv (.t 6)))⟩, ⟨(some 15), none,
  (.call (.f 96) [(.t 13), (.t 14)])⟩, ⟨(some 16), none, (.q (.mv (.t 6)))⟩, ⟨(some 17), none, (.q (.bin .geq (.t 16) (.c (.int .i64 0))))⟩, ⟨(some 4), none, (.q (.mv (.t 15)))⟩, ⟨(some 5), none,
  (.q (.mv (.t 17)))⟩] [] [4, 5] [1012, 1015]) .ret))))
theorem mc61 : ofCode Try.prog [] Try.f61.ntmps [(0, ⟨[0, 1], [], [], 0, [], none⟩),
    (1, ⟨[0, 1, 9], [1008], [], 0, [], none⟩),
    (2, ⟨[4, 5], [1012, 1015], [], 0, [], none⟩),
    (3, ⟨[0, 6], [1012], [], 0, [], none⟩),
    (4, ⟨[4, 5], [1012, 1015], [], 0, [], none⟩)] (Try.f61.body.getD .skip) = some M61 := by kernel_rfl
theorem Run61 {args : List PV} {v : AV} {rs : List (Nat × List PV)} (ids : List Bool) (h : args.length ≤ 18) (hv : run Try.prog (retK [RV.tmp 4, RV.tmp 5] ids v rs) M61 [] ⟨entry 0 args, []⟩) : Fn Try.prog 61 args v rs :=
  Fn_run ids (by kernel_rfl) Try.func61 (by decide) rfl mc61 (by kernel_rfl) (by rw [Try.ntmps61]; exact h) (by rw [Try.ntmps61]; decide) hv

/-- 'wheel.Set' -/
def M62 : MC := (.seq (.reg [⟨(some 6), none, (.q (.mv .nil))⟩, ⟨(some 7), none, (.q (.mv (.c (.int .i64 0))))⟩] [] [0, 1, 2] []) (.seq (.seq (.reg [⟨(some 9), none, (.q (.mv (.t 0)))⟩, ⟨(some 10),
  none, (.call (.f 60) [(.t 9)])⟩, ⟨(some 11), none, (.q (.bin .neq (.t 10) (.c (.int .i64 0))))⟩, ⟨(some 12), none, (.q (.mv (.t 11)))⟩, ⟨(some 13), (some (12, false)), (.q (.mv (.t 2)))⟩,
  ⟨(some 14), (some (12, false)), (.q (.bin .lss (.t 13) (.c (.int .i64 0))))⟩, ⟨(some 15), none, (.q (.pick (.t 12) (.c (.bool true)) (.t 14)))⟩, ⟨(some 16), none, (.q (.mv (.t 15)))⟩, ⟨(some 17),
  (some (16, false)), (.q (.mv (.t 2)))⟩, ⟨(some 18), (some (16, false)), (.q (.bin .gtr (.t 17) (.c (.int .i64 1099511627775))))⟩, ⟨(some 19), none, (.q (.pick (.t 16) (.c (.bool true))
  (.t 18)))⟩] [] [0, 1, 2, 19] [1010]) (.cond (.t 19) (.seq (.reg [⟨(some 6), none, (.q (.mv .nil))⟩, ⟨(some 7), none, (.q (.mv (.c (.int .i64 1))))⟩] [] [6, 7] [37, 1032, 1038]) .ret) .skip))
  (.seq (.reg [⟨(some 20), none, (.q (.mv (.t 0)))⟩, ⟨(some 21), none, (.q (.mv (.t 1)))⟩, ⟨(some 22), none, (.call (.f 95) [(.t 20), (.t 21)])⟩, ⟨(some 8), none, (.q (.mv (.t 22)))⟩] [] [0, 1, 2,
  8] [1022]) (.seq (.seq (.reg [⟨(some 23), none, (.q (.mv (.t 8)))⟩, ⟨(some 24), none, (.q (.bin .lss (.t 23) (.c (.int .i64 0))))⟩, ⟨(some 25), none, (.q (.mv (.t 24)))⟩, ⟨(some 26), (some (25,
  true)), (.q (.mv (.t 0)))⟩, ⟨(some 27), (some (25, true)), (.q (.len (.t 26) false))⟩, ⟨(some 28), (some (25, true)), (.q (.bin .geq (.t 27) (.c (.int .i64 120))))⟩, ⟨(some 29), none,
  (.q (.pick (.t 25) (.t 28) (.c (.bool false))))⟩] [] [0, 1, 2, 8, 29] [1022]) (.cond (.t 29) (.seq (.reg [⟨(some 6), none, (.q (.mv .nil))⟩, ⟨(some 7), none, (.q (.mv (.c (.int .i64 6))))⟩] [] [6,
  7] [37, 1032, 1038]) .ret) .skip)) (.seq (.reg [⟨(some 30), none, (.q (.mv (.t 0)))⟩, ⟨(some 31), none, (.q (.mv (.t 8)))⟩, ⟨(some 32), none, (.call (.f 96) [(.t 30), (.t 31)])⟩, ⟨(some 33), none,
  (.q (.mv (.t 2)))⟩, ⟨(some 34), none, (.q (.mv (.t 1)))⟩, ⟨(some 35), none, (.q (.mk [(.pv (.sc (.int .i64 0))), (.pv (.sc (.int .u64 0)))] [(0, 1, (.t 33)), (1, 1, (.t 34))]))⟩, ⟨(some 36), none,
  (.lits [(.t 35)] 2)⟩, ⟨(some 37), none, (.app (.t 32) (.t 36) 2 16)⟩, ⟨(some 38), none, (.calls (.f 97) [(.t 37)])⟩, ⟨(some 6), none, (.q (.mv (.t 38)))⟩, ⟨(some 7), none,
  (.q (.mv (.c (.int .i64 0))))⟩] [] [6, 7] [37, 1032, 1038]) .ret)))))
theorem mc62 : ofCode Try.prog [38] Try.f62.ntmps [(0, ⟨[0, 1, 2], [], [], 0, [], none⟩),
    (1, ⟨[0, 1, 2, 19], [1010], [], 0, [], none⟩),
    (2, ⟨[6, 7], [37, 1032, 1038], [], 0, [], none⟩),
    (3, ⟨[0, 1, 2, 8], [1022], [], 0, [], none⟩),
    (4, ⟨[0, 1, 2, 8, 29], [1022], [], 0, [], none⟩),
    (5, ⟨[6, 7], [37, 1032, 1038], [], 0, [], none⟩),
    (6, ⟨[6, 7], [37, 1032, 1038], [], 0, [], none⟩)] (Try.f62.body.getD .skip) = some M62 := by kernel_rfl
theorem Run62 {args : List PV} {v : AV} {rs : List (Nat × List PV)} (ids : List Bool) (h : args.length ≤ 39) (hv : run Try.prog (retK [RV.tmp 6, RV.tmp 7] ids v rs) M62 [] ⟨entry 0 args, []⟩) : Fn Try.prog 62 args v rs :=
  Fn_run ids (by kernel_rfl) Try.func62 (by decide) rfl mc62 (by kernel_rfl) (by rw [Try.ntmps62]; exact h) (by rw [Try.ntmps62]; decide) hv

/-- 'wheel.Ring' -/
def B54_0 : MC := (.seq (.reg [⟨(some 16), none, (.q (.bin .lss (.t 15) (.t 14)))⟩] [] [1, 6, 7, 13, 14, 15, 16] [26, 31, 2006, 2007]) (.seq (.cond (.t 16) .skip (.exit 0))
  (.seq (.block 1 (.seq (.reg [⟨(some 17), none, (.q (.ia (.t 13) (.t 15) 2))⟩, ⟨(some 18), none, (.q (.ld (.t 17) 2 true))⟩, ⟨(some 9), none, (.alloc [(.pv (.sc (.int .i64 0))),
  (.pv (.sc (.int .u64 0)))])⟩, ⟨none, none, (.st (.t 9) (.t 18) 2)⟩] [] [1, 6, 7, 9, 13, 14, 15] [9, 26, 31, 2006, 2007]) (.seq (.reg [⟨(some 19), none, (.q (.fa (.t 9) 0))⟩, ⟨(some 20), none,
  (.q (.ld (.t 19) 1 false))⟩, ⟨(some 21), none, (.q (.mv (.t 1)))⟩, ⟨(some 22), none, (.q (.bin .gtr (.t 20) (.t 21)))⟩] [] [1, 6, 7, 9, 13, 14, 15, 22] [9, 26, 31, 2006, 2007]) (.cond (.t 22)
  (.reg [⟨(some 23), none, (.q (.mv (.t 6)))⟩, ⟨(some 24), none, (.q (.ld (.t 9) 2 true))⟩, ⟨(some 25), none, (.lits [(.t 24)] 2)⟩, ⟨(some 26), none, (.app (.t 23) (.t 25) 2 16)⟩, ⟨(some 6), none,
  (.q (.mv (.t 26)))⟩] [] [1, 6, 7, 13, 14, 15] [26, 31, 2006, 2007]) (.reg [⟨(some 27), none, (.q (.mv (.t 7)))⟩, ⟨(some 28), none, (.q (.fa (.t 9) 1))⟩, ⟨(some 29), none, (.q (.ld (.t 28)
  1 false))⟩, ⟨(some 30), none, (.lits [(.t 29)] 1)⟩, ⟨(some 31), none, (.app (.t 27) (.t 30) 1 8)⟩, ⟨(some 7), none, (.q (.mv (.t 31)))⟩] [] [1, 6, 7, 13, 14, 15] [26, 31, 2006, 2007])))))
  (.reg [⟨(some 32), none, (.q (.bin .add (.t 15) (.c (.int .i64 1))))⟩, ⟨(some 15), none, (.q (.mv (.t 32)))⟩] [] [1, 6, 7, 13, 14, 15] [26, 31, 2006, 2007]))))
def R54_0 : MC := (.seq (.reg [⟨(some 33), none, (.q (.mv (.t 6)))⟩, ⟨(some 34), none, (.q (.mv (.t 7)))⟩, ⟨(some 4), none, (.q (.mv (.t 33)))⟩, ⟨(some 5), none, (.q (.mv (.t 34)))⟩] [] [4, 5] [26,
  31, 2006, 2007]) .ret)
def M54 : MC := (.seq (.reg [⟨(some 4), none, (.q (.mv .nil))⟩, ⟨(some 5), none, (.q (.mv .nil))⟩] [] [0, 1] []) (.seq (.seq (.reg [⟨(some 10), none, (.q (.mv (.t 0)))⟩, ⟨(some 11), none,
  (.call (.f 60) [(.t 10)])⟩, ⟨(some 12), none, (.q (.bin .neq (.t 11) (.c (.int .i64 0))))⟩] [] [0, 1, 12] [1011]) (.cond (.t 12) (.seq (.reg [⟨(some 4), none, (.q (.mv .nil))⟩, ⟨(some 5), none,
  (.q (.mv .nil))⟩] [] [4, 5] [26, 31, 2006, 2007]) .ret) .skip)) (.seq (.reg [⟨(some 6), none, (.q (.mv .nil))⟩] [(6, 2006, 2)] [0, 1, 6] [26, 2006]) (.seq (.reg [⟨(some 7), none,
  (.q (.mv .nil))⟩] [(7, 2007, 1)] [0, 1, 6, 7] [26, 31, 2006, 2007]) (.seq (.seq (.reg [⟨(some 13), none, (.q (.mv (.t 0)))⟩, ⟨(some 14), none, (.q (.len (.t 13) false))⟩, ⟨(some 15), none,
  (.q (.mv (.c (.int .i64 0))))⟩] [] [1, 6, 7, 13, 14, 15] [26, 31, 2006, 2007]) (.block 0 (.loop B54_0))) R54_0)))))
theorem mc54 : ofCode Try.prog [] Try.f54.ntmps [(0, ⟨[0, 1], [], [], 0, [], none⟩),
    (1, ⟨[0, 1, 12], [1011], [], 0, [], none⟩),
    (2, ⟨[4, 5], [26, 31, 2006, 2007], [], 0, [], none⟩),
    (3, ⟨[0, 1, 6], [26, 2006], [], 0, [(6, 2006, 2)], none⟩),
    (4, ⟨[0, 1, 6, 7], [26, 31, 2006, 2007], [], 0, [(7, 2007, 1)], none⟩),
    (5, ⟨[1, 6, 7, 13, 14, 15], [26, 31, 2006, 2007], [], 0, [], none⟩),
    (6, ⟨[1, 6, 7, 13, 14, 15, 16], [26, 31, 2006, 2007], [], 0, [], none⟩),
    (7, ⟨[1, 6, 7, 9, 13, 14, 15], [9, 26, 31, 2006, 2007], [], 0, [], none⟩),
    (8, ⟨[1, 6, 7, 9, 13, 14, 15, 22], [9, 26, 31, 2006, 2007], [], 0, [], none⟩),
    (9, ⟨[1, 6, 7, 13, 14, 15], [26, 31, 2006, 2007], [], 0, [], none⟩),
    (10, ⟨[1, 6, 7, 13, 14, 15], [26, 31, 2006, 2007], [], 0, [], none⟩),
    (11, ⟨[1, 6, 7, 13, 14, 15], [26, 31, 2006, 2007], [], 0, [], none⟩),
    (12, ⟨[4, 5], [26, 31, 2006, 2007], [], 0, [], none⟩)] (Try.f54.body.getD .skip) = some M54 := by kernel_rfl
theorem Run54 {args : List PV} {v : AV} {rs : List (Nat × List PV)} (ids : List Bool) (h : args.length ≤ 35) (hv : run Try.prog (retK [RV.tmp 4, RV.tmp 5] ids v rs) M54 [] ⟨entry 0 args, []⟩) : Fn Try.prog 54 args v rs :=
  Fn_run ids (by kernel_rfl) Try.func54 (by decide) rfl mc54 (by kernel_rfl) (by rw [Try.ntmps54]; exact h) (by rw [Try.ntmps54]; decide) hv






/-- 'trystlaw11.awake' -/
def M56 : MC := (.seq (.reg [⟨(some 0), none, (.q (.mv (.c (.bool false))))⟩] [] [] []) (.seq (.reg [⟨(some 11), none, (.call (.f 62) [.nil, (.c (.int .u64 1)), (.c (.int .i64 5))])⟩, ⟨(some 10),
  none, (.q (.mv (.t 11)))⟩, ⟨(some 12), none, (.q (.ext (.t 10) 0))⟩, ⟨(some 13), none, (.q (.ext (.t 10) 1))⟩, ⟨(some 1), none, (.q (.mv (.t 12)))⟩, ⟨(some 2), none, (.q (.mv (.t 13)))⟩] [] [1,
  2] [1011, 1016]) (.seq (.reg [⟨(some 15), none, (.q (.mv (.t 1)))⟩, ⟨(some 16), none, (.call (.f 62) [(.t 15), (.c (.int .u64 2)), (.c (.int .i64 3))])⟩, ⟨(some 14), none, (.q (.mv (.t 16)))⟩,
  ⟨(some 17), none, (.q (.ext (.t 14) 0))⟩, ⟨(some 18), none, (.q (.ext (.t 14) 1))⟩, ⟨(some 1), none, (.q (.mv (.t 17)))⟩, ⟨(some 3), none, (.q (.mv (.t 18)))⟩] [] [1, 2, 3] [1011, 1016])
  (.seq (.reg [⟨(some 20), none, (.q (.mv (.t 1)))⟩, ⟨(some 21), none, (.call (.f 54) [(.t 20), (.c (.int .i64 4))])⟩, ⟨(some 19), none, (.q (.mv (.t 21)))⟩, ⟨(some 22), none, (.q (.ext (.t 19) 0))⟩,
  ⟨(some 23), none, (.q (.ext (.t 19) 1))⟩, ⟨(some 4), none, (.q (.mv (.t 22)))⟩, ⟨(some 5), none, (.q (.mv (.t 23)))⟩] [] [1, 2, 3, 5] [1011, 1016, 1021]) (.seq (.reg [⟨(some 25), none,
  (.q (.mv (.t 1)))⟩, ⟨(some 26), none, (.call (.f 62) [(.t 25), (.c (.int .u64 2)), (.c (.int .i64 9))])⟩, ⟨(some 24), none, (.q (.mv (.t 26)))⟩, ⟨(some 27), none, (.q (.ext (.t 24) 0))⟩, ⟨(some 28),
  none, (.q (.ext (.t 24) 1))⟩, ⟨(some 6), none, (.q (.mv (.t 27)))⟩, ⟨(some 7), none, (.q (.mv (.t 28)))⟩] [] [1, 2, 3, 5, 6, 7] [1011, 1016, 1021, 1026]) (.seq (.reg [⟨(some 30), none,
  (.q (.mv (.t 1)))⟩, ⟨(some 31), none, (.call (.f 61) [(.t 30), (.c (.int .u64 7))])⟩, ⟨(some 29), none, (.q (.mv (.t 31)))⟩, ⟨(some 32), none, (.q (.ext (.t 29) 0))⟩, ⟨(some 33), none,
  (.q (.ext (.t 29) 1))⟩, ⟨(some 8), none, (.q (.mv (.t 32)))⟩, ⟨(some 9), none, (.q (.mv (.t 33)))⟩] [] [2, 3, 5, 6, 7, 9] [1011, 1016, 1021, 1026, 1031]) (.seq (.reg [⟨(some 34), none,
  (.q (.mv (.t 2)))⟩, ⟨(some 35), none, (.q (.bin .eql (.t 34) (.c (.int .i64 0))))⟩, ⟨(some 36), none, (.q (.mv (.t 35)))⟩, ⟨(some 37), (some (36, true)), (.q (.mv (.t 3)))⟩, ⟨(some 38), (some (36,
  true)), (.q (.bin .eql (.t 37) (.c (.int .i64 0))))⟩, ⟨(some 39), none, (.q (.pick (.t 36) (.t 38) (.c (.bool false))))⟩, ⟨(some 40), none, (.q (.mv (.t 39)))⟩, ⟨(some 41), (some (40, true)),
  (.q (.mv (.t 5)))⟩, ⟨(some 42), (some (40, true)), (.lits [(.c (.int .u64 2))] 1)⟩, ⟨(some 43), (some (40, true)), (.call (.f 59) [(.t 41), (.t 42)])⟩, ⟨(some 44), none, (.q (.pick (.t 40) (.t 43)
  (.c (.bool false))))⟩, ⟨(some 45), none, (.q (.mv (.t 44)))⟩, ⟨(some 46), (some (45, true)), (.q (.mv (.t 6)))⟩, ⟨(some 47), (some (45, true)), (.q (.len (.t 46) false))⟩, ⟨(some 48), (some (45,
  true)), (.q (.bin .eql (.t 47) (.c (.int .i64 2))))⟩, ⟨(some 49), none, (.q (.pick (.t 45) (.t 48) (.c (.bool false))))⟩, ⟨(some 50), none, (.q (.mv (.t 49)))⟩, ⟨(some 51), (some (50, true)),
  (.q (.mv (.t 7)))⟩, ⟨(some 52), (some (50, true)), (.q (.bin .eql (.t 51) (.c (.int .i64 0))))⟩, ⟨(some 53), none, (.q (.pick (.t 50) (.t 52) (.c (.bool false))))⟩, ⟨(some 54), none,
  (.q (.mv (.t 53)))⟩, ⟨(some 55), (some (54, true)), (.q (.mv (.t 9)))⟩, ⟨(some 56), (some (54, true)), (.q (.not (.t 55)))⟩, ⟨(some 57), none, (.q (.pick (.t 54) (.t 56) (.c (.bool false))))⟩,
  ⟨(some 58), none, (.q (.mv (.t 57)))⟩, ⟨(some 59), none, (.q (.pick (.t 58) (.c (.bool true)) (.c (.bool false))))⟩, ⟨(some 0), none, (.q (.mv (.t 59)))⟩] [] [0] [1011, 1016, 1026, 1031, 1043])
  .ret)))))))
theorem mc56 : ofCode Try.prog [] Try.f56.ntmps [(0, ⟨[], [], [], 0, [], none⟩),
    (1, ⟨[1, 2], [1011, 1016], [], 0, [], none⟩),
    (2, ⟨[1, 2, 3], [1011, 1016], [], 0, [], none⟩),
    (3, ⟨[1, 2, 3, 5], [1011, 1016, 1021], [], 0, [], none⟩),
    (4, ⟨[1, 2, 3, 5, 6, 7], [1011, 1016, 1021, 1026], [], 0, [], none⟩),
    (5, ⟨[2, 3, 5, 6, 7, 9], [1011, 1016, 1021, 1026, 1031], [], 0, [], none⟩),
    (6, ⟨[0], [1011, 1016, 1026, 1031, 1043], [], 0, [], none⟩)] (Try.f56.body.getD .skip) = some M56 := by kernel_rfl
theorem Run56 {args : List PV} {v : AV} {rs : List (Nat × List PV)} (ids : List Bool) (h : args.length ≤ 60) (hv : run Try.prog (retK [RV.tmp 0] ids v rs) M56 [] ⟨entry 0 args, []⟩) : Fn Try.prog 56 args v rs :=
  Fn_run ids (by kernel_rfl) Try.func56 (by decide) rfl mc56 (by kernel_rfl) (by rw [Try.ntmps56]; exact h) (by rw [Try.ntmps56]; decide) hv

end Go.Vc

namespace Go.Vc
open Go.Proofs
set_option linter.unusedSimpArgs false
set_option linter.unusedVariables false

/-! ## Timers -/
abbrev Tm.pv (x : Tm) : PV := .agg [pI x.at_, pU x.id]
abbrev tm (l : List Tm) : PV := .lst (l.map Tm.pv)
theorem wf_tm (l : List Tm) : WfL 2 (l.map Tm.pv) := wf_map (f := Tm.pv) (s := 2) (fun a => ⟨rfl, fun c hc => by
  simp only [PV.cells, List.mem_cons, List.not_mem_nil, or_false] at hc
  rcases hc with rfl | rfl <;> rfl⟩) l
def cmpT (a b : Tm) : Int := orL [cmpI a.at_ b.at_, cmpI a.id b.id]
theorem cmpI_lt {a b : Int} : cmpI a b < 0 ↔ a < b := by unfold cmpI; split <;> (try split) <;> simp <;> omega
theorem cmpI_eq {a b : Int} : cmpI a b = 0 ↔ a = b := by unfold cmpI; split <;> (try split) <;> simp <;> omega
theorem cmpT_val (a b : Tm) : cmpT a b = if cmpI a.at_ b.at_ ≠ 0 then cmpI a.at_ b.at_ else cmpI a.id b.id := by
  unfold cmpT orL
  by_cases h : cmpI a.at_ b.at_ = 0
  · by_cases h2 : cmpI a.id b.id = 0 <;> simp [List.find?_cons, h, h2]
  · simp [List.find?_cons, h]
theorem cmpT_lt {a b : Tm} : cmpT a b < 0 ↔ ltT a b = true := by
  rw [cmpT_val, ltT_iff]
  by_cases h : cmpI a.at_ b.at_ = 0
  · rw [if_neg (by simpa using h), cmpI_lt]
    have := cmpI_eq.1 h
    omega
  · rw [if_pos h, cmpI_lt]
    have : ¬ a.at_ = b.at_ := fun e => h (cmpI_eq.2 e)
    omega
theorem ltOf_T (a b : Tm) : Go.Proofs.ltOf cmpT a b = ltT a b := by
  unfold Go.Proofs.ltOf
  rw [Bool.eq_iff_iff, decide_eq_true_eq, cmpT_lt]
theorem swo_T : Go.Sort.SWO (Go.Proofs.ltOf cmpT) := by
  refine ⟨fun x => ?_, fun x y z h1 h2 => ?_, fun x y z h1 h2 => ?_⟩
  · rw [ltOf_T]; simp [ltT]
  · rw [ltOf_T] at *
    rw [ltT_iff] at *
    omega
  · rw [ltOf_T] at *
    simp only [ltT, Bool.or_eq_false_iff, Bool.and_eq_false_iff, decide_eq_false_iff_not] at *
    omega
theorem fn94 (a b : Tm) : Fn Try.prog 94 [a.pv, b.pv] (.pv (pI (cmpT a b))) [] := by
  refine Run94 [] (by simp) ?_
  simp only [go_sem, Nat.reduceEqDiff, Nat.reduceBEq, Nat.reduceAdd, Nat.reduceMul, Nat.reduceSub, Nat.reduceLeDiff, Nat.reduceLT, reduceIte, reduceCtorEq, Int.reduceToNat, Int.reduceLE, Int.reduceLT, Int.reduceNeg, Bool.not_not, and_self, Bool.and_eq_false_iff, Int.cast_ofNat_Int, Int.reduceAdd, Int.reduceSub, Int.reduceMul, Int.reduceEq, Int.reduceNe, M94]
  refine runR_callf (by simp only [go_sem, Nat.reduceEqDiff, Nat.reduceBEq, Nat.reduceAdd, Nat.reduceMul, Nat.reduceSub, Nat.reduceLeDiff, Nat.reduceLT, reduceIte, reduceCtorEq, Int.reduceToNat, Int.reduceLE, Int.reduceLT, Int.reduceNeg, Bool.not_not, and_self, Bool.and_eq_false_iff, Int.cast_ofNat_Int, Int.reduceAdd, Int.reduceSub, Int.reduceMul, Int.reduceEq, Int.reduceNe]) (by simp only [go_sem, Nat.reduceEqDiff, Nat.reduceBEq, Nat.reduceAdd, Nat.reduceMul, Nat.reduceSub, Nat.reduceLeDiff, Nat.reduceLT, reduceIte, reduceCtorEq, Int.reduceToNat, Int.reduceLE, Int.reduceLT, Int.reduceNeg, Bool.not_not, and_self, Bool.and_eq_false_iff, Int.cast_ofNat_Int, Int.reduceAdd, Int.reduceSub, Int.reduceMul, Int.reduceEq, Int.reduceNe] <;> rfl) (fn78 a.at_ b.at_) ⟨rfl, trivial⟩ trivial ?_
  simp only [go_sem, Nat.reduceEqDiff, Nat.reduceBEq, Nat.reduceAdd, Nat.reduceMul, Nat.reduceSub, Nat.reduceLeDiff, Nat.reduceLT, reduceIte, reduceCtorEq, Int.reduceToNat, Int.reduceLE, Int.reduceLT, Int.reduceNeg, Bool.not_not, and_self, Bool.and_eq_false_iff, Int.cast_ofNat_Int, Int.reduceAdd, Int.reduceSub, Int.reduceMul, Int.reduceEq, Int.reduceNe]
  refine runR_callf (by simp only [go_sem, Nat.reduceEqDiff, Nat.reduceBEq, Nat.reduceAdd, Nat.reduceMul, Nat.reduceSub, Nat.reduceLeDiff, Nat.reduceLT, reduceIte, reduceCtorEq, Int.reduceToNat, Int.reduceLE, Int.reduceLT, Int.reduceNeg, Bool.not_not, and_self, Bool.and_eq_false_iff, Int.cast_ofNat_Int, Int.reduceAdd, Int.reduceSub, Int.reduceMul, Int.reduceEq, Int.reduceNe]) (by simp only [go_sem, Nat.reduceEqDiff, Nat.reduceBEq, Nat.reduceAdd, Nat.reduceMul, Nat.reduceSub, Nat.reduceLeDiff, Nat.reduceLT, reduceIte, reduceCtorEq, Int.reduceToNat, Int.reduceLE, Int.reduceLT, Int.reduceNeg, Bool.not_not, and_self, Bool.and_eq_false_iff, Int.cast_ofNat_Int, Int.reduceAdd, Int.reduceSub, Int.reduceMul, Int.reduceEq, Int.reduceNe] <;> rfl) (fn79 a.id b.id) ⟨rfl, trivial⟩ trivial ?_
  simp only [go_sem, Nat.reduceEqDiff, Nat.reduceBEq, Nat.reduceAdd, Nat.reduceMul, Nat.reduceSub, Nat.reduceLeDiff, Nat.reduceLT, reduceIte, reduceCtorEq, Int.reduceToNat, Int.reduceLE, Int.reduceLT, Int.reduceNeg, Bool.not_not, and_self, Bool.and_eq_false_iff, Int.cast_ofNat_Int, Int.reduceAdd, Int.reduceSub, Int.reduceMul, Int.reduceEq, Int.reduceNe]
  refine runR_callf (by simp only [go_sem, Nat.reduceEqDiff, Nat.reduceBEq, Nat.reduceAdd, Nat.reduceMul, Nat.reduceSub, Nat.reduceLeDiff, Nat.reduceLT, reduceIte, reduceCtorEq, Int.reduceToNat, Int.reduceLE, Int.reduceLT, Int.reduceNeg, Bool.not_not, and_self, Bool.and_eq_false_iff, Int.cast_ofNat_Int, Int.reduceAdd, Int.reduceSub, Int.reduceMul, Int.reduceEq, Int.reduceNe]) (by simp only [go_sem, Nat.reduceEqDiff, Nat.reduceBEq, Nat.reduceAdd, Nat.reduceMul, Nat.reduceSub, Nat.reduceLeDiff, Nat.reduceLT, reduceIte, reduceCtorEq, Int.reduceToNat, Int.reduceLE, Int.reduceLT, Int.reduceNeg, Bool.not_not, and_self, Bool.and_eq_false_iff, Int.cast_ofNat_Int, Int.reduceAdd, Int.reduceSub, Int.reduceMul, Int.reduceEq, Int.reduceNe] <;> rfl) (fn77 [cmpI a.at_ b.at_, cmpI a.id b.id] (by simp)) ⟨rfl, trivial⟩ trivial ?_
  simp only [go_sem, Nat.reduceEqDiff, Nat.reduceBEq, Nat.reduceAdd, Nat.reduceMul, Nat.reduceSub, Nat.reduceLeDiff, Nat.reduceLT, reduceIte, reduceCtorEq, Int.reduceToNat, Int.reduceLE, Int.reduceLT, Int.reduceNeg, Bool.not_not, and_self, Bool.and_eq_false_iff, Int.cast_ofNat_Int, Int.reduceAdd, Int.reduceSub, Int.reduceMul, Int.reduceEq, Int.reduceNe]
  rfl
/-! ### 'slices.SortFunc' of timers -/
def renS : Go.Shelf.Ren := ⟨fun n => if n = 6 then 112 else if n = 14 then 120 else if n = 15 then 121 else if n = 20 then 127 else if n = 21 then 128 else if n = 22 then 129 else if n = 23 then 130 else if n = 24 then 131 else if n = 25 then 132 else
    if n = 26 then 133 else if n = 27 then 134 else if n = 28 then 135 else if n = 29 then 136 else if n = 46 then 142 else if n = 47 then 143 else if n = 48 then 144 else if n = 49 then 145 else if n = 50 then 146 else if n = 57 then 149 else n,
  fun t => if t = 22 then 147 else if t = 24 then 132 else if t = 25 then 149 else if t = 39 then 143 else if t = 45 then 162 else if t = 46 then 163 else if t = 50 then 97 else if t = 53 then 33 else if t = 55 then 23 else if t = 66 then 172 else
    if t = 70 then 176 else if t = 76 then 180 else if t = 77 then 63 else t, fun g => g⟩
theorem laysS : SlLaysF0.n6 Try.prog renS where
  mixed := by kernel_rfl
  f6 := ⟨Try.f112.name, by decide, by kernel_rfl⟩
  f14 := ⟨Try.f120.name, by decide, by kernel_rfl⟩
  f15 := by kernel_rfl
  f20 := ⟨Try.f127.name, by decide, by kernel_rfl⟩
  f21 := ⟨Try.f128.name, by decide, by kernel_rfl⟩
  f22 := ⟨Try.f129.name, by decide, by kernel_rfl⟩
  f23 := ⟨Try.f130.name, by decide, by kernel_rfl⟩
  f24 := ⟨Try.f131.name, by decide, by kernel_rfl⟩
  f25 := ⟨Try.f132.name, by decide, by kernel_rfl⟩
  f26 := ⟨Try.f133.name, by decide, by kernel_rfl⟩
  f27 := ⟨Try.f134.name, by decide, by kernel_rfl⟩
  f28 := by kernel_rfl
  f29 := by kernel_rfl
  f46 := ⟨Try.f142.name, by decide, by kernel_rfl⟩
  f47 := by kernel_rfl
  f48 := by kernel_rfl
  f49 := ⟨Try.f145.name, by decide, by kernel_rfl⟩
  f50 := ⟨Try.f146.name, by decide, by kernel_rfl⟩
  f57 := ⟨Try.f149.name, by decide, by kernel_rfl⟩
  t0 := by kernel_rfl
  a0 := fun w => by kernel_rfl
  z0 := fun w => by kernel_rfl
  v0 := fun w => by kernel_rfl
  t3 := by kernel_rfl
  a3 := fun w => by kernel_rfl
  z3 := fun w => by kernel_rfl
  v3 := fun w => by kernel_rfl
  t4 := by kernel_rfl
  a4 := fun w => by kernel_rfl
  z4 := fun w => by kernel_rfl
  v4 := fun w => by kernel_rfl
  t5 := by kernel_rfl
  a5 := fun w => by kernel_rfl
  z5 := fun w => by kernel_rfl
  v5 := fun w => by kernel_rfl
  t9 := by kernel_rfl
  a9 := fun w => by kernel_rfl
  z9 := fun w => by kernel_rfl
  v9 := fun w => by kernel_rfl
  t22 := by kernel_rfl
  a22 := fun w => by kernel_rfl
  z22 := fun w => by kernel_rfl
  v22 := fun w => by kernel_rfl
  t25 := by kernel_rfl
  a25 := fun w => by kernel_rfl
  z25 := fun w => by kernel_rfl
  v25 := fun w => by kernel_rfl
  t39 := by kernel_rfl
  a39 := fun w => by kernel_rfl
  z39 := fun w => by kernel_rfl
  v39 := fun w => by kernel_rfl
  t45 := by kernel_rfl
  a45 := fun w => by kernel_rfl
  z45 := fun w => by kernel_rfl
  v45 := fun w => by kernel_rfl
  t46 := by kernel_rfl
  a46 := fun w => by kernel_rfl
  z46 := fun w => by kernel_rfl
  v46 := fun w => by kernel_rfl
  t50 := by kernel_rfl
  a50 := fun w => by kernel_rfl
  z50 := fun w => by kernel_rfl
  v50 := fun w => by kernel_rfl
  t53 := by kernel_rfl
  a53 := fun w => by kernel_rfl
  z53 := fun w => by kernel_rfl
  v53 := fun w => by kernel_rfl
  t55 := by kernel_rfl
  a55 := fun w => by kernel_rfl
  z55 := fun w => by kernel_rfl
  v55 := fun w => by kernel_rfl
  t66 := by kernel_rfl
  a66 := fun w => by kernel_rfl
  z66 := fun w => by kernel_rfl
  v66 := fun w => by kernel_rfl
  t70 := by kernel_rfl
  a70 := fun w => by kernel_rfl
  z70 := fun w => by kernel_rfl
  v70 := fun w => by kernel_rfl
  t76 := by kernel_rfl
  a76 := fun w => by kernel_rfl
  z76 := fun w => by kernel_rfl
  v76 := fun w => by kernel_rfl
  t77 := by kernel_rfl
  a77 := fun w => by kernel_rfl
  z77 := fun w => by kernel_rfl
  v77 := fun w => by kernel_rfl
theorem fnS112 (d : List Tm) (hd : d.length < 1000000) : FnS Try.prog 112 [.row 200000 0 d.length, .fn 94 []] [(200000, .sl 2 (d.map Tm.pv))] (.tup []) [(200000, .sl 2 ((d.mergeSort fun x y => !ltT y x).map Tm.pv))] := by
  have h := fnS_sort (P := Try.prog) (ρ := renS) (pv := Tm.pv) (enc := fun x => [Value.int .i64 x.at_, Value.int .u64 x.id]) (k := 2) laysS (fun w => by kernel_rfl) (fun w => by kernel_rfl) (by omega) (fun x => rfl) (fun x => rfl)
    (fun x v hv => by simp only [List.mem_cons, List.not_mem_nil, or_false] at hv; rcases hv with rfl | rfl <;> rfl) cmpT swo_T (fun x y h1 h2 => by rw [ltOf_T] at h1 h2; exact ltT_tot h1 h2) (g := 94) fn94 d hd 200000
  have e : (fun x y : Tm => !(Go.Proofs.ltOf cmpT) y x) = fun x y => !ltT y x := by funext x y; rw [ltOf_T]
  rw [e] at h
  exact h
end Go.Vc

namespace Go.Vc
open Go.Proofs
set_option linter.unusedSimpArgs false
set_option linter.unusedVariables false

/-! ## What is done with timers, by their code -/
theorem fn111 (x : Tm) (n : Int) : Fn Try.prog 111 [x.pv, .pt [pU n]] (.pv (pB (decide (x.id = n)))) [] := by
  refine Run111 [] (by simp) ?_
  simp only [go_sem, Nat.reduceEqDiff, Nat.reduceBEq, Nat.reduceAdd, Nat.reduceMul, Nat.reduceSub, Nat.reduceLeDiff, Nat.reduceLT, reduceIte, reduceCtorEq, Int.reduceToNat, Int.reduceLE, Int.reduceLT, Int.reduceNeg, Bool.not_not, and_self, Bool.and_eq_false_iff, Int.cast_ofNat_Int, Int.reduceAdd, Int.reduceSub, Int.reduceMul, Int.reduceEq, Int.reduceNe, M111]
theorem fn110 (l : List Tm) (g : Nat) (caps : List PV) (q : Tm → Bool) (hl : l.length < 100000) (hg : ∀ k ∈ l, Fn Try.prog g (k.pv :: caps) (.pv (pB (q k))) []) :
    Fn Try.prog 110 [tm l, .fn g caps] (.pv (pI (idxA q l))) [] := by
  refine Run110 [] (by simp) ?_
  simp only [go_sem, Nat.reduceEqDiff, Nat.reduceBEq, Nat.reduceAdd, Nat.reduceMul, Nat.reduceSub, Nat.reduceLeDiff, Nat.reduceLT, reduceIte, reduceCtorEq, Int.reduceToNat, Int.reduceLE, Int.reduceLT, Int.reduceNeg, Bool.not_not, and_self, Bool.and_eq_false_iff, Int.cast_ofNat_Int, Int.reduceAdd, Int.reduceSub, Int.reduceMul, Int.reduceEq, Int.reduceNe, M110]
  refine run_loop (T := Nat) (fun i => ⟨[(0, .pv (tm l)), (1, .pv (.fn g caps)), (7, .pv (pI l.length)), (8, .pv (pI i))], []⟩) (fun i => i ≤ l.length ∧ ∀ j (h : j < l.length), j < i → q l[j] = false) (fun i => l.length - i) 0 rfl ⟨Nat.zero_le _, fun j _ h => absurd h (by omega)⟩ ?_
  intro i ⟨hi, hq⟩
  by_cases hlt : i < l.length
  · simp only [go_sem, Nat.reduceEqDiff, Nat.reduceBEq, Nat.reduceAdd, Nat.reduceMul, Nat.reduceSub, Nat.reduceLeDiff, Nat.reduceLT, reduceIte, reduceCtorEq, Int.reduceToNat, Int.reduceLE, Int.reduceLT, Int.reduceNeg, Bool.not_not, and_self, Bool.and_eq_false_iff, Int.cast_ofNat_Int, Int.reduceAdd, Int.reduceSub, Int.reduceMul, Int.reduceEq, Int.reduceNe, B110_0, wf_tm, getD_map hlt, show (i : Int) < (l.length : Int) by omega]
    refine runR_callf (by simp only [go_sem, Nat.reduceEqDiff, Nat.reduceBEq, Nat.reduceAdd, Nat.reduceMul, Nat.reduceSub, Nat.reduceLeDiff, Nat.reduceLT, reduceIte, reduceCtorEq, Int.reduceToNat, Int.reduceLE, Int.reduceLT, Int.reduceNeg, Bool.not_not, and_self, Bool.and_eq_false_iff, Int.cast_ofNat_Int, Int.reduceAdd, Int.reduceSub, Int.reduceMul, Int.reduceEq, Int.reduceNe]) (by simp only [go_sem, Nat.reduceEqDiff, Nat.reduceBEq, Nat.reduceAdd, Nat.reduceMul, Nat.reduceSub, Nat.reduceLeDiff, Nat.reduceLT, reduceIte, reduceCtorEq, Int.reduceToNat, Int.reduceLE, Int.reduceLT, Int.reduceNeg, Bool.not_not, and_self, Bool.and_eq_false_iff, Int.cast_ofNat_Int, Int.reduceAdd, Int.reduceSub, Int.reduceMul, Int.reduceEq, Int.reduceNe, snapL_pv _ 3]) (hg _ (List.getElem_mem hlt)) ⟨rfl, trivial⟩ trivial ?_
    simp only [go_sem, Nat.reduceEqDiff, Nat.reduceBEq, Nat.reduceAdd, Nat.reduceMul, Nat.reduceSub, Nat.reduceLeDiff, Nat.reduceLT, reduceIte, reduceCtorEq, Int.reduceToNat, Int.reduceLE, Int.reduceLT, Int.reduceNeg, Bool.not_not, and_self, Bool.and_eq_false_iff, Int.cast_ofNat_Int, Int.reduceAdd, Int.reduceSub, Int.reduceMul, Int.reduceEq, Int.reduceNe]
    refine ⟨fun hq1 => ?_, fun hq0 => ⟨⟨by omega, by omega⟩, i + 1, rfl, ⟨hlt, fun j hj hji => ?_⟩, by omega⟩⟩
    · rw [idxA_yes hlt hq1 hq]
    · by_cases hj2 : j = i
      · subst hj2; exact hq0
      · exact hq j hj (by omega)
  · simp only [go_sem, Nat.reduceEqDiff, Nat.reduceBEq, Nat.reduceAdd, Nat.reduceMul, Nat.reduceSub, Nat.reduceLeDiff, Nat.reduceLT, reduceIte, reduceCtorEq, Int.reduceToNat, Int.reduceLE, Int.reduceLT, Int.reduceNeg, Bool.not_not, and_self, Bool.and_eq_false_iff, Int.cast_ofNat_Int, Int.reduceAdd, Int.reduceSub, Int.reduceMul, Int.reduceEq, Int.reduceNe, B110_0, R110_0, show ¬ ((i : Int) < (l.length : Int)) by omega]
    rw [idxA_no fun j hj => hq j hj (by omega)]
theorem fn95 (l : List Tm) (n : Int) (hl : l.length < 100000) : Fn Try.prog 95 [tm l, pU n] (.pv (pI (findT l n))) [] := by
  refine Run95 [] (by simp) ?_
  simp only [go_sem, Nat.reduceEqDiff, Nat.reduceBEq, Nat.reduceAdd, Nat.reduceMul, Nat.reduceSub, Nat.reduceLeDiff, Nat.reduceLT, reduceIte, reduceCtorEq, Int.reduceToNat, Int.reduceLE, Int.reduceLT, Int.reduceNeg, Bool.not_not, and_self, Bool.and_eq_false_iff, Int.cast_ofNat_Int, Int.reduceAdd, Int.reduceSub, Int.reduceMul, Int.reduceEq, Int.reduceNe, M95]
  refine runR_callf (by simp only [go_sem, Nat.reduceEqDiff, Nat.reduceBEq, Nat.reduceAdd, Nat.reduceMul, Nat.reduceSub, Nat.reduceLeDiff, Nat.reduceLT, reduceIte, reduceCtorEq, Int.reduceToNat, Int.reduceLE, Int.reduceLT, Int.reduceNeg, Bool.not_not, and_self, Bool.and_eq_false_iff, Int.cast_ofNat_Int, Int.reduceAdd, Int.reduceSub, Int.reduceMul, Int.reduceEq, Int.reduceNe]) (by simp only [go_sem, Nat.reduceEqDiff, Nat.reduceBEq, Nat.reduceAdd, Nat.reduceMul, Nat.reduceSub, Nat.reduceLeDiff, Nat.reduceLT, reduceIte, reduceCtorEq, Int.reduceToNat, Int.reduceLE, Int.reduceLT, Int.reduceNeg, Bool.not_not, and_self, Bool.and_eq_false_iff, Int.cast_ofNat_Int, Int.reduceAdd, Int.reduceSub, Int.reduceMul, Int.reduceEq, Int.reduceNe] <;> rfl) (fn110 l 111 [.pt [pU n]] (fun x => decide (x.id = n)) hl (fun x hx => fn111 x n)) ⟨rfl, trivial⟩ trivial ?_
  simp only [go_sem, Nat.reduceEqDiff, Nat.reduceBEq, Nat.reduceAdd, Nat.reduceMul, Nat.reduceSub, Nat.reduceLeDiff, Nat.reduceLT, reduceIte, reduceCtorEq, Int.reduceToNat, Int.reduceLE, Int.reduceLT, Int.reduceNeg, Bool.not_not, and_self, Bool.and_eq_false_iff, Int.cast_ofNat_Int, Int.reduceAdd, Int.reduceSub, Int.reduceMul, Int.reduceEq, Int.reduceNe]
  rfl
theorem fn96 (l : List Tm) (p : Int) (hl : l.length < 100000) : Fn Try.prog 96 [tm l, pI p] (.row 0 0 (woT l p).length) [(2, (woT l p).map Tm.pv)] := by
  refine Run96 [true] (by simp) ?_
  simp only [go_sem, Nat.reduceEqDiff, Nat.reduceBEq, Nat.reduceAdd, Nat.reduceMul, Nat.reduceSub, Nat.reduceLeDiff, Nat.reduceLT, reduceIte, reduceCtorEq, Int.reduceToNat, Int.reduceLE, Int.reduceLT, Int.reduceNeg, Bool.not_not, and_self, Bool.and_eq_false_iff, Int.cast_ofNat_Int, Int.reduceAdd, Int.reduceSub, Int.reduceMul, Int.reduceEq, Int.reduceNe, M96]
  refine ⟨⟨by omega, by omega⟩, ⟨by omega, by omega⟩, ?_⟩
  refine run_loop (T := Nat) (fun i => ⟨[(1, .pv (pI p)), (5, .row 11 0 (woT (l.take i) p).length), (12, .pv (tm l)), (13, .pv (pI l.length)), (14, .pv (pI i))], [(11, .sl 2 ((woT (l.take i) p).map Tm.pv))]⟩) (fun i => i ≤ l.length) (fun i => l.length - i) 0 (by rw [List.take_zero, show woT [] p = [] by unfold woT; split <;> rfl]; rfl) (Nat.zero_le _) ?_
  intro i hi
  have hle := woT_le (l.take i) p
  rw [List.length_take] at hle
  by_cases hlt : i < l.length
  · have hsn := woT_snoc (p := p) hlt
    have tk := take_len_map Tm.pv (woT (l.take i) p)
    simp only [go_sem, Nat.reduceEqDiff, Nat.reduceBEq, Nat.reduceAdd, Nat.reduceMul, Nat.reduceSub, Nat.reduceLeDiff, Nat.reduceLT, reduceIte, reduceCtorEq, Int.reduceToNat, Int.reduceLE, Int.reduceLT, Int.reduceNeg, Bool.not_not, and_self, Bool.and_eq_false_iff, Int.cast_ofNat_Int, Int.reduceAdd, Int.reduceSub, Int.reduceMul, Int.reduceEq, Int.reduceNe, B96_0, wf_tm, getD_map hlt, show (i : Int) < (l.length : Int) by omega]
    refine ⟨fun h => ⟨⟨wf_tm [l[i]], by omega, by omega⟩, ⟨by omega, by omega⟩, i + 1, ?_, by omega, by omega⟩, fun h => ⟨⟨by omega, by omega⟩, i + 1, ?_, by omega, by omega⟩⟩
    · rw [hsn, if_neg h, tk, List.map_append, List.length_append]; rfl
    · rw [hsn, if_pos h]; rfl
  · simp only [go_sem, Nat.reduceEqDiff, Nat.reduceBEq, Nat.reduceAdd, Nat.reduceMul, Nat.reduceSub, Nat.reduceLeDiff, Nat.reduceLT, reduceIte, reduceCtorEq, Int.reduceToNat, Int.reduceLE, Int.reduceLT, Int.reduceNeg, Bool.not_not, and_self, Bool.and_eq_false_iff, Int.cast_ofNat_Int, Int.reduceAdd, Int.reduceSub, Int.reduceMul, Int.reduceEq, Int.reduceNe, B96_0, R96_0, show ¬ ((i : Int) < (l.length : Int)) by omega]
    have : i = l.length := by omega
    subst this
    rw [List.take_length]
    simp
theorem fill_set {A : List Tm} {z p : PV} {k : Nat} : (A.map Tm.pv ++ List.replicate (k + 1) z).set A.length p = A.map Tm.pv ++ p :: List.replicate k z := by
  rw [List.set_append_right _ _ (by simp)]
  simp [List.replicate_succ]
theorem fill_get {A : List Tm} {z : PV} {k : Nat} : (A.map Tm.pv ++ List.replicate (k + 1) z).getD A.length default = z := by
  simp [List.getD_eq_getElem?_getD, List.getElem?_append_right, List.replicate_succ]
abbrev zT : PV := .agg [pI 0, pU 0]
theorem fnS97 (l : List Tm) (hl : l.length < 200000) : FnS Try.prog 97 [.row 0 0 l.length] [(0, .sl 2 (l.map Tm.pv))] (.pv (tm (l.mergeSort fun x y => !ltT y x))) [] := by
  refine RunS97 (by simp) (by simp) ?_
  simp only [go_sem, Nat.reduceEqDiff, Nat.reduceBEq, Nat.reduceAdd, Nat.reduceMul, Nat.reduceSub, Nat.reduceLeDiff, Nat.reduceLT, reduceIte, reduceCtorEq, Int.reduceToNat, Int.reduceLE, Int.reduceLT, Int.reduceNeg, Bool.not_not, and_self, Bool.and_eq_false_iff, Int.cast_ofNat_Int, Int.reduceAdd, Int.reduceSub, Int.reduceMul, Int.reduceEq, Int.reduceNe, M97]
  refine ⟨⟨by omega, by omega, by omega⟩, ?_⟩
  refine run_loop (T := Nat) (fun i => ⟨[(0, .row 0 0 l.length), (3, .row 11 0 l.length), (12, .row 0 0 l.length), (13, .pv (pI l.length)), (14, .pv (pI i))], [(0, .sl 2 (l.map Tm.pv)), (11, .sl 2 ((l.take i).map Tm.pv ++ List.replicate (l.length - i) zT))]⟩) (fun i => i ≤ l.length) (fun i => l.length - i) 0 rfl (Nat.zero_le _) ?_
  intro i hi
  have hil : (l.take i).length = i := by simp; omega
  by_cases hlt : i < l.length
  · obtain ⟨k, hk⟩ : ∃ k, l.length - i = k + 1 := ⟨l.length - i - 1, by omega⟩
    have hset := fill_set (A := l.take i) (z := zT) (p := Tm.pv l[i]) (k := k)
    have hget := fill_get (A := l.take i) (z := zT) (k := k)
    rw [hil] at hset hget
    rw [hk]
    simp only [go_sem, Nat.reduceEqDiff, Nat.reduceBEq, Nat.reduceAdd, Nat.reduceMul, Nat.reduceSub, Nat.reduceLeDiff, Nat.reduceLT, reduceIte, reduceCtorEq, Int.reduceToNat, Int.reduceLE, Int.reduceLT, Int.reduceNeg, Bool.not_not, and_self, Bool.and_eq_false_iff, Int.cast_ofNat_Int, Int.reduceAdd, Int.reduceSub, Int.reduceMul, Int.reduceEq, Int.reduceNe, B97_0, wf_tm, getD_map hlt, show (i : Int) < (l.length : Int) by omega, hget, hset]
    refine ⟨hlt, by simp; omega, ⟨by omega, by omega⟩, i + 1, ?_, by omega, by omega⟩
    rw [take_snoc hlt, List.map_append, show l.length - (i + 1) = k by omega, List.append_assoc]
    rfl
  · simp only [go_sem, Nat.reduceEqDiff, Nat.reduceBEq, Nat.reduceAdd, Nat.reduceMul, Nat.reduceSub, Nat.reduceLeDiff, Nat.reduceLT, reduceIte, reduceCtorEq, Int.reduceToNat, Int.reduceLE, Int.reduceLT, Int.reduceNeg, Bool.not_not, and_self, Bool.and_eq_false_iff, Int.cast_ofNat_Int, Int.reduceAdd, Int.reduceSub, Int.reduceMul, Int.reduceEq, Int.reduceNe, B97_0, R97_0, show ¬ ((i : Int) < (l.length : Int)) by omega]
    have : i = l.length := by omega
    subst this
    rw [List.take_length, Nat.sub_self, List.replicate_zero, List.append_nil]
    refine runR_calls (fun _ => 11) (by simp only [go_sem, Nat.reduceEqDiff, Nat.reduceBEq, Nat.reduceAdd, Nat.reduceMul, Nat.reduceSub, Nat.reduceLeDiff, Nat.reduceLT, reduceIte, reduceCtorEq, Int.reduceToNat, Int.reduceLE, Int.reduceLT, Int.reduceNeg, Bool.not_not, and_self, Bool.and_eq_false_iff, Int.cast_ofNat_Int, Int.reduceAdd, Int.reduceSub, Int.reduceMul, Int.reduceEq, Int.reduceNe]) (by simp only [go_sem, Nat.reduceEqDiff, Nat.reduceBEq, Nat.reduceAdd, Nat.reduceMul, Nat.reduceSub, Nat.reduceLeDiff, Nat.reduceLT, reduceIte, reduceCtorEq, Int.reduceToNat, Int.reduceLE, Int.reduceLT, Int.reduceNeg, Bool.not_not, and_self, Bool.and_eq_false_iff, Int.cast_ofNat_Int, Int.reduceAdd, Int.reduceSub, Int.reduceMul, Int.reduceEq, Int.reduceNe] <;> rfl) (fnS112 l (by omega)) rfl (by intro e he; simp only [List.mem_cons, List.not_mem_nil, or_false] at he; subst he; simp only [go_sem, Nat.reduceEqDiff, Nat.reduceBEq, Nat.reduceAdd, Nat.reduceMul, Nat.reduceSub, Nat.reduceLeDiff, Nat.reduceLT, reduceIte, reduceCtorEq, Int.reduceToNat, Int.reduceLE, Int.reduceLT, Int.reduceNeg, Bool.not_not, and_self, Bool.and_eq_false_iff, Int.cast_ofNat_Int, Int.reduceAdd, Int.reduceSub, Int.reduceMul, Int.reduceEq, Int.reduceNe]) (by simp) (by simp) (by simp) (by intro e he _; decide) ?_
    have hsl := List.length_mergeSort (le := fun x y : Tm => !ltT y x) l
    generalize (l.mergeSort fun x y => !ltT y x) = s at hsl ⊢
    simp only [go_sem, Nat.reduceEqDiff, Nat.reduceBEq, Nat.reduceAdd, Nat.reduceMul, Nat.reduceSub, Nat.reduceLeDiff, Nat.reduceLT, reduceIte, reduceCtorEq, Int.reduceToNat, Int.reduceLE, Int.reduceLT, Int.reduceNeg, Bool.not_not, and_self, Bool.and_eq_false_iff, Int.cast_ofNat_Int, Int.reduceAdd, Int.reduceSub, Int.reduceMul, Int.reduceEq, Int.reduceNe]
    refine ⟨⟨by omega, by omega, by omega⟩, ?_⟩
    refine run_loop (T := Nat) (fun i => ⟨[(6, .row 28 0 l.length), (29, .row 11 0 l.length), (30, .pv (pI l.length)), (31, .pv (pI i))], [(0, .sl 2 (l.map Tm.pv)), (11, .sl 2 (s.map Tm.pv)), (28, .sl 2 ((s.take i).map Tm.pv ++ List.replicate (s.length - i) zT))]⟩) (fun i => i ≤ s.length) (fun i => s.length - i) 0 (by rw [hsl]; rfl) (Nat.zero_le _) ?_
    intro i hi
    have hil : (s.take i).length = i := by simp; omega
    by_cases hlt : i < s.length
    · obtain ⟨k, hk⟩ : ∃ k, s.length - i = k + 1 := ⟨s.length - i - 1, by omega⟩
      have hset := fill_set (A := s.take i) (z := zT) (p := Tm.pv s[i]) (k := k)
      have hget := fill_get (A := s.take i) (z := zT) (k := k)
      rw [hil] at hset hget
      rw [hk]
      simp only [go_sem, Nat.reduceEqDiff, Nat.reduceBEq, Nat.reduceAdd, Nat.reduceMul, Nat.reduceSub, Nat.reduceLeDiff, Nat.reduceLT, reduceIte, reduceCtorEq, Int.reduceToNat, Int.reduceLE, Int.reduceLT, Int.reduceNeg, Bool.not_not, and_self, Bool.and_eq_false_iff, Int.cast_ofNat_Int, Int.reduceAdd, Int.reduceSub, Int.reduceMul, Int.reduceEq, Int.reduceNe, B97_1, wf_tm, getD_map hlt, show (i : Int) < (l.length : Int) by omega, hget, hset]
      refine ⟨hlt, by simp; omega, ⟨by omega, by omega⟩, i + 1, ?_, by omega, by omega⟩
      rw [take_snoc hlt, List.map_append, show s.length - (i + 1) = k by omega, List.append_assoc]
      rfl
    · simp only [go_sem, Nat.reduceEqDiff, Nat.reduceBEq, Nat.reduceAdd, Nat.reduceMul, Nat.reduceSub, Nat.reduceLeDiff, Nat.reduceLT, reduceIte, reduceCtorEq, Int.reduceToNat, Int.reduceLE, Int.reduceLT, Int.reduceNeg, Bool.not_not, and_self, Bool.and_eq_false_iff, Int.cast_ofNat_Int, Int.reduceAdd, Int.reduceSub, Int.reduceMul, Int.reduceEq, Int.reduceNe, B97_1, R97_1, show ¬ ((i : Int) < (l.length : Int)) by omega]
      have : i = s.length := by omega
      subst this
      rw [List.take_length, Nat.sub_self, List.replicate_zero, List.append_nil, ← hsl, take_len_map]
theorem fn59t (a b : List Int) (ha : a.length < 100000) (hb : b.length < 100000) : Fn Try.prog 59 [us a, us b] (.pv (pB (decide (a = b)))) [] := fn59 a b (by omega) (by omega)
/-- what rings later, what rings by now -/
def laterT (l : List Tm) (now : Int) : List Tm := l.filter (fun y => decide (now < y.at_))
def rungT (l : List Tm) (now : Int) : List Int := (l.filter (fun y => decide (y.at_ ≤ now))).map (·.id)
theorem rung_snoc {l : List Tm} {now : Int} {i : Nat} (h : i < l.length) : rungT (l.take (i + 1)) now = rungT (l.take i) now ++ if l[i].at_ ≤ now then [l[i].id] else [] := by
  unfold rungT
  rw [filt_snoc h, List.map_append]
  by_cases h2 : l[i].at_ ≤ now <;> simp [h2]
theorem rung_le {l : List Tm} {now : Int} {i : Nat} : (rungT (l.take i) now).length ≤ l.length := by
  unfold rungT; rw [List.length_map]; exact filt_le
end Go.Vc
