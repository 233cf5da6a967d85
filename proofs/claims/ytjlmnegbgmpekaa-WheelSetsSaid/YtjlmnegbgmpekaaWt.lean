/- A part of the proofs of the seat Ytjlmnegbgmpekaa: the contracts of functions, each proved out of its code. -/
import Derived.Test.YtjlmnegbgmpekaaVh
import Derived.Test.YtjlmnegbgmpekaaProg
namespace Go.Vc
open Go.Proofs
set_option maxRecDepth 100000

/-- 'trystref11.ahead' -/
def M93 : MC := (.seq (.reg [⟨(some 2), none, (.box (.t 0))⟩, ⟨(some 3), none, (.box (.t 1))⟩, ⟨(some 4), none, (.q (.mv (.c (.bool false))))⟩] [] [2, 3] [2, 3]) (.seq (.reg [⟨(some 5), none,
  (.q (.fa (.t 2) 0))⟩, ⟨(some 6), none, (.q (.ld (.t 5) 1 false))⟩, ⟨(some 7), none, (.q (.fa (.t 3) 0))⟩, ⟨(some 8), none, (.q (.ld (.t 7) 1 false))⟩, ⟨(some 9), none, (.q (.bin .lss (.t 6)
  (.t 8)))⟩, ⟨(some 10), none, (.q (.mv (.t 9)))⟩, ⟨(some 11), (some (10, false)), (.q (.fa (.t 2) 0))⟩, ⟨(some 12), (some (10, false)), (.q (.ld (.t 11) 1 false))⟩, ⟨(some 13), (some (10, false)),
  (.q (.fa (.t 3) 0))⟩, ⟨(some 14), (some (10, false)), (.q (.ld (.t 13) 1 false))⟩, ⟨(some 15), (some (10, false)), (.q (.bin .eql (.t 12) (.t 14)))⟩, ⟨(some 16), (some (10, false)),
  (.q (.mv (.t 15)))⟩, ⟨(some 17), (some (16, true)), (.q (.fa (.t 2) 1))⟩, ⟨(some 18), (some (16, true)), (.q (.ld (.t 17) 1 false))⟩, ⟨(some 19), (some (16, true)), (.q (.fa (.t 3) 1))⟩, ⟨(some 20),
  (some (16, true)), (.q (.ld (.t 19) 1 false))⟩, ⟨(some 21), (some (16, true)), (.q (.bin .lss (.t 18) (.t 20)))⟩, ⟨(some 22), (some (10, false)), (.q (.pick (.t 16) (.t 21) (.c (.bool false))))⟩,
  ⟨(some 23), none, (.q (.pick (.t 10) (.c (.bool true)) (.t 22)))⟩, ⟨(some 4), none, (.q (.mv (.t 23)))⟩] [] [4] []) .ret))
theorem mc93 : ofCode Try.prog [] Try.f93.ntmps [(0, ⟨[2, 3], [2, 3], [], 0, [], none⟩),
    (1, ⟨[4], [], [], 0, [], none⟩)] (Try.f93.body.getD .skip) = some M93 := by kernel_rfl
theorem Run93 {args : List PV} {v : AV} {rs : List (Nat × List PV)} (ids : List Bool) (h : args.length ≤ 24) (hv : run Try.prog (retK [RV.tmp 4] ids v rs) M93 [] ⟨entry 0 args, []⟩) : Fn Try.prog 93 args v rs :=
  Fn_run ids (by kernel_rfl) Try.func93 (by decide) rfl mc93 (by kernel_rfl) (by rw [Try.ntmps93]; exact h) (by rw [Try.ntmps93]; decide) hv

/-- 'wheel.timer).order' -/
def M94 : MC := (.seq (.reg [⟨(some 2), none, (.box (.t 0))⟩, ⟨(some 3), none, (.box (.t 1))⟩, ⟨(some 4), none, (.q (.mv (.c (.int .i64 0))))⟩] [] [2, 3] [2, 3]) (.seq (.reg [⟨(some 5), none,
  (.q (.fa (.t 2) 0))⟩, ⟨(some 6), none, (.q (.ld (.t 5) 1 false))⟩, ⟨(some 7), none, (.q (.fa (.t 3) 0))⟩, ⟨(some 8), none, (.q (.ld (.t 7) 1 false))⟩, ⟨(some 10), none, (.q (.fa (.t 2) 1))⟩,
  ⟨(some 11), none, (.q (.ld (.t 10) 1 false))⟩, ⟨(some 12), none, (.q (.fa (.t 3) 1))⟩, ⟨(some 13), none, (.q (.ld (.t 12) 1 false))⟩, ⟨(some 9), none, (.call (.f 78) [(.t 6), (.t 8)])⟩, ⟨(some 14),
  none, (.call (.f 79) [(.t 11), (.t 13)])⟩, ⟨(some 15), none, (.lits [(.t 9), (.t 14)] 1)⟩, ⟨(some 16), none, (.call (.f 77) [(.t 15)])⟩, ⟨(some 4), none, (.q (.mv (.t 16)))⟩] [] [4] [1016]) .ret))
theorem mc94 : ofCode Try.prog [] Try.f94.ntmps [(0, ⟨[2, 3], [2, 3], [], 0, [], none⟩),
    (1, ⟨[4], [1016], [(0, 7699), (1, 7698), (2, 7708), (3, 7704), (5, 7776), (6, 7744), (7, 8064), (8, 7936), (4, 0), (9, 0), (10, 0), (11, 0), (12, 4096)], 8191, [], none⟩)] (Try.f94.body.getD .skip) = some M94 := by kernel_rfl
theorem Run94 {args : List PV} {v : AV} {rs : List (Nat × List PV)} (ids : List Bool) (h : args.length ≤ 17) (hv : run Try.prog (retK [RV.tmp 4] ids v rs) M94 [] ⟨entry 0 args, []⟩) : Fn Try.prog 94 args v rs :=
  Fn_run ids (by kernel_rfl) Try.func94 (by decide) rfl mc94 (by kernel_rfl) (by rw [Try.ntmps94]; exact h) (by rw [Try.ntmps94]; decide) hv

/-- 'wheel.find' -/
def M95 : MC := (.seq (.reg [⟨(some 3), none, (.box (.t 1))⟩, ⟨(some 4), none, (.q (.mv (.c (.int .i64 0))))⟩] [] [0, 3] [3]) (.seq (.reg [⟨(some 5), none, (.q (.mv (.t 0)))⟩, ⟨(some 6), none,
  (.q (.clo 111 [(.t 3)]))⟩, ⟨(some 7), none, (.call (.f 110) [(.t 5), (.t 6)])⟩, ⟨(some 4), none, (.q (.mv (.t 7)))⟩] [] [4] [1007]) .ret))
theorem mc95 : ofCode Try.prog [] Try.f95.ntmps [(0, ⟨[0, 3], [3], [], 0, [], none⟩),
    (1, ⟨[4], [1007], [], 0, [], none⟩)] (Try.f95.body.getD .skip) = some M95 := by kernel_rfl
theorem Run95 {args : List PV} {v : AV} {rs : List (Nat × List PV)} (ids : List Bool) (h : args.length ≤ 8) (hv : run Try.prog (retK [RV.tmp 4] ids v rs) M95 [] ⟨entry 0 args, []⟩) : Fn Try.prog 95 args v rs :=
  Fn_run ids (by kernel_rfl) Try.func95 (by decide) rfl mc95 (by kernel_rfl) (by rw [Try.ntmps95]; exact h) (by rw [Try.ntmps95]; decide) hv

/-- 'wheel.without' -/
def B96_0 : MC := (.seq (.reg [⟨(some 15), none, (.q (.bin .lss (.t 14) (.t 13)))⟩] [] [1, 5, 12, 13, 14, 15] [11, 25]) (.seq (.cond (.t 15) .skip (.exit 0)) (.seq (.block 1 (.seq (.reg [⟨(some 16),
  none, (.q (.mv (.t 14)))⟩, ⟨(some 17), none, (.q (.ia (.t 12) (.t 14) 2))⟩, ⟨(some 18), none, (.q (.ld (.t 17) 2 true))⟩, ⟨(some 7), none, (.alloc [(.pv (.sc (.int .i64 0))),
  (.pv (.sc (.int .u64 0)))])⟩, ⟨(some 6), none, (.q (.mv (.t 16)))⟩, ⟨none, none, (.st (.t 7) (.t 18) 2)⟩] [] [1, 5, 6, 7, 12, 13, 14] [7, 11, 25]) (.seq (.reg [⟨(some 19), none, (.q (.mv (.t 6)))⟩,
  ⟨(some 20), none, (.q (.mv (.t 1)))⟩, ⟨(some 21), none, (.q (.bin .neq (.t 19) (.t 20)))⟩] [] [1, 5, 7, 12, 13, 14, 21] [7, 11, 25]) (.cond (.t 21) (.reg [⟨(some 22), none, (.q (.mv (.t 5)))⟩,
  ⟨(some 23), none, (.q (.ld (.t 7) 2 true))⟩, ⟨(some 24), none, (.lits [(.t 23)] 2)⟩, ⟨(some 25), none, (.app (.t 22) (.t 24) 2 16)⟩, ⟨(some 5), none, (.q (.mv (.t 25)))⟩] [] [1, 5, 12, 13, 14] [11,
  25]) .skip)))) (.reg [⟨(some 26), none, (.q (.bin .add (.t 14) (.c (.int .i64 1))))⟩, ⟨(some 14), none, (.q (.mv (.t 26)))⟩] [] [1, 5, 12, 13, 14] [11, 25]))))
def R96_0 : MC := (.seq (.reg [⟨(some 27), none, (.q (.mv (.t 5)))⟩, ⟨(some 4), none, (.q (.mv (.t 27)))⟩] [] [4] [11, 25]) .ret)
def M96 : MC := (.seq (.reg [⟨(some 4), none, (.q (.mv .nil))⟩] [] [0, 1] []) (.seq (.reg [⟨(some 8), none, (.q (.mv (.t 0)))⟩, ⟨(some 9), none, (.q (.len (.t 8) false))⟩, ⟨(some 10), none,
  (.q (.bin .add (.t 9) (.c (.int .i64 1))))⟩, ⟨(some 11), none, (.mks (.c (.int .i64 0)) (.t 10) 2 16 (.agg [(.sc (.int .i64 0)), (.sc (.int .u64 0))]))⟩, ⟨(some 5), none, (.q (.mv (.t 11)))⟩] [] [0,
  1, 5] [11, 25]) (.seq (.seq (.reg [⟨(some 12), none, (.q (.mv (.t 0)))⟩, ⟨(some 13), none, (.q (.len (.t 12) false))⟩, ⟨(some 14), none, (.q (.mv (.c (.int .i64 0))))⟩] [] [1, 5, 12, 13, 14] [11,
  25]) (.block 0 (.loop B96_0))) R96_0)))
theorem mc96 : ofCode Try.prog [] Try.f96.ntmps [(0, ⟨[0, 1], [], [], 0, [], none⟩),
    (1, ⟨[0, 1, 5], [11, 25], [], 0, [], none⟩),
    (2, ⟨[1, 5, 12, 13, 14], [11, 25], [], 0, [], none⟩),
    (3, ⟨[1, 5, 12, 13, 14, 15], [11, 25], [], 0, [], none⟩),
    (4, ⟨[1, 5, 6, 7, 12, 13, 14], [7, 11, 25], [], 0, [], none⟩),
    (5, ⟨[1, 5, 7, 12, 13, 14, 21], [7, 11, 25], [], 0, [], none⟩),
    (6, ⟨[1, 5, 12, 13, 14], [11, 25], [], 0, [], none⟩),
    (7, ⟨[1, 5, 12, 13, 14], [11, 25], [], 0, [], none⟩),
    (8, ⟨[4], [11, 25], [], 0, [], none⟩)] (Try.f96.body.getD .skip) = some M96 := by kernel_rfl
theorem Run96 {args : List PV} {v : AV} {rs : List (Nat × List PV)} (ids : List Bool) (h : args.length ≤ 28) (hv : run Try.prog (retK [RV.tmp 4] ids v rs) M96 [] ⟨entry 0 args, []⟩) : Fn Try.prog 96 args v rs :=
  Fn_run ids (by kernel_rfl) Try.func96 (by decide) rfl mc96 (by kernel_rfl) (by rw [Try.ntmps96]; exact h) (by rw [Try.ntmps96]; decide) hv

/-- 'wheel.inOrder' -/
def B97_0 : MC := (.seq (.reg [⟨(some 15), none, (.q (.bin .lss (.t 14) (.t 13)))⟩] [] [0, 3, 12, 13, 14, 15] [0, 11, 1025]) (.seq (.cond (.t 15) .skip (.exit 0))
  (.seq (.block 1 (.seq (.reg [⟨(some 16), none, (.q (.mv (.t 14)))⟩, ⟨(some 17), none, (.q (.ia (.t 12) (.t 14) 2))⟩, ⟨(some 18), none, (.q (.ld (.t 17) 2 true))⟩, ⟨(some 5), none,
  (.alloc [(.pv (.sc (.int .i64 0))), (.pv (.sc (.int .u64 0)))])⟩, ⟨(some 4), none, (.q (.mv (.t 16)))⟩, ⟨none, none, (.st (.t 5) (.t 18) 2)⟩] [] [0, 3, 4, 5, 12, 13, 14] [0, 5, 11, 1025])
  (.reg [⟨(some 19), none, (.q (.mv (.t 3)))⟩, ⟨(some 20), none, (.q (.mv (.t 4)))⟩, ⟨(some 21), none, (.q (.ld (.t 5) 2 true))⟩, ⟨(some 22), none, (.q (.ia (.t 19) (.t 20) 2))⟩, ⟨none, none,
  (.st (.t 22) (.t 21) 2)⟩] [] [0, 3, 12, 13, 14] [0, 11, 1025]))) (.reg [⟨(some 23), none, (.q (.bin .add (.t 14) (.c (.int .i64 1))))⟩, ⟨(some 14), none, (.q (.mv (.t 23)))⟩] [] [0, 3, 12, 13,
  14] [0, 11, 1025]))))
def B97_1 : MC := (.seq (.reg [⟨(some 32), none, (.q (.bin .lss (.t 31) (.t 30)))⟩] [] [6, 29, 30, 31, 32] [0, 11, 28, 1025]) (.seq (.cond (.t 32) .skip (.exit 2))
  (.seq (.block 3 (.seq (.reg [⟨(some 33), none, (.q (.mv (.t 31)))⟩, ⟨(some 34), none, (.q (.ia (.t 29) (.t 31) 2))⟩, ⟨(some 35), none, (.q (.ld (.t 34) 2 true))⟩, ⟨(some 8), none,
  (.alloc [(.pv (.sc (.int .i64 0))), (.pv (.sc (.int .u64 0)))])⟩, ⟨(some 7), none, (.q (.mv (.t 33)))⟩, ⟨none, none, (.st (.t 8) (.t 35) 2)⟩] [] [6, 7, 8, 29, 30, 31] [0, 8, 11, 28, 1025])
  (.reg [⟨(some 36), none, (.q (.mv (.t 6)))⟩, ⟨(some 37), none, (.q (.mv (.t 7)))⟩, ⟨(some 38), none, (.q (.ld (.t 8) 2 true))⟩, ⟨(some 39), none, (.q (.ia (.t 36) (.t 37) 2))⟩, ⟨none, none,
  (.st (.t 39) (.t 38) 2)⟩] [] [6, 29, 30, 31] [0, 11, 28, 1025]))) (.reg [⟨(some 40), none, (.q (.bin .add (.t 31) (.c (.int .i64 1))))⟩, ⟨(some 31), none, (.q (.mv (.t 40)))⟩] [] [6, 29, 30, 31] [0,
  11, 28, 1025]))))
def R97_1 : MC := (.seq (.reg [⟨(some 41), none, (.q (.mv (.t 6)))⟩, ⟨(some 2), none, (.q (.mv (.t 41)))⟩] [] [2] [0, 28, 1025]) .ret)
def R97_0 : MC := (.seq (.reg [⟨(some 24), none, (.q (.mv (.t 3)))⟩, ⟨(some 25), none, (.calls (.f 112) [(.t 24), (.f 94)])⟩] [] [0, 3] [0, 11, 1025]) (.seq (.reg [⟨(some 26), none,
  (.q (.mv (.t 0)))⟩, ⟨(some 27), none, (.q (.len (.t 26) false))⟩, ⟨(some 28), none, (.mks (.t 27) (.t 27) 2 16 (.agg [(.sc (.int .i64 0)), (.sc (.int .u64 0))]))⟩, ⟨(some 6), none,
  (.q (.mv (.t 28)))⟩] [] [3, 6] [0, 11, 28, 1025]) (.seq (.seq (.reg [⟨(some 29), none, (.q (.mv (.t 3)))⟩, ⟨(some 30), none, (.q (.len (.t 29) false))⟩, ⟨(some 31), none,
  (.q (.mv (.c (.int .i64 0))))⟩] [] [6, 29, 30, 31] [0, 11, 28, 1025]) (.block 2 (.loop B97_1))) R97_1)))
def M97 : MC := (.seq (.reg [⟨(some 2), none, (.q (.mv .nil))⟩] [] [0] [0]) (.seq (.reg [⟨(some 9), none, (.q (.mv (.t 0)))⟩, ⟨(some 10), none, (.q (.len (.t 9) false))⟩, ⟨(some 11), none,
  (.mks (.t 10) (.t 10) 2 16 (.agg [(.sc (.int .i64 0)), (.sc (.int .u64 0))]))⟩, ⟨(some 3), none, (.q (.mv (.t 11)))⟩] [] [0, 3] [0, 11, 1025]) (.seq (.seq (.reg [⟨(some 12), none,
  (.q (.mv (.t 0)))⟩, ⟨(some 13), none, (.q (.len (.t 12) false))⟩, ⟨(some 14), none, (.q (.mv (.c (.int .i64 0))))⟩] [] [0, 3, 12, 13, 14] [0, 11, 1025]) (.block 0 (.loop B97_0))) R97_0)))
theorem mc97 : ofCode Try.prog [25] Try.f97.ntmps [(0, ⟨[0], [0], [], 0, [], none⟩),
    (1, ⟨[0, 3], [0, 11, 1025], [], 0, [], none⟩),
    (2, ⟨[0, 3, 12, 13, 14], [0, 11, 1025], [], 0, [], none⟩),
    (3, ⟨[0, 3, 12, 13, 14, 15], [0, 11, 1025], [], 0, [], none⟩),
    (4, ⟨[0, 3, 4, 5, 12, 13, 14], [0, 5, 11, 1025], [], 0, [], none⟩),
    (5, ⟨[0, 3, 12, 13, 14], [0, 11, 1025], [], 0, [], none⟩),
    (6, ⟨[0, 3, 12, 13, 14], [0, 11, 1025], [], 0, [], none⟩),
    (7, ⟨[0, 3], [0, 11, 1025], [], 0, [], none⟩),
    (8, ⟨[3, 6], [0, 11, 28, 1025], [], 0, [], none⟩),
    (9, ⟨[6, 29, 30, 31], [0, 11, 28, 1025], [], 0, [], none⟩),
    (10, ⟨[6, 29, 30, 31, 32], [0, 11, 28, 1025], [], 0, [], none⟩),
    (11, ⟨[6, 7, 8, 29, 30, 31], [0, 8, 11, 28, 1025], [], 0, [], none⟩),
    (12, ⟨[6, 29, 30, 31], [0, 11, 28, 1025], [], 0, [], none⟩),
    (13, ⟨[6, 29, 30, 31], [0, 11, 28, 1025], [], 0, [], none⟩),
    (14, ⟨[2], [0, 28, 1025], [], 0, [], none⟩)] (Try.f97.body.getD .skip) = some M97 := by kernel_rfl
theorem Run97 {args : List PV} {v : AV} {rs : List (Nat × List PV)} (ids : List Bool) (h : args.length ≤ 42) (hv : run Try.prog (retK [RV.tmp 2] ids v rs) M97 [] ⟨entry 0 args, []⟩) : Fn Try.prog 97 args v rs :=
  Fn_run ids (by kernel_rfl) Try.func97 (by decide) rfl mc97 (by kernel_rfl) (by rw [Try.ntmps97]; exact h) (by rw [Try.ntmps97]; decide) hv
theorem RunS97 {args : List AV} {st st' : List (Nat × Row)} {v : AV} (h : args.length ≤ 42) (hk : (st'.map (·.1)).Nodup) (hv : run Try.prog (retS [RV.tmp 2] v st') M97 [] ⟨entryA 0 args, st⟩) : FnS Try.prog 97 args st v st' :=
  FnS_run (by kernel_rfl) Try.func97 (by decide) rfl mc97 (by kernel_rfl) (by rw [Try.ntmps97]; exact h) (by rw [Try.ntmps97]; decide) hk hv

/-- 'api.Timer]' -/
def B110_0 : MC := (.seq (.reg [⟨(some 9), none, (.q (.bin .lss (.t 8) (.t 7)))⟩] [] [0, 1, 7, 8, 9] []) (.seq (.cond (.t 9) .skip (.exit 0)) (.seq (.block 1 (.seq (.reg [⟨(some 10), none,
  (.q (.mv (.t 8)))⟩, ⟨(some 5), none, (.q (.mv (.t 10)))⟩] [] [0, 1, 5, 7, 8] []) (.seq (.reg [⟨(some 11), none, (.q (.mv (.t 1)))⟩, ⟨(some 12), none, (.q (.mv (.t 0)))⟩, ⟨(some 13), none,
  (.q (.mv (.t 5)))⟩, ⟨(some 14), none, (.q (.ia (.t 12) (.t 13) 2))⟩, ⟨(some 15), none, (.q (.ld (.t 14) 2 true))⟩, ⟨(some 16), none, (.call (.t 11) [(.t 15)])⟩] [] [0, 1, 5, 7, 8, 16] [1016])
  (.cond (.t 16) (.seq (.reg [⟨(some 17), none, (.q (.mv (.t 5)))⟩, ⟨(some 4), none, (.q (.mv (.t 17)))⟩] [] [4] []) .ret) .skip)))) (.reg [⟨(some 18), none, (.q (.bin .add (.t 8)
  (.c (.int .i64 1))))⟩, ⟨(some 8), none, (.q (.mv (.t 18)))⟩] [] [0, 1, 7, 8] []))))
def R110_0 : MC := (.seq (.reg [⟨(some 4), none, (.q (.mv (.c (.int .i64 (-1)))))⟩] [] [4] []) .ret)
def M110 : MC := (.seq (.reg [⟨(some 4), none, (.q (.mv (.c (.int .i64 0))))⟩] [] [0, 1] []) (.seq (.seq (.reg [⟨(some 6), none, (.q (.mv (.t 0)))⟩, ⟨(some 7), none, (.q (.len (.t 6) false))⟩,
  ⟨(some 8), none, (.q (.mv (.c (.int .i64 0))))⟩] [] [0, 1, 7, 8] []) (.block 0 (.loop B110_0))) R110_0))
theorem mc110 : ofCode Try.prog [] Try.f110.ntmps [(0, ⟨[0, 1], [], [], 0, [], none⟩),
    (1, ⟨[0, 1, 7, 8], [], [], 0, [], none⟩),
    (2, ⟨[0, 1, 7, 8, 9], [], [], 0, [], none⟩),
    (3, ⟨[0, 1, 5, 7, 8], [], [], 0, [], none⟩),
    (4, ⟨[0, 1, 5, 7, 8, 16], [1016], [], 0, [], none⟩),
    (5, ⟨[4], [], [], 0, [], none⟩),
    (6, ⟨[0, 1, 7, 8], [], [], 0, [], none⟩),
    (7, ⟨[4], [], [], 0, [], none⟩)] (Try.f110.body.getD .skip) = some M110 := by kernel_rfl
theorem Run110 {args : List PV} {v : AV} {rs : List (Nat × List PV)} (ids : List Bool) (h : args.length ≤ 19) (hv : run Try.prog (retK [RV.tmp 4] ids v rs) M110 [] ⟨entry 0 args, []⟩) : Fn Try.prog 110 args v rs :=
  Fn_run ids (by kernel_rfl) Try.func110 (by decide) rfl mc110 (by kernel_rfl) (by rw [Try.ntmps110]; exact h) (by rw [Try.ntmps110]; decide) hv

/-- 'wheel.find.1' -/
def M111 : MC := (.seq (.reg [⟨(some 2), none, (.box (.t 0))⟩, ⟨(some 3), none, (.q (.mv (.c (.bool false))))⟩] [] [1, 2] [2]) (.seq (.reg [⟨(some 4), none, (.q (.fa (.t 2) 1))⟩, ⟨(some 5), none,
  (.q (.ld (.t 4) 1 false))⟩, ⟨(some 6), none, (.q (.ld (.t 1) 1 false))⟩, ⟨(some 7), none, (.q (.bin .eql (.t 5) (.t 6)))⟩, ⟨(some 3), none, (.q (.mv (.t 7)))⟩] [] [3] []) .ret))
theorem mc111 : ofCode Try.prog [] Try.f111.ntmps [(0, ⟨[1, 2], [2], [], 0, [], none⟩),
    (1, ⟨[3], [], [], 0, [], none⟩)] (Try.f111.body.getD .skip) = some M111 := by kernel_rfl
theorem Run111 {args : List PV} {v : AV} {rs : List (Nat × List PV)} (ids : List Bool) (h : args.length ≤ 8) (hv : run Try.prog (retK [RV.tmp 3] ids v rs) M111 [] ⟨entry 0 args, []⟩) : Fn Try.prog 111 args v rs :=
  Fn_run ids (by kernel_rfl) Try.func111 (by decide) rfl mc111 (by kernel_rfl) (by rw [Try.ntmps111]; exact h) (by rw [Try.ntmps111]; decide) hv

/-- 'trystlaw11.Few' -/
def M53 : MC := (.seq (.reg [⟨(some 2), none, (.q (.mv .nil))⟩] [] [0] []) (.seq (.seq (.reg [⟨(some 3), none, (.q (.mv (.t 0)))⟩, ⟨(some 4), none, (.q (.len (.t 3) false))⟩, ⟨(some 5), none,
  (.q (.bin .gtr (.t 4) (.c (.int .i64 121))))⟩] [] [0, 5] []) (.cond (.t 5) (.reg [⟨(some 6), none, (.q (.mv (.t 0)))⟩, ⟨(some 7), none, (.q (.slc (.t 6) none (some (.c (.int .i64 121))) 2 false))⟩,
  ⟨(some 0), none, (.q (.mv (.t 7)))⟩] [] [0] []) .skip)) (.seq (.reg [⟨(some 8), none, (.lits [] 2)⟩, ⟨(some 9), none, (.q (.mv (.t 0)))⟩, ⟨(some 10), none, (.app (.t 8) (.t 9) 2 16)⟩, ⟨(some 2),
  none, (.q (.mv (.t 10)))⟩] [] [2] [10]) .ret)))
theorem mc53 : ofCode Try.prog [] Try.f53.ntmps [(0, ⟨[0], [], [], 0, [], none⟩),
    (1, ⟨[0, 5], [], [], 0, [], none⟩),
    (2, ⟨[0], [], [], 0, [], none⟩),
    (3, ⟨[2], [10], [], 0, [], none⟩)] (Try.f53.body.getD .skip) = some M53 := by kernel_rfl
theorem Run53 {args : List PV} {v : AV} {rs : List (Nat × List PV)} (ids : List Bool) (h : args.length ≤ 11) (hv : run Try.prog (retK [RV.tmp 2] ids v rs) M53 [] ⟨entry 0 args, []⟩) : Fn Try.prog 53 args v rs :=
  Fn_run ids (by kernel_rfl) Try.func53 (by decide) rfl mc53 (by kernel_rfl) (by rw [Try.ntmps53]; exact h) (by rw [Try.ntmps53]; decide) hv

/-- 'trystref11.Same' -/
def B58_0 : MC := (.seq (.seq (.reg [⟨(some 11), none, (.q (.mv (.t 5)))⟩, ⟨(some 12), none, (.q (.mv (.t 0)))⟩, ⟨(some 13), none, (.q (.len (.t 12) false))⟩, ⟨(some 14), none, (.q (.bin .lss (.t 11)
  (.t 13)))⟩] [] [0, 1, 5, 14] []) (.cond (.t 14) .skip (.exit 0))) (.seq (.block 1 (.seq (.reg [⟨(some 17), none, (.q (.mv (.t 0)))⟩, ⟨(some 18), none, (.q (.mv (.t 5)))⟩, ⟨(some 19), none,
  (.q (.ia (.t 17) (.t 18) 2))⟩, ⟨(some 20), none, (.q (.ld (.t 19) 2 true))⟩, ⟨(some 21), none, (.q (.mv (.t 1)))⟩, ⟨(some 22), none, (.q (.mv (.t 5)))⟩, ⟨(some 23), none, (.q (.ia (.t 21) (.t 22)
  2))⟩, ⟨(some 24), none, (.q (.ld (.t 23) 2 true))⟩, ⟨(some 25), none, (.q (.seq true [0, 0] (.t 20) (.t 24)))⟩] [] [0, 1, 5, 25] []) (.cond (.t 25) (.seq (.reg [⟨(some 4), none,
  (.q (.mv (.c (.bool false))))⟩] [] [4] []) .ret) .skip))) (.reg [⟨(some 15), none, (.q (.mv (.t 5)))⟩, ⟨(some 16), none, (.q (.bin .add (.t 15) (.c (.int .i64 1))))⟩, ⟨(some 5), none,
  (.q (.mv (.t 16)))⟩] [] [0, 1, 5] [])))
def R58_0 : MC := (.seq (.reg [⟨(some 4), none, (.q (.mv (.c (.bool true))))⟩] [] [4] []) .ret)
def M58 : MC := (.seq (.reg [⟨(some 4), none, (.q (.mv (.c (.bool false))))⟩] [] [0, 1] []) (.seq (.seq (.reg [⟨(some 6), none, (.q (.mv (.t 0)))⟩, ⟨(some 7), none, (.q (.len (.t 6) false))⟩,
  ⟨(some 8), none, (.q (.mv (.t 1)))⟩, ⟨(some 9), none, (.q (.len (.t 8) false))⟩, ⟨(some 10), none, (.q (.bin .neq (.t 7) (.t 9)))⟩] [] [0, 1, 10] []) (.cond (.t 10) (.seq (.reg [⟨(some 4), none,
  (.q (.mv (.c (.bool false))))⟩] [] [4] []) .ret) .skip)) (.seq (.seq (.reg [⟨(some 5), none, (.q (.mv (.c (.int .i64 0))))⟩] [] [0, 1, 5] []) (.block 0 (.loop B58_0))) R58_0)))
theorem mc58 : ofCode Try.prog [] Try.f58.ntmps [(0, ⟨[0, 1], [], [], 0, [], none⟩),
    (1, ⟨[0, 1, 10], [], [], 0, [], none⟩),
    (2, ⟨[4], [], [], 0, [], none⟩),
    (3, ⟨[0, 1, 5], [], [], 0, [], none⟩),
    (4, ⟨[0, 1, 5, 14], [], [], 0, [], none⟩),
    (5, ⟨[0, 1, 5], [], [], 0, [], none⟩),
    (6, ⟨[0, 1, 5, 25], [], [(0, 269), (1, 270), (2, 268), (3, 264), (4, 464), (5, 480), (6, 448), (7, 384), (8, 256)], 511, [], none⟩),
    (7, ⟨[4], [], [], 0, [], none⟩),
    (8, ⟨[4], [], [], 0, [], none⟩)] (Try.f58.body.getD .skip) = some M58 := by kernel_rfl
theorem Run58 {args : List PV} {v : AV} {rs : List (Nat × List PV)} (ids : List Bool) (h : args.length ≤ 26) (hv : run Try.prog (retK [RV.tmp 4] ids v rs) M58 [] ⟨entry 0 args, []⟩) : Fn Try.prog 58 args v rs :=
  Fn_run ids (by kernel_rfl) Try.func58 (by decide) rfl mc58 (by kernel_rfl) (by rw [Try.ntmps58]; exact h) (by rw [Try.ntmps58]; decide) hv

/-- 'wheel.Check' -/
def B60_0 : MC := (.seq (.reg [⟨(some 17), none, (.q (.bin .lss (.t 16) (.t 15)))⟩] [] [0, 3, 14, 15, 16, 17] [13]) (.seq (.cond (.t 17) .skip (.exit 0)) (.seq (.block 1 (.seq (.reg [⟨(some 18), none,
  (.q (.mv (.t 16)))⟩, ⟨(some 19), none, (.q (.ia (.t 14) (.t 16) 2))⟩, ⟨(some 20), none, (.q (.ld (.t 19) 2 true))⟩, ⟨(some 5), none, (.alloc [(.pv (.sc (.int .i64 0))), (.pv (.sc (.int .u64 0)))])⟩,
  ⟨(some 4), none, (.q (.mv (.t 18)))⟩, ⟨none, none, (.st (.t 5) (.t 20) 2)⟩] [] [0, 3, 4, 5, 14, 15, 16] [5, 13]) (.seq (.seq (.reg [⟨(some 21), none, (.q (.fa (.t 5) 0))⟩, ⟨(some 22), none,
  (.q (.ld (.t 21) 1 false))⟩, ⟨(some 23), none, (.q (.bin .lss (.t 22) (.c (.int .i64 0))))⟩, ⟨(some 24), none, (.q (.mv (.t 23)))⟩, ⟨(some 25), (some (24, false)), (.q (.fa (.t 5) 0))⟩, ⟨(some 26),
  (some (24, false)), (.q (.ld (.t 25) 1 false))⟩, ⟨(some 27), (some (24, false)), (.q (.bin .gtr (.t 26) (.c (.int .i64 1099511627775))))⟩, ⟨(some 28), none, (.q (.pick (.t 24) (.c (.bool true))
  (.t 27)))⟩] [] [0, 3, 4, 5, 14, 15, 16, 28] [5, 13]) (.cond (.t 28) (.seq (.reg [⟨(some 2), none, (.q (.mv (.c (.int .i64 1))))⟩] [] [2] []) .ret) .skip)) (.seq (.seq (.reg [⟨(some 29), none,
  (.q (.mv (.t 4)))⟩, ⟨(some 30), none, (.q (.bin .gtr (.t 29) (.c (.int .i64 0))))⟩, ⟨(some 31), none, (.q (.mv (.t 30)))⟩, ⟨(some 32), (some (31, true)), (.q (.mv (.t 0)))⟩, ⟨(some 33), (some (31,
  true)), (.q (.mv (.t 4)))⟩, ⟨(some 34), (some (31, true)), (.q (.bin .sub (.t 33) (.c (.int .i64 1))))⟩, ⟨(some 35), (some (31, true)), (.q (.ia (.t 32) (.t 34) 2))⟩, ⟨(some 36), (some (31, true)),
  (.q (.ld (.t 35) 2 true))⟩, ⟨(some 37), (some (31, true)), (.q (.ld (.t 5) 2 true))⟩, ⟨(some 38), (some (31, true)), (.call (.f 94) [(.t 36), (.t 37)])⟩, ⟨(some 39), (some (31, true)),
  (.q (.bin .geq (.t 38) (.c (.int .i64 0))))⟩, ⟨(some 40), none, (.q (.pick (.t 31) (.t 39) (.c (.bool false))))⟩] [] [0, 3, 4, 5, 14, 15, 16, 40] [5, 13, 1038]) (.cond (.t 40)
  (.seq (.reg [⟨(some 2), none, (.q (.mv (.c (.int .i64 1))))⟩] [] [2] []) .ret) .skip)) (.seq (.seq (.reg [⟨(some 42), none, (.q (.mv (.t 3)))⟩, ⟨(some 43), none, (.q (.fa (.t 5) 1))⟩, ⟨(some 44),
  none, (.q (.ld (.t 43) 1 false))⟩, ⟨(some 45), none, (.q (.mget (.t 42) (.t 44) true Kk.int (.pv (.sc (.int .i64 0)))))⟩, ⟨(some 41), none, (.q (.mv (.t 45)))⟩, ⟨(some 46), none, (.q (.ext (.t 41)
  0))⟩, ⟨(some 47), none, (.q (.ext (.t 41) 1))⟩, ⟨(some 6), none, (.q (.mv (.t 46)))⟩, ⟨(some 7), none, (.q (.mv (.t 47)))⟩] [] [0, 3, 4, 5, 7, 14, 15, 16] [5, 13]) (.seq (.reg [⟨(some 48), none,
  (.q (.mv (.t 7)))⟩] [] [0, 3, 4, 5, 14, 15, 16, 48] [5, 13]) (.cond (.t 48) (.seq (.reg [⟨(some 2), none, (.q (.mv (.c (.int .i64 1))))⟩] [] [2] []) .ret) .skip))) (.reg [⟨(some 49), none,
  (.q (.mv (.t 3)))⟩, ⟨(some 50), none, (.q (.fa (.t 5) 1))⟩, ⟨(some 51), none, (.q (.ld (.t 50) 1 false))⟩, ⟨(some 52), none, (.q (.mv (.t 4)))⟩, ⟨none, none, (.mset (.t 49) (.t 51) (.t 52)
  Kk.int)⟩] [] [0, 3, 14, 15, 16] [13])))))) (.reg [⟨(some 53), none, (.q (.bin .add (.t 16) (.c (.int .i64 1))))⟩, ⟨(some 16), none, (.q (.mv (.t 53)))⟩] [] [0, 3, 14, 15, 16] [13]))))
def R60_0 : MC := (.seq (.reg [⟨(some 2), none, (.q (.mv (.c (.int .i64 0))))⟩] [] [2] []) .ret)
def M60 : MC := (.seq (.reg [⟨(some 2), none, (.q (.mv (.c (.int .i64 0))))⟩] [] [0] []) (.seq (.seq (.reg [⟨(some 8), none, (.q (.mv (.t 0)))⟩, ⟨(some 9), none, (.q (.len (.t 8) false))⟩, ⟨(some 10),
  none, (.q (.bin .gtr (.t 9) (.c (.int .i64 120))))⟩] [] [0, 10] []) (.cond (.t 10) (.seq (.reg [⟨(some 2), none, (.q (.mv (.c (.int .i64 1))))⟩] [] [2] []) .ret) .skip)) (.seq (.reg [⟨(some 11),
  none, (.q (.mv (.t 0)))⟩, ⟨(some 12), none, (.q (.len (.t 11) false))⟩, ⟨(some 13), none, (.mkmr (.t 12))⟩, ⟨(some 3), none, (.q (.mv (.t 13)))⟩] [] [0, 3] [13]) (.seq (.seq (.reg [⟨(some 14), none,
  (.q (.mv (.t 0)))⟩, ⟨(some 15), none, (.q (.len (.t 14) false))⟩, ⟨(some 16), none, (.q (.mv (.c (.int .i64 0))))⟩] [] [0, 3, 14, 15, 16] [13]) (.block 0 (.loop B60_0))) R60_0))))
theorem mc60 : ofCode Try.prog [] Try.f60.ntmps [(0, ⟨[0], [], [], 0, [], none⟩),
    (1, ⟨[0, 10], [], [], 0, [], none⟩),
    (2, ⟨[2], [], [], 0, [], none⟩),
    (3, ⟨[0, 3], [13], [], 0, [], none⟩),
    (4, ⟨[0, 3, 14, 15, 16], [13], [], 0, [], none⟩),
    (5, ⟨[0, 3, 14, 15, 16, 17], [13], [], 0, [], none⟩),
    (6, ⟨[0, 3, 4, 5, 14, 15, 16], [5, 13], [], 0, [], none⟩),
    (7, ⟨[0, 3, 4, 5, 14, 15, 16, 28], [5, 13], [], 0, [], none⟩),
    (8, ⟨[2], [], [], 0, [], none⟩),
    (9, ⟨[0, 3, 4, 5, 14, 15, 16, 40], [5, 13, 1038], [(0, 4095), (1, 4094), (2, 4092), (3, 3784), (4, 3824), (5, 3808), (6, 3776), (7, 3712), (8, 3840), (9, 0), (10, 3072), (11, 2048)], 4095, [], none⟩),
    (10, ⟨[2], [], [], 0, [], none⟩),
    (11, ⟨[0, 3, 4, 5, 7, 14, 15, 16], [5, 13], [], 0, [], none⟩),
    (12, ⟨[0, 3, 4, 5, 14, 15, 16, 48], [5, 13], [], 0, [], none⟩),
    (13, ⟨[2], [], [], 0, [], none⟩),
    (14, ⟨[0, 3, 14, 15, 16], [13], [], 0, [], none⟩),
    (15, ⟨[0, 3, 14, 15, 16], [13], [], 0, [], none⟩),
    (16, ⟨[2], [], [], 0, [], none⟩)] (Try.f60.body.getD .skip) = some M60 := by kernel_rfl
theorem Run60 {args : List PV} {v : AV} {rs : List (Nat × List PV)} (ids : List Bool) (h : args.length ≤ 54) (hv : run Try.prog (retK [RV.tmp 2] ids v rs) M60 [] ⟨entry 0 args, []⟩) : Fn Try.prog 60 args v rs :=
  Fn_run ids (by kernel_rfl) Try.func60 (by decide) rfl mc60 (by kernel_rfl) (by rw [Try.ntmps60]; exact h) (by rw [Try.ntmps60]; decide) hv

/-- 'wheel.Next' -/
def M63 : MC := (.seq (.reg [⟨(some 2), none, (.alloc [(.pv (.sc (.int .i64 0))), (.pv (.sc (.int .u64 0)))])⟩, ⟨(some 3), none, (.q (.mv (.c (.bool false))))⟩] [] [0, 2] [2])
  (.seq (.seq (.reg [⟨(some 4), none, (.q (.mv (.t 0)))⟩, ⟨(some 5), none, (.q (.len (.t 4) false))⟩, ⟨(some 6), none, (.q (.bin .eql (.t 5) (.c (.int .i64 0))))⟩, ⟨(some 7), none, (.q (.mv (.t 6)))⟩,
  ⟨(some 8), (some (7, false)), (.q (.mv (.t 0)))⟩, ⟨(some 9), (some (7, false)), (.call (.f 60) [(.t 8)])⟩, ⟨(some 10), (some (7, false)), (.q (.bin .neq (.t 9) (.c (.int .i64 0))))⟩, ⟨(some 11),
  none, (.q (.pick (.t 7) (.c (.bool true)) (.t 10)))⟩] [] [0, 2, 11] [2, 1009]) (.cond (.t 11) (.seq (.reg [⟨(some 12), none, (.q (.mk [(.pv (.sc (.int .i64 0))), (.pv (.sc (.int .u64 0)))] []))⟩,
  ⟨none, none, (.st (.t 2) (.t 12) 2)⟩, ⟨(some 3), none, (.q (.mv (.c (.bool false))))⟩] [] [2, 3] [2]) .ret) .skip)) (.seq (.reg [⟨(some 13), none, (.q (.mv (.t 0)))⟩, ⟨(some 14), none,
  (.q (.ia (.t 13) (.c (.int .i64 0)) 2))⟩, ⟨(some 15), none, (.q (.ld (.t 14) 2 true))⟩, ⟨none, none, (.st (.t 2) (.t 15) 2)⟩, ⟨(some 3), none, (.q (.mv (.c (.bool true))))⟩] [] [2, 3] [2]) .ret)))
theorem mc63 : ofCode Try.prog [] Try.f63.ntmps [(0, ⟨[0, 2], [2], [], 0, [], none⟩),
    (1, ⟨[0, 2, 11], [2, 1009], [], 0, [], none⟩),
    (2, ⟨[2, 3], [2], [], 0, [], none⟩),
    (3, ⟨[2, 3], [2], [], 0, [], none⟩)] (Try.f63.body.getD .skip) = some M63 := by kernel_rfl
theorem Run63 {args : List PV} {v : AV} {rs : List (Nat × List PV)} (ids : List Bool) (h : args.length ≤ 16) (hv : run Try.prog (retK [RV.cell 2 2 true, RV.tmp 3] ids v rs) M63 [] ⟨entry 0 args, []⟩) : Fn Try.prog 63 args v rs :=
  Fn_run ids (by kernel_rfl) Try.func63 (by decide) rfl mc63 (by kernel_rfl) (by rw [Try.ntmps63]; exact h) (by rw [Try.ntmps63]; decide) hv

/-- 'wheel.At' -/
def M64 : MC := (.seq (.reg [⟨(some 4), none, (.q (.mv (.c (.int .i64 0))))⟩, ⟨(some 5), none, (.q (.mv (.c (.bool false))))⟩] [] [0, 1] []) (.seq (.seq (.reg [⟨(some 7), none, (.q (.mv (.t 0)))⟩,
  ⟨(some 8), none, (.call (.f 60) [(.t 7)])⟩, ⟨(some 9), none, (.q (.bin .neq (.t 8) (.c (.int .i64 0))))⟩] [] [0, 1, 9] [1008]) (.cond (.t 9) (.seq (.reg [⟨(some 4), none,
  (.q (.mv (.c (.int .i64 0))))⟩, ⟨(some 5), none, (.q (.mv (.c (.bool false))))⟩] [] [4, 5] []) .ret) .skip)) (.seq (.reg [⟨(some 10), none, (.q (.mv (.t 0)))⟩, ⟨(some 11), none, (.q (.mv (.t 1)))⟩,
  ⟨(some 12), none, (.call (.f 95) [(.t 10), (.t 11)])⟩, ⟨(some 6), none, (.q (.mv (.t 12)))⟩] [] [0, 6] [1012]) (.seq (.seq (.reg [⟨(some 13), none, (.q (.mv (.t 6)))⟩, ⟨(some 14), none,
  (.q (.bin .lss (.t 13) (.c (.int .i64 0))))⟩] [] [0, 6, 14] [1012]) (.cond (.t 14) (.seq (.reg [⟨(some 4), none, (.q (.mv (.c (.int .i64 0))))⟩, ⟨(some 5), none,
  (.q (.mv (.c (.bool false))))⟩] [] [4, 5] []) .ret) .skip)) (.seq (.reg [⟨(some 15), none, (.q (.mv (.t 0)))⟩, ⟨(some 16), none, (.q (.mv (.t 6)))⟩, ⟨(some 17), none, (.q (.ia (.t 15) (.t 16) 2))⟩,
  ⟨(some 18), none, (.q (.fa (.t 17) 0))⟩, ⟨(some 19), none, (.q (.ld (.t 18) 1 false))⟩, ⟨(some 4), none, (.q (.mv (.t 19)))⟩, ⟨(some 5), none, (.q (.mv (.c (.bool true))))⟩] [] [4, 5] []) .ret)))))
theorem mc64 : ofCode Try.prog [] Try.f64.ntmps [(0, ⟨[0, 1], [], [], 0, [], none⟩),
    (1, ⟨[0, 1, 9], [1008], [], 0, [], none⟩),
    (2, ⟨[4, 5], [], [], 0, [], none⟩),
    (3, ⟨[0, 6], [1012], [], 0, [], none⟩),
    (4, ⟨[0, 6, 14], [1012], [], 0, [], none⟩),
    (5, ⟨[4, 5], [], [], 0, [], none⟩),
    (6, ⟨[4, 5], [], [], 0, [], none⟩)] (Try.f64.body.getD .skip) = some M64 := by kernel_rfl
theorem Run64 {args : List PV} {v : AV} {rs : List (Nat × List PV)} (ids : List Bool) (h : args.length ≤ 20) (hv : run Try.prog (retK [RV.tmp 4, RV.tmp 5] ids v rs) M64 [] ⟨entry 0 args, []⟩) : Fn Try.prog 64 args v rs :=
  Fn_run ids (by kernel_rfl) Try.func64 (by decide) rfl mc64 (by kernel_rfl) (by rw [Try.ntmps64]; exact h) (by rw [Try.ntmps64]; decide) hv

/-- 'wheel.Stop' -/
def M61 : MC := (.seq (.reg [⟨(some 4), none, (.q (.mv .nil))⟩, ⟨(some 5), none, (.q (.mv (.c (.bool false))))⟩] [] [0, 1] []) (.seq (.seq (.reg [⟨(some 7), none, (.q (.mv (.t 0)))⟩, ⟨(some 8), none,
  (.call (.f 60) [(.t 7)])⟩, ⟨(some 9), none, (.q (.bin .neq (.t 8) (.c (.int .i64 0))))⟩] [] [0, 1, 9] [1008]) (.cond (.t 9) (.seq (.reg [⟨(some 4), none, (.q (.mv .nil))⟩, ⟨(some 5), none,
  (.q (.mv (.c (.bool false))))⟩] [] [4, 5] [1012, 1015]) .ret) .skip)) (.seq (.reg [⟨(some 10), none, (.q (.mv (.t 0)))⟩, ⟨(some 11), none, (.q (.mv (.t 1)))⟩, ⟨(some 12), none, (.call (.f 95)
  [(.t 10), (.t 11)])⟩, ⟨(some 6), none, (.q (.mv (.t 12)))⟩] [] [0, 6] [1012]) (.seq (.reg [⟨(some 13), none, (.q (.mv (.t 0)))⟩, ⟨(some 14), none, (.q (.mv (.t 6)))⟩, ⟨(some 15), none,
  (.call (.f 96) [(.t 13), (.t 14)])⟩, ⟨(some 16), none, (.q (.mv (.t 6)))⟩, ⟨(some 17), none, (.q (.bin .geq (.t 16) (.c (.int .i64 0))))⟩, ⟨(some 4), none, (.q (.mv (.t 15)))⟩, ⟨(some 5), none,
  (.q (.mv (.t 17)))⟩] [] [4, 5] [1012, 1015]) .ret))))
theorem mc61 : ofCode Try.prog [] Try.f61.ntmps [(0, ⟨[0, 1], [], [], 0, [], none⟩),
    (1, ⟨[0, 1, 9], [1008], [], 0, [], none⟩),
    (2, ⟨[4, 5], [1012, 1015], [], 0, [], none⟩),
    (3, ⟨[0, 6], [1012], [], 0, [], none⟩),
    (4, ⟨[4, 5], [1012, 1015], [], 0, [], none⟩)] (Try.f61.body.getD .skip) = some M61 := by kernel_rfl
theorem Run61 {args : List PV} {v : AV} {rs : List (Nat × List PV)} (ids : List Bool) (h : args.length ≤ 18) (hv : run Try.prog (retK [RV.tmp 4, RV.tmp 5] ids v rs) M61 [] ⟨entry 0 args, []⟩) : Fn Try.prog 61 args v rs :=
  Fn_run ids (by kernel_rfl) Try.func61 (by decide) rfl mc61 (by kernel_rfl) (by rw [Try.ntmps61]; exact h) (by rw [Try.ntmps61]; decide) hv

/-- 'wheel.Set' -/
def M62 : MC := (.seq (.reg [⟨(some 6), none, (.q (.mv .nil))⟩, ⟨(some 7), none, (.q (.mv (.c (.int .i64 0))))⟩] [] [0, 1, 2] []) (.seq (.seq (.reg [⟨(some 9), none, (.q (.mv (.t 0)))⟩, ⟨(some 10),
  none, (.call (.f 60) [(.t 9)])⟩, ⟨(some 11), none, (.q (.bin .neq (.t 10) (.c (.int .i64 0))))⟩, ⟨(some 12), none, (.q (.mv (.t 11)))⟩, ⟨(some 13), (some (12, false)), (.q (.mv (.t 2)))⟩,
  ⟨(some 14), (some (12, false)), (.q (.bin .lss (.t 13) (.c (.int .i64 0))))⟩, ⟨(some 15), none, (.q (.pick (.t 12) (.c (.bool true)) (.t 14)))⟩, ⟨(some 16), none, (.q (.mv (.t 15)))⟩, ⟨(some 17),
  (some (16, false)), (.q (.mv (.t 2)))⟩, ⟨(some 18), (some (16, false)), (.q (.bin .gtr (.t 17) (.c (.int .i64 1099511627775))))⟩, ⟨(some 19), none, (.q (.pick (.t 16) (.c (.bool true))
  (.t 18)))⟩] [] [0, 1, 2, 19] [1010]) (.cond (.t 19) (.seq (.reg [⟨(some 6), none, (.q (.mv .nil))⟩, ⟨(some 7), none, (.q (.mv (.c (.int .i64 1))))⟩] [] [6, 7] [37, 1032, 1038]) .ret) .skip))
  (.seq (.reg [⟨(some 20), none, (.q (.mv (.t 0)))⟩, ⟨(some 21), none, (.q (.mv (.t 1)))⟩, ⟨(some 22), none, (.call (.f 95) [(.t 20), (.t 21)])⟩, ⟨(some 8), none, (.q (.mv (.t 22)))⟩] [] [0, 1, 2,
  8] [1022]) (.seq (.seq (.reg [⟨(some 23), none, (.q (.mv (.t 8)))⟩, ⟨(some 24), none, (.q (.bin .lss (.t 23) (.c (.int .i64 0))))⟩, ⟨(some 25), none, (.q (.mv (.t 24)))⟩, ⟨(some 26), (some (25,
  true)), (.q (.mv (.t 0)))⟩, ⟨(some 27), (some (25, true)), (.q (.len (.t 26) false))⟩, ⟨(some 28), (some (25, true)), (.q (.bin .geq (.t 27) (.c (.int .i64 120))))⟩, ⟨(some 29), none,
  (.q (.pick (.t 25) (.t 28) (.c (.bool false))))⟩] [] [0, 1, 2, 8, 29] [1022]) (.cond (.t 29) (.seq (.reg [⟨(some 6), none, (.q (.mv .nil))⟩, ⟨(some 7), none, (.q (.mv (.c (.int .i64 6))))⟩] [] [6,
  7] [37, 1032, 1038]) .ret) .skip)) (.seq (.reg [⟨(some 30), none, (.q (.mv (.t 0)))⟩, ⟨(some 31), none, (.q (.mv (.t 8)))⟩, ⟨(some 32), none, (.call (.f 96) [(.t 30), (.t 31)])⟩, ⟨(some 33), none,
  (.q (.mv (.t 2)))⟩, ⟨(some 34), none, (.q (.mv (.t 1)))⟩, ⟨(some 35), none, (.q (.mk [(.pv (.sc (.int .i64 0))), (.pv (.sc (.int .u64 0)))] [(0, 1, (.t 33)), (1, 1, (.t 34))]))⟩, ⟨(some 36), none,
  (.lits [(.t 35)] 2)⟩, ⟨(some 37), none, (.app (.t 32) (.t 36) 2 16)⟩, ⟨(some 38), none, (.calls (.f 97) [(.t 37)])⟩, ⟨(some 6), none, (.q (.mv (.t 38)))⟩, ⟨(some 7), none,
  (.q (.mv (.c (.int .i64 0))))⟩] [] [6, 7] [37, 1032, 1038]) .ret)))))
theorem mc62 : ofCode Try.prog [38] Try.f62.ntmps [(0, ⟨[0, 1, 2], [], [], 0, [], none⟩),
    (1, ⟨[0, 1, 2, 19], [1010], [], 0, [], none⟩),
    (2, ⟨[6, 7], [37, 1032, 1038], [], 0, [], none⟩),
    (3, ⟨[0, 1, 2, 8], [1022], [], 0, [], none⟩),
    (4, ⟨[0, 1, 2, 8, 29], [1022], [], 0, [], none⟩),
    (5, ⟨[6, 7], [37, 1032, 1038], [], 0, [], none⟩),
    (6, ⟨[6, 7], [37, 1032, 1038], [], 0, [], none⟩)] (Try.f62.body.getD .skip) = some M62 := by kernel_rfl
theorem Run62 {args : List PV} {v : AV} {rs : List (Nat × List PV)} (ids : List Bool) (h : args.length ≤ 39) (hv : run Try.prog (retK [RV.tmp 6, RV.tmp 7] ids v rs) M62 [] ⟨entry 0 args, []⟩) : Fn Try.prog 62 args v rs :=
  Fn_run ids (by kernel_rfl) Try.func62 (by decide) rfl mc62 (by kernel_rfl) (by rw [Try.ntmps62]; exact h) (by rw [Try.ntmps62]; decide) hv

/-- 'wheel.Ring' -/
def B54_0 : MC := (.seq (.reg [⟨(some 16), none, (.q (.bin .lss (.t 15) (.t 14)))⟩] [] [1, 6, 7, 13, 14, 15, 16] [26, 31, 2006, 2007]) (.seq (.cond (.t 16) .skip (.exit 0))
  (.seq (.block 1 (.seq (.reg [⟨(some 17), none, (.q (.ia (.t 13) (.t 15) 2))⟩, ⟨(some 18), none, (.q (.ld (.t 17) 2 true))⟩, ⟨(some 9), none, (.alloc [(.pv (.sc (.int .i64 0))),
  (.pv (.sc (.int .u64 0)))])⟩, ⟨none, none, (.st (.t 9) (.t 18) 2)⟩] [] [1, 6, 7, 9, 13, 14, 15] [9, 26, 31, 2006, 2007]) (.seq (.reg [⟨(some 19), none, (.q (.fa (.t 9) 0))⟩, ⟨(some 20), none,
  (.q (.ld (.t 19) 1 false))⟩, ⟨(some 21), none, (.q (.mv (.t 1)))⟩, ⟨(some 22), none, (.q (.bin .gtr (.t 20) (.t 21)))⟩] [] [1, 6, 7, 9, 13, 14, 15, 22] [9, 26, 31, 2006, 2007]) (.cond (.t 22)
  (.reg [⟨(some 23), none, (.q (.mv (.t 6)))⟩, ⟨(some 24), none, (.q (.ld (.t 9) 2 true))⟩, ⟨(some 25), none, (.lits [(.t 24)] 2)⟩, ⟨(some 26), none, (.app (.t 23) (.t 25) 2 16)⟩, ⟨(some 6), none,
  (.q (.mv (.t 26)))⟩] [] [1, 6, 7, 13, 14, 15] [26, 31, 2006, 2007]) (.reg [⟨(some 27), none, (.q (.mv (.t 7)))⟩, ⟨(some 28), none, (.q (.fa (.t 9) 1))⟩, ⟨(some 29), none, (.q (.ld (.t 28)
  1 false))⟩, ⟨(some 30), none, (.lits [(.t 29)] 1)⟩, ⟨(some 31), none, (.app (.t 27) (.t 30) 1 8)⟩, ⟨(some 7), none, (.q (.mv (.t 31)))⟩] [] [1, 6, 7, 13, 14, 15] [26, 31, 2006, 2007])))))
  (.reg [⟨(some 32), none, (.q (.bin .add (.t 15) (.c (.int .i64 1))))⟩, ⟨(some 15), none, (.q (.mv (.t 32)))⟩] [] [1, 6, 7, 13, 14, 15] [26, 31, 2006, 2007]))))
def R54_0 : MC := (.seq (.reg [⟨(some 33), none, (.q (.mv (.t 6)))⟩, ⟨(some 34), none, (.q (.mv (.t 7)))⟩, ⟨(some 4), none, (.q (.mv (.t 33)))⟩, ⟨(some 5), none, (.q (.mv (.t 34)))⟩] [] [4, 5] [26,
  31, 2006, 2007]) .ret)
def M54 : MC := (.seq (.reg [⟨(some 4), none, (.q (.mv .nil))⟩, ⟨(some 5), none, (.q (.mv .nil))⟩] [] [0, 1] []) (.seq (.seq (.reg [⟨(some 10), none, (.q (.mv (.t 0)))⟩, ⟨(some 11), none,
  (.call (.f 60) [(.t 10)])⟩, ⟨(some 12), none, (.q (.bin .neq (.t 11) (.c (.int .i64 0))))⟩] [] [0, 1, 12] [1011]) (.cond (.t 12) (.seq (.reg [⟨(some 4), none, (.q (.mv .nil))⟩, ⟨(some 5), none,
  (.q (.mv .nil))⟩] [] [4, 5] [26, 31, 2006, 2007]) .ret) .skip)) (.seq (.reg [⟨(some 6), none, (.q (.mv .nil))⟩] [(6, 2006, 2)] [0, 1, 6] [26, 2006]) (.seq (.reg [⟨(some 7), none,
  (.q (.mv .nil))⟩] [(7, 2007, 1)] [0, 1, 6, 7] [26, 31, 2006, 2007]) (.seq (.seq (.reg [⟨(some 13), none, (.q (.mv (.t 0)))⟩, ⟨(some 14), none, (.q (.len (.t 13) false))⟩, ⟨(some 15), none,
  (.q (.mv (.c (.int .i64 0))))⟩] [] [1, 6, 7, 13, 14, 15] [26, 31, 2006, 2007]) (.block 0 (.loop B54_0))) R54_0)))))
theorem mc54 : ofCode Try.prog [] Try.f54.ntmps [(0, ⟨[0, 1], [], [], 0, [], none⟩),
    (1, ⟨[0, 1, 12], [1011], [], 0, [], none⟩),
    (2, ⟨[4, 5], [26, 31, 2006, 2007], [], 0, [], none⟩),
    (3, ⟨[0, 1, 6], [26, 2006], [], 0, [(6, 2006, 2)], none⟩),
    (4, ⟨[0, 1, 6, 7], [26, 31, 2006, 2007], [], 0, [(7, 2007, 1)], none⟩),
    (5, ⟨[1, 6, 7, 13, 14, 15], [26, 31, 2006, 2007], [], 0, [], none⟩),
    (6, ⟨[1, 6, 7, 13, 14, 15, 16], [26, 31, 2006, 2007], [], 0, [], none⟩),
    (7, ⟨[1, 6, 7, 9, 13, 14, 15], [9, 26, 31, 2006, 2007], [], 0, [], none⟩),
    (8, ⟨[1, 6, 7, 9, 13, 14, 15, 22], [9, 26, 31, 2006, 2007], [], 0, [], none⟩),
    (9, ⟨[1, 6, 7, 13, 14, 15], [26, 31, 2006, 2007], [], 0, [], none⟩),
    (10, ⟨[1, 6, 7, 13, 14, 15], [26, 31, 2006, 2007], [], 0, [], none⟩),
    (11, ⟨[1, 6, 7, 13, 14, 15], [26, 31, 2006, 2007], [], 0, [], none⟩),
    (12, ⟨[4, 5], [26, 31, 2006, 2007], [], 0, [], none⟩)] (Try.f54.body.getD .skip) = some M54 := by kernel_rfl
theorem Run54 {args : List PV} {v : AV} {rs : List (Nat × List PV)} (ids : List Bool) (h : args.length ≤ 35) (hv : run Try.prog (retK [RV.tmp 4, RV.tmp 5] ids v rs) M54 [] ⟨entry 0 args, []⟩) : Fn Try.prog 54 args v rs :=
  Fn_run ids (by kernel_rfl) Try.func54 (by decide) rfl mc54 (by kernel_rfl) (by rw [Try.ntmps54]; exact h) (by rw [Try.ntmps54]; decide) hv

/-- 'trystref11.Ring' -/
def B57_0 : MC := (.seq (.seq (.reg [⟨(some 9), none, (.q (.mv (.t 8)))⟩, ⟨(some 10), none, (.q (.mv (.t 0)))⟩, ⟨(some 11), none, (.q (.len (.t 10) false))⟩, ⟨(some 12), none, (.q (.bin .lss (.t 9)
  (.t 11)))⟩] [] [0, 1, 6, 7, 8, 12] [29, 36, 2006, 2007]) (.cond (.t 12) .skip (.exit 0))) (.seq (.block 1 (.seq (.reg [⟨(some 15), none, (.q (.mv (.t 0)))⟩, ⟨(some 16), none, (.q (.mv (.t 8)))⟩,
  ⟨(some 17), none, (.q (.ia (.t 15) (.t 16) 2))⟩, ⟨(some 18), none, (.q (.fa (.t 17) 0))⟩, ⟨(some 19), none, (.q (.ld (.t 18) 1 false))⟩, ⟨(some 20), none, (.q (.mv (.t 1)))⟩, ⟨(some 21), none,
  (.q (.bin .leq (.t 19) (.t 20)))⟩] [] [0, 1, 6, 7, 8, 21] [29, 36, 2006, 2007]) (.cond (.t 21) (.reg [⟨(some 22), none, (.q (.mv (.t 7)))⟩, ⟨(some 23), none, (.q (.mv (.t 0)))⟩, ⟨(some 24), none,
  (.q (.mv (.t 8)))⟩, ⟨(some 25), none, (.q (.ia (.t 23) (.t 24) 2))⟩, ⟨(some 26), none, (.q (.fa (.t 25) 1))⟩, ⟨(some 27), none, (.q (.ld (.t 26) 1 false))⟩, ⟨(some 28), none, (.lits [(.t 27)] 1)⟩,
  ⟨(some 29), none, (.app (.t 22) (.t 28) 1 8)⟩, ⟨(some 7), none, (.q (.mv (.t 29)))⟩] [] [0, 1, 6, 7, 8] [29, 36, 2006, 2007]) (.reg [⟨(some 30), none, (.q (.mv (.t 6)))⟩, ⟨(some 31), none,
  (.q (.mv (.t 0)))⟩, ⟨(some 32), none, (.q (.mv (.t 8)))⟩, ⟨(some 33), none, (.q (.ia (.t 31) (.t 32) 2))⟩, ⟨(some 34), none, (.q (.ld (.t 33) 2 true))⟩, ⟨(some 35), none, (.lits [(.t 34)] 2)⟩,
  ⟨(some 36), none, (.app (.t 30) (.t 35) 2 16)⟩, ⟨(some 6), none, (.q (.mv (.t 36)))⟩] [] [0, 1, 6, 7, 8] [29, 36, 2006, 2007])))) (.reg [⟨(some 13), none, (.q (.mv (.t 8)))⟩, ⟨(some 14), none,
  (.q (.bin .add (.t 13) (.c (.int .i64 1))))⟩, ⟨(some 8), none, (.q (.mv (.t 14)))⟩] [] [0, 1, 6, 7, 8] [29, 36, 2006, 2007])))
def R57_0 : MC := (.seq (.reg [⟨(some 37), none, (.q (.mv (.t 6)))⟩, ⟨(some 38), none, (.q (.mv (.t 7)))⟩, ⟨(some 4), none, (.q (.mv (.t 37)))⟩, ⟨(some 5), none, (.q (.mv (.t 38)))⟩] [] [4, 5] [29,
  36, 2006, 2007]) .ret)
def M57 : MC := (.seq (.reg [⟨(some 4), none, (.q (.mv .nil))⟩, ⟨(some 5), none, (.q (.mv .nil))⟩] [] [0, 1] []) (.seq (.reg [⟨(some 6), none, (.q (.mv .nil))⟩] [(6, 2006, 2)] [0, 1, 6] [36, 2006])
  (.seq (.reg [⟨(some 7), none, (.q (.mv .nil))⟩] [(7, 2007, 1)] [0, 1, 6, 7] [29, 36, 2006, 2007]) (.seq (.seq (.reg [⟨(some 8), none, (.q (.mv (.c (.int .i64 0))))⟩] [] [0, 1, 6, 7, 8] [29, 36,
  2006, 2007]) (.block 0 (.loop B57_0))) R57_0))))
theorem mc57 : ofCode Try.prog [] Try.f57.ntmps [(0, ⟨[0, 1], [], [], 0, [], none⟩),
    (1, ⟨[0, 1, 6], [36, 2006], [], 0, [(6, 2006, 2)], none⟩),
    (2, ⟨[0, 1, 6, 7], [29, 36, 2006, 2007], [], 0, [(7, 2007, 1)], none⟩),
    (3, ⟨[0, 1, 6, 7, 8], [29, 36, 2006, 2007], [], 0, [], none⟩),
    (4, ⟨[0, 1, 6, 7, 8, 12], [29, 36, 2006, 2007], [], 0, [], none⟩),
    (5, ⟨[0, 1, 6, 7, 8], [29, 36, 2006, 2007], [], 0, [], none⟩),
    (6, ⟨[0, 1, 6, 7, 8, 21], [29, 36, 2006, 2007], [], 0, [], none⟩),
    (7, ⟨[0, 1, 6, 7, 8], [29, 36, 2006, 2007], [], 0, [], none⟩),
    (8, ⟨[0, 1, 6, 7, 8], [29, 36, 2006, 2007], [], 0, [], none⟩),
    (9, ⟨[4, 5], [29, 36, 2006, 2007], [], 0, [], none⟩)] (Try.f57.body.getD .skip) = some M57 := by kernel_rfl
theorem Run57 {args : List PV} {v : AV} {rs : List (Nat × List PV)} (ids : List Bool) (h : args.length ≤ 39) (hv : run Try.prog (retK [RV.tmp 4, RV.tmp 5] ids v rs) M57 [] ⟨entry 0 args, []⟩) : Fn Try.prog 57 args v rs :=
  Fn_run ids (by kernel_rfl) Try.func57 (by decide) rfl mc57 (by kernel_rfl) (by rw [Try.ntmps57]; exact h) (by rw [Try.ntmps57]; decide) hv

/-- 'trystref11.Stop' -/
def B67_0 : MC := (.seq (.seq (.reg [⟨(some 7), none, (.q (.mv (.t 6)))⟩, ⟨(some 8), none, (.q (.mv (.t 0)))⟩, ⟨(some 9), none, (.q (.len (.t 8) false))⟩, ⟨(some 10), none, (.q (.bin .lss (.t 7)
  (.t 9)))⟩] [] [0, 1, 5, 6, 10] [26, 2005]) (.cond (.t 10) .skip (.exit 0))) (.seq (.block 1 (.seq (.reg [⟨(some 13), none, (.q (.mv (.t 0)))⟩, ⟨(some 14), none, (.q (.mv (.t 6)))⟩, ⟨(some 15), none,
  (.q (.ia (.t 13) (.t 14) 2))⟩, ⟨(some 16), none, (.q (.fa (.t 15) 1))⟩, ⟨(some 17), none, (.q (.ld (.t 16) 1 false))⟩, ⟨(some 18), none, (.q (.mv (.t 1)))⟩, ⟨(some 19), none, (.q (.bin .neq (.t 17)
  (.t 18)))⟩] [] [0, 1, 5, 6, 19] [26, 2005]) (.cond (.t 19) (.reg [⟨(some 20), none, (.q (.mv (.t 5)))⟩, ⟨(some 21), none, (.q (.mv (.t 0)))⟩, ⟨(some 22), none, (.q (.mv (.t 6)))⟩, ⟨(some 23), none,
  (.q (.ia (.t 21) (.t 22) 2))⟩, ⟨(some 24), none, (.q (.ld (.t 23) 2 true))⟩, ⟨(some 25), none, (.lits [(.t 24)] 2)⟩, ⟨(some 26), none, (.app (.t 20) (.t 25) 2 16)⟩, ⟨(some 5), none,
  (.q (.mv (.t 26)))⟩] [] [0, 1, 5, 6] [26, 2005]) .skip))) (.reg [⟨(some 11), none, (.q (.mv (.t 6)))⟩, ⟨(some 12), none, (.q (.bin .add (.t 11) (.c (.int .i64 1))))⟩, ⟨(some 6), none,
  (.q (.mv (.t 12)))⟩] [] [0, 1, 5, 6] [26, 2005])))
def R67_0 : MC := (.seq (.reg [⟨(some 27), none, (.q (.mv (.t 5)))⟩, ⟨(some 4), none, (.q (.mv (.t 27)))⟩] [] [4] [26, 2005]) .ret)
def M67 : MC := (.seq (.reg [⟨(some 4), none, (.q (.mv .nil))⟩] [] [0, 1] []) (.seq (.reg [⟨(some 5), none, (.q (.mv .nil))⟩] [(5, 2005, 2)] [0, 1, 5] [26, 2005]) (.seq (.seq (.reg [⟨(some 6), none,
  (.q (.mv (.c (.int .i64 0))))⟩] [] [0, 1, 5, 6] [26, 2005]) (.block 0 (.loop B67_0))) R67_0)))
theorem mc67 : ofCode Try.prog [] Try.f67.ntmps [(0, ⟨[0, 1], [], [], 0, [], none⟩),
    (1, ⟨[0, 1, 5], [26, 2005], [], 0, [(5, 2005, 2)], none⟩),
    (2, ⟨[0, 1, 5, 6], [26, 2005], [], 0, [], none⟩),
    (3, ⟨[0, 1, 5, 6, 10], [26, 2005], [], 0, [], none⟩),
    (4, ⟨[0, 1, 5, 6], [26, 2005], [], 0, [], none⟩),
    (5, ⟨[0, 1, 5, 6, 19], [26, 2005], [], 0, [], none⟩),
    (6, ⟨[0, 1, 5, 6], [26, 2005], [], 0, [], none⟩),
    (7, ⟨[4], [26, 2005], [], 0, [], none⟩)] (Try.f67.body.getD .skip) = some M67 := by kernel_rfl
theorem Run67 {args : List PV} {v : AV} {rs : List (Nat × List PV)} (ids : List Bool) (h : args.length ≤ 28) (hv : run Try.prog (retK [RV.tmp 4] ids v rs) M67 [] ⟨entry 0 args, []⟩) : Fn Try.prog 67 args v rs :=
  Fn_run ids (by kernel_rfl) Try.func67 (by decide) rfl mc67 (by kernel_rfl) (by rw [Try.ntmps67]; exact h) (by rw [Try.ntmps67]; decide) hv

/-- 'trystref11.At' -/
def B66_0 : MC := (.seq (.seq (.reg [⟨(some 7), none, (.q (.mv (.t 6)))⟩, ⟨(some 8), none, (.q (.mv (.t 0)))⟩, ⟨(some 9), none, (.q (.len (.t 8) false))⟩, ⟨(some 10), none, (.q (.bin .lss (.t 7)
  (.t 9)))⟩, ⟨(some 11), none, (.q (.mv (.t 10)))⟩, ⟨(some 12), (some (11, true)), (.q (.mv (.t 0)))⟩, ⟨(some 13), (some (11, true)), (.call (.f 55) [(.t 12)])⟩, ⟨(some 14), none, (.q (.pick (.t 11)
  (.t 13) (.c (.bool false))))⟩] [] [0, 1, 6, 14] [1013]) (.cond (.t 14) .skip (.exit 0))) (.seq (.block 1 (.seq (.reg [⟨(some 17), none, (.q (.mv (.t 0)))⟩, ⟨(some 18), none, (.q (.mv (.t 6)))⟩,
  ⟨(some 19), none, (.q (.ia (.t 17) (.t 18) 2))⟩, ⟨(some 20), none, (.q (.fa (.t 19) 1))⟩, ⟨(some 21), none, (.q (.ld (.t 20) 1 false))⟩, ⟨(some 22), none, (.q (.mv (.t 1)))⟩, ⟨(some 23), none,
  (.q (.bin .eql (.t 21) (.t 22)))⟩] [] [0, 1, 6, 23] []) (.cond (.t 23) (.seq (.reg [⟨(some 24), none, (.q (.mv (.t 0)))⟩, ⟨(some 25), none, (.q (.mv (.t 6)))⟩, ⟨(some 26), none, (.q (.ia (.t 24)
  (.t 25) 2))⟩, ⟨(some 27), none, (.q (.fa (.t 26) 0))⟩, ⟨(some 28), none, (.q (.ld (.t 27) 1 false))⟩, ⟨(some 4), none, (.q (.mv (.t 28)))⟩, ⟨(some 5), none, (.q (.mv (.c (.bool true))))⟩] [] [4,
  5] []) .ret) .skip))) (.reg [⟨(some 15), none, (.q (.mv (.t 6)))⟩, ⟨(some 16), none, (.q (.bin .add (.t 15) (.c (.int .i64 1))))⟩, ⟨(some 6), none, (.q (.mv (.t 16)))⟩] [] [0, 1, 6] [])))
def R66_0 : MC := (.seq (.reg [⟨(some 4), none, (.q (.mv (.c (.int .i64 0))))⟩, ⟨(some 5), none, (.q (.mv (.c (.bool false))))⟩] [] [4, 5] []) .ret)
def M66 : MC := (.seq (.reg [⟨(some 4), none, (.q (.mv (.c (.int .i64 0))))⟩, ⟨(some 5), none, (.q (.mv (.c (.bool false))))⟩] [] [0, 1] []) (.seq (.seq (.reg [⟨(some 6), none,
  (.q (.mv (.c (.int .i64 0))))⟩] [] [0, 1, 6] []) (.block 0 (.loop B66_0))) R66_0))
theorem mc66 : ofCode Try.prog [] Try.f66.ntmps [(0, ⟨[0, 1], [], [], 0, [], none⟩),
    (1, ⟨[0, 1, 6], [], [], 0, [], none⟩),
    (2, ⟨[0, 1, 6, 14], [1013], [], 0, [], none⟩),
    (3, ⟨[0, 1, 6], [], [], 0, [], none⟩),
    (4, ⟨[0, 1, 6, 23], [], [], 0, [], none⟩),
    (5, ⟨[4, 5], [], [], 0, [], none⟩),
    (6, ⟨[4, 5], [], [], 0, [], none⟩)] (Try.f66.body.getD .skip) = some M66 := by kernel_rfl
theorem Run66 {args : List PV} {v : AV} {rs : List (Nat × List PV)} (ids : List Bool) (h : args.length ≤ 29) (hv : run Try.prog (retK [RV.tmp 4, RV.tmp 5] ids v rs) M66 [] ⟨entry 0 args, []⟩) : Fn Try.prog 66 args v rs :=
  Fn_run ids (by kernel_rfl) Try.func66 (by decide) rfl mc66 (by kernel_rfl) (by rw [Try.ntmps66]; exact h) (by rw [Try.ntmps66]; decide) hv

/-- 'trystref11.Set' -/
def B65_0 : MC := (.seq (.seq (.reg [⟨(some 33), none, (.q (.mv (.t 11)))⟩, ⟨(some 34), none, (.q (.mv (.t 8)))⟩, ⟨(some 35), none, (.q (.len (.t 34) false))⟩, ⟨(some 36), none, (.q (.bin .lss (.t 33)
  (.t 35)))⟩] [] [8, 9, 10, 11, 36] [9, 51, 57, 1026, 2010]) (.cond (.t 36) .skip (.exit 0))) (.seq (.block 1 (.seq (.reg [⟨(some 39), none, (.q (.mv (.t 8)))⟩, ⟨(some 40), none, (.q (.mv (.t 11)))⟩,
  ⟨(some 41), none, (.q (.ia (.t 39) (.t 40) 2))⟩, ⟨(some 42), none, (.q (.ld (.t 41) 2 true))⟩, ⟨(some 43), none, (.q (.ld (.t 9) 2 true))⟩, ⟨(some 44), none, (.call (.f 93) [(.t 42),
  (.t 43)])⟩] [] [8, 9, 10, 11, 44] [9, 51, 57, 1026, 1044, 2010]) (.cond (.t 44) (.reg [⟨(some 45), none, (.q (.mv (.t 10)))⟩, ⟨(some 46), none, (.q (.mv (.t 8)))⟩, ⟨(some 47), none,
  (.q (.mv (.t 11)))⟩, ⟨(some 48), none, (.q (.ia (.t 46) (.t 47) 2))⟩, ⟨(some 49), none, (.q (.ld (.t 48) 2 true))⟩, ⟨(some 50), none, (.lits [(.t 49)] 2)⟩, ⟨(some 51), none, (.app (.t 45) (.t 50)
  2 16)⟩, ⟨(some 10), none, (.q (.mv (.t 51)))⟩] [] [8, 9, 10, 11] [9, 51, 57, 1026, 2010]) .skip))) (.reg [⟨(some 37), none, (.q (.mv (.t 11)))⟩, ⟨(some 38), none, (.q (.bin .add (.t 37)
  (.c (.int .i64 1))))⟩, ⟨(some 11), none, (.q (.mv (.t 38)))⟩] [] [8, 9, 10, 11] [9, 51, 57, 1026, 2010])))
def R65_0 : MC := (.seq (.reg [⟨(some 52), none, (.q (.mv (.t 10)))⟩, ⟨(some 53), none, (.q (.len (.t 52) false))⟩, ⟨(some 12), none, (.q (.mv (.t 53)))⟩] [] [8, 9, 10, 12] [9, 51, 57, 1026, 2010])
  (.seq (.reg [⟨(some 54), none, (.q (.mv (.t 10)))⟩, ⟨(some 55), none, (.q (.ld (.t 9) 2 true))⟩, ⟨(some 56), none, (.lits [(.t 55)] 2)⟩, ⟨(some 57), none, (.app (.t 54) (.t 56) 2 16)⟩, ⟨(some 10),
  none, (.q (.mv (.t 57)))⟩] [] [8, 10, 12] [51, 57, 1026, 2010]) (.seq (.reg [⟨(some 58), none, (.q (.mv (.t 10)))⟩, ⟨(some 59), none, (.q (.mv (.t 8)))⟩, ⟨(some 60), none, (.q (.mv (.t 12)))⟩,
  ⟨(some 61), none, (.q (.slc (.t 59) (some (.t 60)) none 2 false))⟩, ⟨(some 62), none, (.app (.t 58) (.t 61) 2 16)⟩, ⟨(some 6), none, (.q (.mv (.t 62)))⟩, ⟨(some 7), none,
  (.q (.mv (.c (.int .i64 0))))⟩] [] [6, 7] [51, 57, 62, 2010]) .ret)))
def M65 : MC := (.seq (.reg [⟨(some 6), none, (.q (.mv .nil))⟩, ⟨(some 7), none, (.q (.mv (.c (.int .i64 0))))⟩] [] [0, 1, 2] []) (.seq (.seq (.reg [⟨(some 13), none, (.q (.mv (.t 0)))⟩, ⟨(some 14),
  none, (.call (.f 55) [(.t 13)])⟩, ⟨(some 15), none, (.q (.not (.t 14)))⟩, ⟨(some 16), none, (.q (.mv (.t 15)))⟩, ⟨(some 17), (some (16, false)), (.q (.mv (.t 2)))⟩, ⟨(some 18), (some (16, false)),
  (.q (.bin .lss (.t 17) (.c (.int .i64 0))))⟩, ⟨(some 19), none, (.q (.pick (.t 16) (.c (.bool true)) (.t 18)))⟩, ⟨(some 20), none, (.q (.mv (.t 19)))⟩, ⟨(some 21), (some (20, false)),
  (.q (.mv (.t 2)))⟩, ⟨(some 22), (some (20, false)), (.q (.bin .gtr (.t 21) (.c (.int .i64 1099511627775))))⟩, ⟨(some 23), none, (.q (.pick (.t 20) (.c (.bool true)) (.t 22)))⟩] [] [0, 1, 2,
  23] [1014]) (.cond (.t 23) (.seq (.reg [⟨(some 6), none, (.q (.mv .nil))⟩, ⟨(some 7), none, (.q (.mv (.c (.int .i64 1))))⟩] [] [6, 7] [51, 57, 62, 2010]) .ret) .skip)) (.seq (.reg [⟨(some 24), none,
  (.q (.mv (.t 0)))⟩, ⟨(some 25), none, (.q (.mv (.t 1)))⟩, ⟨(some 26), none, (.call (.f 67) [(.t 24), (.t 25)])⟩, ⟨(some 8), none, (.q (.mv (.t 26)))⟩] [] [1, 2, 8] [1026])
  (.seq (.seq (.reg [⟨(some 27), none, (.q (.mv (.t 8)))⟩, ⟨(some 28), none, (.q (.len (.t 27) false))⟩, ⟨(some 29), none, (.q (.bin .geq (.t 28) (.c (.int .i64 120))))⟩] [] [1, 2, 8, 29] [1026])
  (.cond (.t 29) (.seq (.reg [⟨(some 6), none, (.q (.mv .nil))⟩, ⟨(some 7), none, (.q (.mv (.c (.int .i64 6))))⟩] [] [6, 7] [51, 57, 62, 2010]) .ret) .skip)) (.seq (.reg [⟨(some 30), none,
  (.q (.mv (.t 2)))⟩, ⟨(some 31), none, (.q (.mv (.t 1)))⟩, ⟨(some 32), none, (.q (.mk [(.pv (.sc (.int .i64 0))), (.pv (.sc (.int .u64 0)))] [(0, 1, (.t 30)), (1, 1, (.t 31))]))⟩, ⟨(some 9), none,
  (.alloc [(.pv (.sc (.int .i64 0))), (.pv (.sc (.int .u64 0)))])⟩, ⟨none, none, (.st (.t 9) (.t 32) 2)⟩] [] [8, 9] [9, 1026]) (.seq (.reg [⟨(some 10), none, (.q (.mv .nil))⟩] [(10, 2010, 2)] [8, 9,
  10] [9, 51, 57, 1026, 2010]) (.seq (.seq (.reg [⟨(some 11), none, (.q (.mv (.c (.int .i64 0))))⟩] [] [8, 9, 10, 11] [9, 51, 57, 1026, 2010]) (.block 0 (.loop B65_0))) R65_0)))))))
theorem mc65 : ofCode Try.prog [] Try.f65.ntmps [(0, ⟨[0, 1, 2], [], [], 0, [], none⟩),
    (1, ⟨[0, 1, 2, 23], [1014], [], 0, [], none⟩),
    (2, ⟨[6, 7], [51, 57, 62, 2010], [], 0, [], none⟩),
    (3, ⟨[1, 2, 8], [1026], [], 0, [], none⟩),
    (4, ⟨[1, 2, 8, 29], [1026], [], 0, [], none⟩),
    (5, ⟨[6, 7], [51, 57, 62, 2010], [], 0, [], none⟩),
    (6, ⟨[8, 9], [9, 1026], [], 0, [], none⟩),
    (7, ⟨[8, 9, 10], [9, 51, 57, 1026, 2010], [], 0, [(10, 2010, 2)], none⟩),
    (8, ⟨[8, 9, 10, 11], [9, 51, 57, 1026, 2010], [], 0, [], none⟩),
    (9, ⟨[8, 9, 10, 11, 36], [9, 51, 57, 1026, 2010], [], 0, [], none⟩),
    (10, ⟨[8, 9, 10, 11], [9, 51, 57, 1026, 2010], [], 0, [], none⟩),
    (11, ⟨[8, 9, 10, 11, 44], [9, 51, 57, 1026, 1044, 2010], [(0, 45), (1, 46), (2, 44), (3, 40), (4, 48), (5, 0)], 63, [], none⟩),
    (12, ⟨[8, 9, 10, 11], [9, 51, 57, 1026, 2010], [], 0, [], none⟩),
    (13, ⟨[8, 9, 10, 12], [9, 51, 57, 1026, 2010], [], 0, [], none⟩),
    (14, ⟨[8, 10, 12], [51, 57, 1026, 2010], [], 0, [], none⟩),
    (15, ⟨[6, 7], [51, 57, 62, 2010], [], 0, [], none⟩)] (Try.f65.body.getD .skip) = some M65 := by kernel_rfl
theorem Run65 {args : List PV} {v : AV} {rs : List (Nat × List PV)} (ids : List Bool) (h : args.length ≤ 63) (hv : run Try.prog (retK [RV.tmp 6, RV.tmp 7] ids v rs) M65 [] ⟨entry 0 args, []⟩) : Fn Try.prog 65 args v rs :=
  Fn_run ids (by kernel_rfl) Try.func65 (by decide) rfl mc65 (by kernel_rfl) (by rw [Try.ntmps65]; exact h) (by rw [Try.ntmps65]; decide) hv

/-- 'trystref11.May' -/
def B55_1 : MC := (.seq (.seq (.reg [⟨(some 42), none, (.q (.mv (.t 4)))⟩, ⟨(some 43), none, (.q (.mv (.t 3)))⟩, ⟨(some 44), none, (.q (.bin .lss (.t 42) (.t 43)))⟩] [] [0, 3, 4, 44] [])
  (.cond (.t 44) .skip (.exit 2))) (.seq (.block 3 (.seq (.reg [⟨(some 47), none, (.q (.mv (.t 0)))⟩, ⟨(some 48), none, (.q (.mv (.t 4)))⟩, ⟨(some 49), none, (.q (.ia (.t 47) (.t 48) 2))⟩, ⟨(some 50),
  none, (.q (.fa (.t 49) 1))⟩, ⟨(some 51), none, (.q (.ld (.t 50) 1 false))⟩, ⟨(some 52), none, (.q (.mv (.t 0)))⟩, ⟨(some 53), none, (.q (.mv (.t 3)))⟩, ⟨(some 54), none, (.q (.ia (.t 52) (.t 53)
  2))⟩, ⟨(some 55), none, (.q (.fa (.t 54) 1))⟩, ⟨(some 56), none, (.q (.ld (.t 55) 1 false))⟩, ⟨(some 57), none, (.q (.bin .eql (.t 51) (.t 56)))⟩] [] [0, 3, 4, 57] []) (.cond (.t 57)
  (.seq (.reg [⟨(some 2), none, (.q (.mv (.c (.bool false))))⟩] [] [2] []) .ret) .skip))) (.reg [⟨(some 45), none, (.q (.mv (.t 4)))⟩, ⟨(some 46), none, (.q (.bin .add (.t 45) (.c (.int .i64 1))))⟩,
  ⟨(some 4), none, (.q (.mv (.t 46)))⟩] [] [0, 3, 4] [])))
def B55_0 : MC := (.seq (.seq (.reg [⟨(some 5), none, (.q (.mv (.t 3)))⟩, ⟨(some 6), none, (.q (.mv (.t 0)))⟩, ⟨(some 7), none, (.q (.len (.t 6) false))⟩, ⟨(some 8), none, (.q (.bin .lss (.t 5)
  (.t 7)))⟩] [] [0, 3, 8] []) (.cond (.t 8) .skip (.exit 0))) (.seq (.block 1 (.seq (.seq (.reg [⟨(some 11), none, (.q (.mv (.t 0)))⟩, ⟨(some 12), none, (.q (.mv (.t 3)))⟩, ⟨(some 13), none,
  (.q (.ia (.t 11) (.t 12) 2))⟩, ⟨(some 14), none, (.q (.fa (.t 13) 0))⟩, ⟨(some 15), none, (.q (.ld (.t 14) 1 false))⟩, ⟨(some 16), none, (.q (.bin .lss (.t 15) (.c (.int .i64 0))))⟩, ⟨(some 17),
  none, (.q (.mv (.t 16)))⟩, ⟨(some 18), (some (17, false)), (.q (.mv (.t 0)))⟩, ⟨(some 19), (some (17, false)), (.q (.mv (.t 3)))⟩, ⟨(some 20), (some (17, false)), (.q (.ia (.t 18) (.t 19) 2))⟩,
  ⟨(some 21), (some (17, false)), (.q (.fa (.t 20) 0))⟩, ⟨(some 22), (some (17, false)), (.q (.ld (.t 21) 1 false))⟩, ⟨(some 23), (some (17, false)), (.q (.bin .gtr (.t 22)
  (.c (.int .i64 1099511627775))))⟩, ⟨(some 24), none, (.q (.pick (.t 17) (.c (.bool true)) (.t 23)))⟩, ⟨(some 25), none, (.q (.mv (.t 24)))⟩, ⟨(some 26), (some (25, false)), (.q (.mv (.t 3)))⟩,
  ⟨(some 27), (some (25, false)), (.q (.bin .gtr (.t 26) (.c (.int .i64 0))))⟩, ⟨(some 28), (some (25, false)), (.q (.mv (.t 27)))⟩, ⟨(some 29), (some (28, true)), (.q (.mv (.t 0)))⟩, ⟨(some 30),
  (some (28, true)), (.q (.mv (.t 3)))⟩, ⟨(some 31), (some (28, true)), (.q (.bin .sub (.t 30) (.c (.int .i64 1))))⟩, ⟨(some 32), (some (28, true)), (.q (.ia (.t 29) (.t 31) 2))⟩, ⟨(some 33),
  (some (28, true)), (.q (.ld (.t 32) 2 true))⟩, ⟨(some 34), (some (28, true)), (.q (.mv (.t 0)))⟩, ⟨(some 35), (some (28, true)), (.q (.mv (.t 3)))⟩, ⟨(some 36), (some (28, true)), (.q (.ia (.t 34)
  (.t 35) 2))⟩, ⟨(some 37), (some (28, true)), (.q (.ld (.t 36) 2 true))⟩, ⟨(some 38), (some (28, true)), (.call (.f 93) [(.t 33), (.t 37)])⟩, ⟨(some 39), (some (28, true)), (.q (.not (.t 38)))⟩,
  ⟨(some 40), (some (25, false)), (.q (.pick (.t 28) (.t 39) (.c (.bool false))))⟩, ⟨(some 41), none, (.q (.pick (.t 25) (.c (.bool true)) (.t 40)))⟩] [] [0, 3, 41] [1038]) (.cond (.t 41)
  (.seq (.reg [⟨(some 2), none, (.q (.mv (.c (.bool false))))⟩] [] [2] []) .ret) .skip)) (.seq (.reg [⟨(some 4), none, (.q (.mv (.c (.int .i64 0))))⟩] [] [0, 3, 4] []) (.block 2 (.loop B55_1)))))
  (.reg [⟨(some 9), none, (.q (.mv (.t 3)))⟩, ⟨(some 10), none, (.q (.bin .add (.t 9) (.c (.int .i64 1))))⟩, ⟨(some 3), none, (.q (.mv (.t 10)))⟩] [] [0, 3] [])))
def R55_0 : MC := (.seq (.reg [⟨(some 58), none, (.q (.mv (.t 0)))⟩, ⟨(some 59), none, (.q (.len (.t 58) false))⟩, ⟨(some 60), none, (.q (.bin .leq (.t 59) (.c (.int .i64 120))))⟩, ⟨(some 2), none,
  (.q (.mv (.t 60)))⟩] [] [2] []) .ret)
def M55 : MC := (.seq (.reg [⟨(some 2), none, (.q (.mv (.c (.bool false))))⟩] [] [0] []) (.seq (.seq (.reg [⟨(some 3), none, (.q (.mv (.c (.int .i64 0))))⟩] [] [0, 3] []) (.block 0 (.loop B55_0)))
  R55_0))
theorem mc55 : ofCode Try.prog [] Try.f55.ntmps [(0, ⟨[0], [], [], 0, [], none⟩),
    (1, ⟨[0, 3], [], [], 0, [], none⟩),
    (2, ⟨[0, 3, 8], [], [], 0, [], none⟩),
    (3, ⟨[0, 3], [], [], 0, [], none⟩),
    (4, ⟨[0, 3, 41], [1038], [(0, 2147483645), (1, 2147483646), (2, 2147483644), (3, 2147483640), (4, 2147483632), (5, 2147483616), (6, 2147483584), (7, 2147483264), (8, 2147483392), (9, 2147483136), (10, 2147482624), (11, 2147481600), (12, 2147479552), (13, 2147475456), (14, 2147467264), (15, 2147450880), (16, 2147418112), (17, 2147352576), (18, 2019819520), (19, 2021130240), (20, 2020605952), (21, 2019557376), (22, 2017460224), (23, 2122317824), (24, 2130706432), (25, 2113929216), (26, 2080374784), (27, 0), (28, 1879048192), (29, 1610612736), (30, 1073741824)], 2147483647, [], none⟩),
    (5, ⟨[2], [], [], 0, [], none⟩),
    (6, ⟨[0, 3, 4], [], [], 0, [], none⟩),
    (7, ⟨[0, 3, 4, 44], [], [], 0, [], none⟩),
    (8, ⟨[0, 3, 4], [], [], 0, [], none⟩),
    (9, ⟨[0, 3, 4, 57], [], [(0, 1053), (1, 1054), (2, 1052), (3, 1048), (4, 1040), (5, 1952), (6, 1984), (7, 1920), (8, 1792), (9, 1536), (10, 1024)], 2047, [], none⟩),
    (10, ⟨[2], [], [], 0, [], none⟩),
    (11, ⟨[2], [], [], 0, [], none⟩)] (Try.f55.body.getD .skip) = some M55 := by kernel_rfl
theorem Run55 {args : List PV} {v : AV} {rs : List (Nat × List PV)} (ids : List Bool) (h : args.length ≤ 61) (hv : run Try.prog (retK [RV.tmp 2] ids v rs) M55 [] ⟨entry 0 args, []⟩) : Fn Try.prog 55 args v rs :=
  Fn_run ids (by kernel_rfl) Try.func55 (by decide) rfl mc55 (by kernel_rfl) (by rw [Try.ntmps55]; exact h) (by rw [Try.ntmps55]; decide) hv

/-- 'trystlaw11.awake' -/
def M56 : MC := (.seq (.reg [⟨(some 0), none, (.q (.mv (.c (.bool false))))⟩] [] [] []) (.seq (.reg [⟨(some 11), none, (.call (.f 62) [.nil, (.c (.int .u64 1)), (.c (.int .i64 5))])⟩, ⟨(some 10),
  none, (.q (.mv (.t 11)))⟩, ⟨(some 12), none, (.q (.ext (.t 10) 0))⟩, ⟨(some 13), none, (.q (.ext (.t 10) 1))⟩, ⟨(some 1), none, (.q (.mv (.t 12)))⟩, ⟨(some 2), none, (.q (.mv (.t 13)))⟩] [] [1,
  2] [1011, 1016]) (.seq (.reg [⟨(some 15), none, (.q (.mv (.t 1)))⟩, ⟨(some 16), none, (.call (.f 62) [(.t 15), (.c (.int .u64 2)), (.c (.int .i64 3))])⟩, ⟨(some 14), none, (.q (.mv (.t 16)))⟩,
  ⟨(some 17), none, (.q (.ext (.t 14) 0))⟩, ⟨(some 18), none, (.q (.ext (.t 14) 1))⟩, ⟨(some 1), none, (.q (.mv (.t 17)))⟩, ⟨(some 3), none, (.q (.mv (.t 18)))⟩] [] [1, 2, 3] [1011, 1016])
  (.seq (.reg [⟨(some 20), none, (.q (.mv (.t 1)))⟩, ⟨(some 21), none, (.call (.f 54) [(.t 20), (.c (.int .i64 4))])⟩, ⟨(some 19), none, (.q (.mv (.t 21)))⟩, ⟨(some 22), none, (.q (.ext (.t 19) 0))⟩,
  ⟨(some 23), none, (.q (.ext (.t 19) 1))⟩, ⟨(some 4), none, (.q (.mv (.t 22)))⟩, ⟨(some 5), none, (.q (.mv (.t 23)))⟩] [] [1, 2, 3, 5] [1011, 1016, 1021]) (.seq (.reg [⟨(some 25), none,
  (.q (.mv (.t 1)))⟩, ⟨(some 26), none, (.call (.f 62) [(.t 25), (.c (.int .u64 2)), (.c (.int .i64 9))])⟩, ⟨(some 24), none, (.q (.mv (.t 26)))⟩, ⟨(some 27), none, (.q (.ext (.t 24) 0))⟩, ⟨(some 28),
  none, (.q (.ext (.t 24) 1))⟩, ⟨(some 6), none, (.q (.mv (.t 27)))⟩, ⟨(some 7), none, (.q (.mv (.t 28)))⟩] [] [1, 2, 3, 5, 6, 7] [1011, 1016, 1021, 1026]) (.seq (.reg [⟨(some 30), none,
  (.q (.mv (.t 1)))⟩, ⟨(some 31), none, (.call (.f 61) [(.t 30), (.c (.int .u64 7))])⟩, ⟨(some 29), none, (.q (.mv (.t 31)))⟩, ⟨(some 32), none, (.q (.ext (.t 29) 0))⟩, ⟨(some 33), none,
  (.q (.ext (.t 29) 1))⟩, ⟨(some 8), none, (.q (.mv (.t 32)))⟩, ⟨(some 9), none, (.q (.mv (.t 33)))⟩] [] [2, 3, 5, 6, 7, 9] [1011, 1016, 1021, 1026, 1031]) (.seq (.reg [⟨(some 34), none,
  (.q (.mv (.t 2)))⟩, ⟨(some 35), none, (.q (.bin .eql (.t 34) (.c (.int .i64 0))))⟩, ⟨(some 36), none, (.q (.mv (.t 35)))⟩, ⟨(some 37), (some (36, true)), (.q (.mv (.t 3)))⟩, ⟨(some 38), (some (36,
  true)), (.q (.bin .eql (.t 37) (.c (.int .i64 0))))⟩, ⟨(some 39), none, (.q (.pick (.t 36) (.t 38) (.c (.bool false))))⟩, ⟨(some 40), none, (.q (.mv (.t 39)))⟩, ⟨(some 41), (some (40, true)),
  (.q (.mv (.t 5)))⟩, ⟨(some 42), (some (40, true)), (.lits [(.c (.int .u64 2))] 1)⟩, ⟨(some 43), (some (40, true)), (.call (.f 59) [(.t 41), (.t 42)])⟩, ⟨(some 44), none, (.q (.pick (.t 40) (.t 43)
  (.c (.bool false))))⟩, ⟨(some 45), none, (.q (.mv (.t 44)))⟩, ⟨(some 46), (some (45, true)), (.q (.mv (.t 6)))⟩, ⟨(some 47), (some (45, true)), (.q (.len (.t 46) false))⟩, ⟨(some 48), (some (45,
  true)), (.q (.bin .eql (.t 47) (.c (.int .i64 2))))⟩, ⟨(some 49), none, (.q (.pick (.t 45) (.t 48) (.c (.bool false))))⟩, ⟨(some 50), none, (.q (.mv (.t 49)))⟩, ⟨(some 51), (some (50, true)),
  (.q (.mv (.t 7)))⟩, ⟨(some 52), (some (50, true)), (.q (.bin .eql (.t 51) (.c (.int .i64 0))))⟩, ⟨(some 53), none, (.q (.pick (.t 50) (.t 52) (.c (.bool false))))⟩, ⟨(some 54), none,
  (.q (.mv (.t 53)))⟩, ⟨(some 55), (some (54, true)), (.q (.mv (.t 9)))⟩, ⟨(some 56), (some (54, true)), (.q (.not (.t 55)))⟩, ⟨(some 57), none, (.q (.pick (.t 54) (.t 56) (.c (.bool false))))⟩,
  ⟨(some 58), none, (.q (.mv (.t 57)))⟩, ⟨(some 59), none, (.q (.pick (.t 58) (.c (.bool true)) (.c (.bool false))))⟩, ⟨(some 0), none, (.q (.mv (.t 59)))⟩] [] [0] [1011, 1016, 1026, 1031, 1043])
  .ret)))))))
theorem mc56 : ofCode Try.prog [] Try.f56.ntmps [(0, ⟨[], [], [], 0, [], none⟩),
    (1, ⟨[1, 2], [1011, 1016], [], 0, [], none⟩),
    (2, ⟨[1, 2, 3], [1011, 1016], [], 0, [], none⟩),
    (3, ⟨[1, 2, 3, 5], [1011, 1016, 1021], [], 0, [], none⟩),
    (4, ⟨[1, 2, 3, 5, 6, 7], [1011, 1016, 1021, 1026], [], 0, [], none⟩),
    (5, ⟨[2, 3, 5, 6, 7, 9], [1011, 1016, 1021, 1026, 1031], [], 0, [], none⟩),
    (6, ⟨[0], [1011, 1016, 1026, 1031, 1043], [], 0, [], none⟩)] (Try.f56.body.getD .skip) = some M56 := by kernel_rfl
theorem Run56 {args : List PV} {v : AV} {rs : List (Nat × List PV)} (ids : List Bool) (h : args.length ≤ 60) (hv : run Try.prog (retK [RV.tmp 0] ids v rs) M56 [] ⟨entry 0 args, []⟩) : Fn Try.prog 56 args v rs :=
  Fn_run ids (by kernel_rfl) Try.func56 (by decide) rfl mc56 (by kernel_rfl) (by rw [Try.ntmps56]; exact h) (by rw [Try.ntmps56]; decide) hv

end Go.Vc
