/- A part of the proofs of the seat Ytjlmnegbgmpekaa: the contracts of functions, each proved out of its code. -/
import Derived.Test.YtjlmnegbgmpekaaWc
import Derived.Test.YtjlmnegbgmpekaaProg
import Derived.Test.YtjlmnegbgmpekaaWe
namespace Go.Vc
open Go.Proofs
set_option maxRecDepth 100000

/-- 'trystref02.part' -/
def B118_0 : MC := (.seq (.seq (.reg [⟨(some 5), none, (.q (.mv (.t 3)))⟩, ⟨(some 6), none, (.q (.mv (.t 0)))⟩, ⟨(some 7), none, (.q (.len (.t 6) true))⟩, ⟨(some 8), none, (.q (.bin .lss (.t 5)
  (.t 7)))⟩] [] [0, 3, 8] []) (.cond (.t 8) .skip (.exit 0))) (.seq (.block 1 (.seq (.reg [⟨(some 11), none, (.q (.mv (.t 0)))⟩, ⟨(some 12), none, (.q (.mv (.t 3)))⟩, ⟨(some 13), none,
  (.q (.idx (.t 11) (.t 12)))⟩, ⟨(some 4), none, (.q (.mv (.t 13)))⟩] [] [0, 3, 4] []) (.seq (.reg [⟨(some 14), none, (.q (.mv (.t 4)))⟩, ⟨(some 15), none, (.q (.bin .leq (.c (.int .u8 97))
  (.t 14)))⟩, ⟨(some 16), none, (.q (.mv (.t 15)))⟩, ⟨(some 17), (some (16, true)), (.q (.mv (.t 4)))⟩, ⟨(some 18), (some (16, true)), (.q (.bin .leq (.t 17) (.c (.int .u8 122))))⟩, ⟨(some 19), none,
  (.q (.pick (.t 16) (.t 18) (.c (.bool false))))⟩, ⟨(some 20), none, (.q (.mv (.t 19)))⟩, ⟨(some 21), (some (20, false)), (.q (.mv (.t 4)))⟩, ⟨(some 22), (some (20, false)),
  (.q (.bin .leq (.c (.int .u8 48)) (.t 21)))⟩, ⟨(some 23), (some (20, false)), (.q (.mv (.t 22)))⟩, ⟨(some 24), (some (23, true)), (.q (.mv (.t 4)))⟩, ⟨(some 25), (some (23, true)),
  (.q (.bin .leq (.t 24) (.c (.int .u8 57))))⟩, ⟨(some 26), (some (20, false)), (.q (.pick (.t 23) (.t 25) (.c (.bool false))))⟩, ⟨(some 27), none, (.q (.pick (.t 20) (.c (.bool true)) (.t 26)))⟩,
  ⟨(some 28), none, (.q (.mv (.t 27)))⟩, ⟨(some 29), (some (28, false)), (.q (.mv (.t 4)))⟩, ⟨(some 30), (some (28, false)), (.q (.bin .eql (.t 29) (.c (.int .u8 95))))⟩, ⟨(some 31), none,
  (.q (.pick (.t 28) (.c (.bool true)) (.t 30)))⟩, ⟨(some 32), none, (.q (.not (.t 31)))⟩] [] [0, 3, 32] []) (.cond (.t 32) (.seq (.reg [⟨(some 2), none, (.q (.mv (.c (.bool false))))⟩] [] [2] [])
  .ret) .skip)))) (.reg [⟨(some 9), none, (.q (.mv (.t 3)))⟩, ⟨(some 10), none, (.q (.bin .add (.t 9) (.c (.int .i64 1))))⟩, ⟨(some 3), none, (.q (.mv (.t 10)))⟩] [] [0, 3] [])))
def R118_0 : MC := (.seq (.reg [⟨(some 33), none, (.q (.mv (.t 0)))⟩, ⟨(some 34), none, (.q (.bin .neq (.t 33) (.c (.string ⟨#[]⟩))))⟩, ⟨(some 2), none, (.q (.mv (.t 34)))⟩] [] [2] []) .ret)
def M118 : MC := (.seq (.reg [⟨(some 2), none, (.q (.mv (.c (.bool false))))⟩] [] [0] []) (.seq (.seq (.reg [⟨(some 3), none, (.q (.mv (.c (.int .i64 0))))⟩] [] [0, 3] []) (.block 0 (.loop B118_0)))
  R118_0))
theorem mc118 : ofCode Try.prog [] Try.f118.ntmps [(0, ⟨[0], [], [], 0, [], none⟩),
    (1, ⟨[0, 3], [], [], 0, [], none⟩),
    (2, ⟨[0, 3, 8], [], [], 0, [], none⟩),
    (3, ⟨[0, 3], [], [], 0, [], none⟩),
    (4, ⟨[0, 3, 4], [], [], 0, [], none⟩),
    (5, ⟨[0, 3, 32], [], [], 0, [], none⟩),
    (6, ⟨[2], [], [], 0, [], none⟩),
    (7, ⟨[2], [], [], 0, [], none⟩)] (Try.f118.body.getD .skip) = some M118 := by kernel_rfl
theorem Run118 {args : List PV} {v : AV} {rs : List (Nat × List PV)} (ids : List Bool) (h : args.length ≤ 35) (hv : run Try.prog (retK [RV.tmp 2] ids v rs) M118 [] ⟨entry 0 args, []⟩) : Fn Try.prog 118 args v rs :=
  Fn_run ids (by kernel_rfl) Try.func118 (by decide) rfl mc118 (by kernel_rfl) (by rw [Try.ntmps118]; exact h) (by rw [Try.ntmps118]; decide) hv

/-- 'trystref02.cut' -/
def B117_0 : MC := (.seq (.seq (.reg [⟨(some 6), none, (.q (.mv (.t 4)))⟩, ⟨(some 7), none, (.q (.mv (.t 0)))⟩, ⟨(some 8), none, (.q (.len (.t 7) true))⟩, ⟨(some 9), none, (.q (.bin .lss (.t 6)
  (.t 8)))⟩] [] [0, 3, 4, 9] [5, 18]) (.cond (.t 9) .skip (.exit 0))) (.seq (.block 1 (.seq (.reg [⟨(some 12), none, (.q (.mv (.t 0)))⟩, ⟨(some 13), none, (.q (.mv (.t 4)))⟩, ⟨(some 14), none,
  (.q (.idx (.t 12) (.t 13)))⟩, ⟨(some 15), none, (.q (.bin .eql (.t 14) (.c (.int .u8 46))))⟩] [] [0, 3, 4, 15] [5, 18]) (.cond (.t 15) (.reg [⟨(some 16), none, (.q (.mv (.t 3)))⟩, ⟨(some 17), none,
  (.lits [(.c (.string ⟨#[]⟩))] 1)⟩, ⟨(some 18), none, (.app (.t 16) (.t 17) 1 16)⟩, ⟨(some 3), none, (.q (.mv (.t 18)))⟩] [] [0, 3, 4] [5, 18]) (.reg [⟨(some 19), none, (.q (.mv (.t 3)))⟩,
  ⟨(some 20), none, (.q (.mv (.t 3)))⟩, ⟨(some 21), none, (.q (.len (.t 20) false))⟩, ⟨(some 22), none, (.q (.bin .sub (.t 21) (.c (.int .i64 1))))⟩, ⟨(some 23), none, (.q (.ia (.t 19) (.t 22) 1))⟩,
  ⟨(some 24), none, (.q (.ld (.t 23) 1 false))⟩, ⟨(some 25), none, (.q (.mv (.t 0)))⟩, ⟨(some 26), none, (.q (.mv (.t 4)))⟩, ⟨(some 27), none, (.q (.mv (.t 4)))⟩, ⟨(some 28), none,
  (.q (.bin .add (.t 27) (.c (.int .i64 1))))⟩, ⟨(some 29), none, (.q (.slc (.t 25) (some (.t 26)) (some (.t 28)) 0 true))⟩, ⟨(some 30), none, (.q (.bin .add (.t 24) (.t 29)))⟩, ⟨(some 31), none,
  (.q (.ia (.t 19) (.t 22) 1))⟩, ⟨none, none, (.st (.t 31) (.t 30) 1)⟩] [] [0, 3, 4] [5, 18])))) (.reg [⟨(some 10), none, (.q (.mv (.t 4)))⟩, ⟨(some 11), none, (.q (.bin .add (.t 10)
  (.c (.int .i64 1))))⟩, ⟨(some 4), none, (.q (.mv (.t 11)))⟩] [] [0, 3, 4] [5, 18])))
def R117_0 : MC := (.seq (.reg [⟨(some 32), none, (.q (.mv (.t 3)))⟩, ⟨(some 2), none, (.q (.mv (.t 32)))⟩] [] [2] [5, 18]) .ret)
def M117 : MC := (.seq (.reg [⟨(some 2), none, (.q (.mv .nil))⟩] [] [0] []) (.seq (.reg [⟨(some 5), none, (.own [(.c (.string ⟨#[]⟩))] 1)⟩, ⟨(some 3), none, (.q (.mv (.t 5)))⟩] [] [0, 3] [5, 18])
  (.seq (.seq (.reg [⟨(some 4), none, (.q (.mv (.c (.int .i64 0))))⟩] [] [0, 3, 4] [5, 18]) (.block 0 (.loop B117_0))) R117_0)))
theorem mc117 : ofCode Try.prog [5] Try.f117.ntmps [(0, ⟨[0], [], [], 0, [], none⟩),
    (1, ⟨[0, 3], [5, 18], [], 0, [], none⟩),
    (2, ⟨[0, 3, 4], [5, 18], [], 0, [], none⟩),
    (3, ⟨[0, 3, 4, 9], [5, 18], [], 0, [], none⟩),
    (4, ⟨[0, 3, 4], [5, 18], [], 0, [], none⟩),
    (5, ⟨[0, 3, 4, 15], [5, 18], [], 0, [], none⟩),
    (6, ⟨[0, 3, 4], [5, 18], [], 0, [], none⟩),
    (7, ⟨[0, 3, 4], [5, 18], [(0, 14385), (1, 14398), (2, 14396), (3, 14392), (4, 14384), (5, 14368), (6, 15424), (7, 15488), (8, 16128), (9, 15872), (10, 15360), (11, 14336), (12, 12288), (13, 0)], 8191, [], none⟩),
    (8, ⟨[2], [5, 18], [], 0, [], none⟩)] (Try.f117.body.getD .skip) = some M117 := by kernel_rfl
theorem Run117 {args : List PV} {v : AV} {rs : List (Nat × List PV)} (ids : List Bool) (h : args.length ≤ 33) (hv : run Try.prog (retK [RV.tmp 2] ids v rs) M117 [] ⟨entry 0 args, []⟩) : Fn Try.prog 117 args v rs :=
  Fn_run ids (by kernel_rfl) Try.func117 (by decide) rfl mc117 (by kernel_rfl) (by rw [Try.ntmps117]; exact h) (by rw [Try.ntmps117]; decide) hv

/-- 'trystref02.is' -/
def B107_0 : MC := (.seq (.seq (.reg [⟨(some 9), none, (.q (.mv (.t 6)))⟩, ⟨(some 10), none, (.q (.mv (.t 5)))⟩, ⟨(some 11), none, (.q (.len (.t 10) false))⟩, ⟨(some 12), none, (.q (.bin .lss (.t 9)
  (.t 11)))⟩] [] [0, 1, 5, 6, 12] [1008]) (.cond (.t 12) .skip (.exit 0))) (.seq (.block 1 (.seq (.reg [⟨(some 15), none, (.q (.mv (.t 5)))⟩, ⟨(some 16), none, (.q (.mv (.t 6)))⟩, ⟨(some 17), none,
  (.q (.ia (.t 15) (.t 16) 1))⟩, ⟨(some 18), none, (.q (.ld (.t 17) 1 false))⟩, ⟨(some 19), none, (.call (.f 118) [(.t 18)])⟩, ⟨(some 20), none, (.q (.not (.t 19)))⟩, ⟨(some 21), none,
  (.q (.mv (.t 20)))⟩, ⟨(some 22), (some (21, true)), (.q (.mv (.t 1)))⟩, ⟨(some 23), (some (21, true)), (.q (.mv (.t 22)))⟩, ⟨(some 24), (some (23, true)), (.q (.mv (.t 5)))⟩, ⟨(some 25), (some (23,
  true)), (.q (.mv (.t 6)))⟩, ⟨(some 26), (some (23, true)), (.q (.ia (.t 24) (.t 25) 1))⟩, ⟨(some 27), (some (23, true)), (.q (.ld (.t 26) 1 false))⟩, ⟨(some 28), (some (23, true)),
  (.q (.bin .eql (.t 27) (.c (.string ⟨#[42]⟩))))⟩, ⟨(some 29), (some (23, true)), (.q (.mv (.t 28)))⟩, ⟨(some 30), (some (29, false)), (.q (.mv (.t 5)))⟩, ⟨(some 31), (some (29, false)),
  (.q (.mv (.t 6)))⟩, ⟨(some 32), (some (29, false)), (.q (.ia (.t 30) (.t 31) 1))⟩, ⟨(some 33), (some (29, false)), (.q (.ld (.t 32) 1 false))⟩, ⟨(some 34), (some (29, false)), (.q (.bin .eql (.t 33)
  (.c (.string ⟨#[42, 42]⟩))))⟩, ⟨(some 35), (some (23, true)), (.q (.pick (.t 29) (.c (.bool true)) (.t 34)))⟩, ⟨(some 36), (some (21, true)), (.q (.pick (.t 23) (.t 35) (.c (.bool false))))⟩,
  ⟨(some 37), (some (21, true)), (.q (.not (.t 36)))⟩, ⟨(some 38), none, (.q (.pick (.t 21) (.t 37) (.c (.bool false))))⟩] [] [0, 1, 5, 6, 38] [1008, 1019]) (.cond (.t 38) (.seq (.reg [⟨(some 4),
  none, (.q (.mv (.c (.bool false))))⟩] [] [4] []) .ret) .skip))) (.reg [⟨(some 13), none, (.q (.mv (.t 6)))⟩, ⟨(some 14), none, (.q (.bin .add (.t 13) (.c (.int .i64 1))))⟩, ⟨(some 6), none,
  (.q (.mv (.t 14)))⟩] [] [0, 1, 5, 6] [1008])))
def R107_0 : MC := (.seq (.reg [⟨(some 39), none, (.q (.mv (.t 5)))⟩, ⟨(some 40), none, (.q (.len (.t 39) false))⟩, ⟨(some 41), none, (.q (.bin .leq (.t 40) (.c (.int .i64 8))))⟩, ⟨(some 42), none,
  (.q (.mv (.t 41)))⟩, ⟨(some 43), (some (42, true)), (.q (.mv (.t 0)))⟩, ⟨(some 44), (some (42, true)), (.q (.len (.t 43) true))⟩, ⟨(some 45), (some (42, true)), (.q (.bin .leq (.t 44)
  (.c (.int .i64 40))))⟩, ⟨(some 46), none, (.q (.pick (.t 42) (.t 45) (.c (.bool false))))⟩, ⟨(some 4), none, (.q (.mv (.t 46)))⟩] [] [4] []) .ret)
def M107 : MC := (.seq (.reg [⟨(some 4), none, (.q (.mv (.c (.bool false))))⟩] [] [0, 1] []) (.seq (.reg [⟨(some 7), none, (.q (.mv (.t 0)))⟩, ⟨(some 8), none, (.call (.f 117) [(.t 7)])⟩, ⟨(some 5),
  none, (.q (.mv (.t 8)))⟩] [] [0, 1, 5] [1008]) (.seq (.seq (.reg [⟨(some 6), none, (.q (.mv (.c (.int .i64 0))))⟩] [] [0, 1, 5, 6] [1008]) (.block 0 (.loop B107_0))) R107_0)))
theorem mc107 : ofCode Try.prog [] Try.f107.ntmps [(0, ⟨[0, 1], [], [], 0, [], none⟩),
    (1, ⟨[0, 1, 5], [1008], [], 0, [], none⟩),
    (2, ⟨[0, 1, 5, 6], [1008], [], 0, [], none⟩),
    (3, ⟨[0, 1, 5, 6, 12], [1008], [], 0, [], none⟩),
    (4, ⟨[0, 1, 5, 6], [1008], [], 0, [], none⟩),
    (5, ⟨[0, 1, 5, 6, 38], [1008, 1019], [], 0, [], none⟩),
    (6, ⟨[4], [], [], 0, [], none⟩),
    (7, ⟨[4], [], [], 0, [], none⟩)] (Try.f107.body.getD .skip) = some M107 := by kernel_rfl
theorem Run107 {args : List PV} {v : AV} {rs : List (Nat × List PV)} (ids : List Bool) (h : args.length ≤ 47) (hv : run Try.prog (retK [RV.tmp 4] ids v rs) M107 [] ⟨entry 0 args, []⟩) : Fn Try.prog 107 args v rs :=
  Fn_run ids (by kernel_rfl) Try.func107 (by decide) rfl mc107 (by kernel_rfl) (by rw [Try.ntmps107]; exact h) (by rw [Try.ntmps107]; decide) hv

/-- 'trystref02.Topic' -/
def M85 : MC := (.seq (.reg [⟨(some 2), none, (.q (.mv (.c (.bool false))))⟩] [] [0] []) (.seq (.reg [⟨(some 3), none, (.q (.mv (.t 0)))⟩, ⟨(some 4), none, (.call (.f 107) [(.t 3),
  (.c (.bool false))])⟩, ⟨(some 2), none, (.q (.mv (.t 4)))⟩] [] [2] [1004]) .ret))
theorem mc85 : ofCode Try.prog [] Try.f85.ntmps [(0, ⟨[0], [], [], 0, [], none⟩),
    (1, ⟨[2], [1004], [], 0, [], none⟩)] (Try.f85.body.getD .skip) = some M85 := by kernel_rfl
theorem Run85 {args : List PV} {v : AV} {rs : List (Nat × List PV)} (ids : List Bool) (h : args.length ≤ 5) (hv : run Try.prog (retK [RV.tmp 2] ids v rs) M85 [] ⟨entry 0 args, []⟩) : Fn Try.prog 85 args v rs :=
  Fn_run ids (by kernel_rfl) Try.func85 (by decide) rfl mc85 (by kernel_rfl) (by rw [Try.ntmps85]; exact h) (by rw [Try.ntmps85]; decide) hv

/-- 'trystref04.Field' -/
def B46_0 : MC := (.seq (.seq (.reg [⟨(some 4), none, (.q (.mv (.t 3)))⟩, ⟨(some 5), none, (.q (.mv (.t 0)))⟩, ⟨(some 6), none, (.q (.len (.t 5) true))⟩, ⟨(some 7), none, (.q (.bin .lss (.t 4)
  (.t 6)))⟩] [] [0, 3, 7] []) (.cond (.t 7) .skip (.exit 0))) (.seq (.block 1 (.seq (.reg [⟨(some 10), none, (.q (.mv (.t 0)))⟩, ⟨(some 11), none, (.q (.mv (.t 3)))⟩, ⟨(some 12), none,
  (.q (.idx (.t 10) (.t 11)))⟩, ⟨(some 13), none, (.q (.bin .eql (.t 12) (.c (.int .u8 46))))⟩] [] [0, 3, 13] []) (.cond (.t 13) (.seq (.reg [⟨(some 2), none,
  (.q (.mv (.c (.bool false))))⟩] [] [2] [1015]) .ret) .skip))) (.reg [⟨(some 8), none, (.q (.mv (.t 3)))⟩, ⟨(some 9), none, (.q (.bin .add (.t 8) (.c (.int .i64 1))))⟩, ⟨(some 3), none,
  (.q (.mv (.t 9)))⟩] [] [0, 3] [])))
def R46_0 : MC := (.seq (.reg [⟨(some 14), none, (.q (.mv (.t 0)))⟩, ⟨(some 15), none, (.call (.f 85) [(.t 14)])⟩, ⟨(some 16), none, (.q (.mv (.t 15)))⟩, ⟨(some 17), (some (16, true)),
  (.q (.mv (.t 0)))⟩, ⟨(some 18), (some (16, true)), (.q (.len (.t 17) true))⟩, ⟨(some 19), (some (16, true)), (.q (.bin .leq (.t 18) (.c (.int .i64 16))))⟩, ⟨(some 20), none, (.q (.pick (.t 16)
  (.t 19) (.c (.bool false))))⟩, ⟨(some 2), none, (.q (.mv (.t 20)))⟩] [] [2] [1015]) .ret)
def M46 : MC := (.seq (.reg [⟨(some 2), none, (.q (.mv (.c (.bool false))))⟩] [] [0] []) (.seq (.seq (.reg [⟨(some 3), none, (.q (.mv (.c (.int .i64 0))))⟩] [] [0, 3] []) (.block 0 (.loop B46_0)))
  R46_0))
theorem mc46 : ofCode Try.prog [] Try.f46.ntmps [(0, ⟨[0], [], [], 0, [], none⟩),
    (1, ⟨[0, 3], [], [], 0, [], none⟩),
    (2, ⟨[0, 3, 7], [], [], 0, [], none⟩),
    (3, ⟨[0, 3], [], [], 0, [], none⟩),
    (4, ⟨[0, 3, 13], [], [], 0, [], none⟩),
    (5, ⟨[2], [1015], [], 0, [], none⟩),
    (6, ⟨[2], [1015], [], 0, [], none⟩)] (Try.f46.body.getD .skip) = some M46 := by kernel_rfl
theorem Run46 {args : List PV} {v : AV} {rs : List (Nat × List PV)} (ids : List Bool) (h : args.length ≤ 21) (hv : run Try.prog (retK [RV.tmp 2] ids v rs) M46 [] ⟨entry 0 args, []⟩) : Fn Try.prog 46 args v rs :=
  Fn_run ids (by kernel_rfl) Try.func46 (by decide) rfl mc46 (by kernel_rfl) (by rw [Try.ntmps46]; exact h) (by rw [Try.ntmps46]; decide) hv

/-- 'trystref15.Own' -/
def M89 : MC := (.seq (.reg [⟨(some 1), none, (.box (.t 0))⟩, ⟨(some 2), none, (.q (.mv (.c (.bool false))))⟩] [] [1] [1]) (.seq (.reg [⟨(some 3), none, (.q (.fa (.t 1) 0))⟩, ⟨(some 4), none,
  (.q (.ld (.t 3) 1 false))⟩, ⟨(some 5), none, (.q (.bin .gtr (.t 4) (.c (.int .u64 0))))⟩, ⟨(some 6), none, (.q (.mv (.t 5)))⟩, ⟨(some 7), (some (6, true)), (.q (.fa (.t 1) 1))⟩, ⟨(some 8), (some (6,
  true)), (.q (.ld (.t 7) 1 false))⟩, ⟨(some 9), (some (6, true)), (.call (.f 46) [(.t 8)])⟩, ⟨(some 10), none, (.q (.pick (.t 6) (.t 9) (.c (.bool false))))⟩, ⟨(some 11), none, (.q (.mv (.t 10)))⟩,
  ⟨(some 12), (some (11, true)), (.q (.fa (.t 1) 2))⟩, ⟨(some 13), (some (11, true)), (.q (.ld (.t 12) 1 false))⟩, ⟨(some 14), (some (11, true)), (.q (.len (.t 13) false))⟩, ⟨(some 15), (some (11,
  true)), (.q (.bin .leq (.c (.int .i64 1)) (.t 14)))⟩, ⟨(some 16), none, (.q (.pick (.t 11) (.t 15) (.c (.bool false))))⟩, ⟨(some 17), none, (.q (.mv (.t 16)))⟩, ⟨(some 18), (some (17, true)),
  (.q (.fa (.t 1) 2))⟩, ⟨(some 19), (some (17, true)), (.q (.ld (.t 18) 1 false))⟩, ⟨(some 20), (some (17, true)), (.q (.len (.t 19) false))⟩, ⟨(some 21), (some (17, true)), (.q (.bin .leq (.t 20)
  (.c (.int .i64 30))))⟩, ⟨(some 22), none, (.q (.pick (.t 17) (.t 21) (.c (.bool false))))⟩, ⟨(some 23), none, (.q (.mv (.t 22)))⟩, ⟨(some 24), (some (23, true)), (.q (.fa (.t 1) 3))⟩, ⟨(some 25),
  (some (23, true)), (.q (.ld (.t 24) 1 false))⟩, ⟨(some 26), (some (23, true)), (.q (.bin .leq (.c (.int .i64 0)) (.t 25)))⟩, ⟨(some 27), none, (.q (.pick (.t 23) (.t 26) (.c (.bool false))))⟩,
  ⟨(some 28), none, (.q (.mv (.t 27)))⟩, ⟨(some 29), (some (28, true)), (.q (.fa (.t 1) 3))⟩, ⟨(some 30), (some (28, true)), (.q (.ld (.t 29) 1 false))⟩, ⟨(some 31), (some (28, true)),
  (.q (.bin .leq (.t 30) (.c (.int .i64 4))))⟩, ⟨(some 32), none, (.q (.pick (.t 28) (.t 31) (.c (.bool false))))⟩, ⟨(some 33), none, (.q (.mv (.t 32)))⟩, ⟨(some 34), (some (33, true)),
  (.q (.fa (.t 1) 4))⟩, ⟨(some 35), (some (33, true)), (.q (.ld (.t 34) 1 false))⟩, ⟨(some 36), (some (33, true)), (.q (.bin .leq (.c (.int .i64 0)) (.t 35)))⟩, ⟨(some 37), none, (.q (.pick (.t 33)
  (.t 36) (.c (.bool false))))⟩, ⟨(some 38), none, (.q (.mv (.t 37)))⟩, ⟨(some 39), (some (38, true)), (.q (.fa (.t 1) 4))⟩, ⟨(some 40), (some (38, true)), (.q (.ld (.t 39) 1 false))⟩, ⟨(some 41),
  (some (38, true)), (.q (.bin .leq (.t 40) (.c (.int .i64 1099511627775))))⟩, ⟨(some 42), none, (.q (.pick (.t 38) (.t 41) (.c (.bool false))))⟩, ⟨(some 2), none, (.q (.mv (.t 42)))⟩] [] [2] [1009])
  .ret))
theorem mc89 : ofCode Try.prog [] Try.f89.ntmps [(0, ⟨[1], [1], [], 0, [], none⟩),
    (1, ⟨[2], [1009], [], 0, [], none⟩)] (Try.f89.body.getD .skip) = some M89 := by kernel_rfl
theorem Run89 {args : List PV} {v : AV} {rs : List (Nat × List PV)} (ids : List Bool) (h : args.length ≤ 43) (hv : run Try.prog (retK [RV.tmp 2] ids v rs) M89 [] ⟨entry 0 args, []⟩) : Fn Try.prog 89 args v rs :=
  Fn_run ids (by kernel_rfl) Try.func89 (by decide) rfl mc89 (by kernel_rfl) (by rw [Try.ntmps89]; exact h) (by rw [Try.ntmps89]; decide) hv

/-- 'trystref15.Find' -/
def B51_0 : MC := (.seq (.seq (.reg [⟨(some 6), none, (.q (.mv (.t 5)))⟩, ⟨(some 7), none, (.q (.mv (.t 0)))⟩, ⟨(some 8), none, (.q (.len (.t 7) false))⟩, ⟨(some 9), none, (.q (.bin .lss (.t 6)
  (.t 8)))⟩] [] [0, 1, 5, 9] []) (.cond (.t 9) .skip (.exit 0))) (.seq (.block 1 (.seq (.reg [⟨(some 12), none, (.q (.mv (.t 0)))⟩, ⟨(some 13), none, (.q (.mv (.t 5)))⟩, ⟨(some 14), none,
  (.q (.ia (.t 12) (.t 13) 5))⟩, ⟨(some 15), none, (.q (.fa (.t 14) 0))⟩, ⟨(some 16), none, (.q (.ld (.t 15) 1 false))⟩, ⟨(some 17), none, (.q (.mv (.t 1)))⟩, ⟨(some 18), none, (.q (.bin .eql (.t 16)
  (.t 17)))⟩] [] [0, 1, 5, 18] []) (.cond (.t 18) (.seq (.reg [⟨(some 19), none, (.q (.mv (.t 5)))⟩, ⟨(some 4), none, (.q (.mv (.t 19)))⟩] [] [4] []) .ret) .skip))) (.reg [⟨(some 10), none,
  (.q (.mv (.t 5)))⟩, ⟨(some 11), none, (.q (.bin .add (.t 10) (.c (.int .i64 1))))⟩, ⟨(some 5), none, (.q (.mv (.t 11)))⟩] [] [0, 1, 5] [])))
def R51_0 : MC := (.seq (.reg [⟨(some 4), none, (.q (.mv (.c (.int .i64 (-1)))))⟩] [] [4] []) .ret)
def M51 : MC := (.seq (.reg [⟨(some 4), none, (.q (.mv (.c (.int .i64 0))))⟩] [] [0, 1] []) (.seq (.seq (.reg [⟨(some 5), none, (.q (.mv (.c (.int .i64 0))))⟩] [] [0, 1, 5] [])
  (.block 0 (.loop B51_0))) R51_0))
theorem mc51 : ofCode Try.prog [] Try.f51.ntmps [(0, ⟨[0, 1], [], [], 0, [], none⟩),
    (1, ⟨[0, 1, 5], [], [], 0, [], none⟩),
    (2, ⟨[0, 1, 5, 9], [], [], 0, [], none⟩),
    (3, ⟨[0, 1, 5], [], [], 0, [], none⟩),
    (4, ⟨[0, 1, 5, 18], [], [], 0, [], none⟩),
    (5, ⟨[4], [], [], 0, [], none⟩),
    (6, ⟨[4], [], [], 0, [], none⟩)] (Try.f51.body.getD .skip) = some M51 := by kernel_rfl
theorem Run51 {args : List PV} {v : AV} {rs : List (Nat × List PV)} (ids : List Bool) (h : args.length ≤ 20) (hv : run Try.prog (retK [RV.tmp 4] ids v rs) M51 [] ⟨entry 0 args, []⟩) : Fn Try.prog 51 args v rs :=
  Fn_run ids (by kernel_rfl) Try.func51 (by decide) rfl mc51 (by kernel_rfl) (by rw [Try.ntmps51]; exact h) (by rw [Try.ntmps51]; decide) hv

/-- 'trystref15.May' -/
def B50_0 : MC := (.seq (.seq (.reg [⟨(some 4), none, (.q (.mv (.t 3)))⟩, ⟨(some 5), none, (.q (.mv (.t 0)))⟩, ⟨(some 6), none, (.q (.len (.t 5) false))⟩, ⟨(some 7), none, (.q (.bin .lss (.t 4)
  (.t 6)))⟩] [] [0, 3, 7] []) (.cond (.t 7) .skip (.exit 0))) (.seq (.block 1 (.seq (.reg [⟨(some 10), none, (.q (.mv (.t 0)))⟩, ⟨(some 11), none, (.q (.mv (.t 3)))⟩, ⟨(some 12), none,
  (.q (.ia (.t 10) (.t 11) 5))⟩, ⟨(some 13), none, (.q (.ld (.t 12) 5 true))⟩, ⟨(some 14), none, (.call (.f 89) [(.t 13)])⟩, ⟨(some 15), none, (.q (.not (.t 14)))⟩, ⟨(some 16), none,
  (.q (.mv (.t 15)))⟩, ⟨(some 17), (some (16, false)), (.q (.mv (.t 3)))⟩, ⟨(some 18), (some (16, false)), (.q (.bin .gtr (.t 17) (.c (.int .i64 0))))⟩, ⟨(some 19), (some (16, false)),
  (.q (.mv (.t 18)))⟩, ⟨(some 20), (some (19, true)), (.q (.mv (.t 0)))⟩, ⟨(some 21), (some (19, true)), (.q (.mv (.t 3)))⟩, ⟨(some 22), (some (19, true)), (.q (.bin .sub (.t 21)
  (.c (.int .i64 1))))⟩, ⟨(some 23), (some (19, true)), (.q (.ia (.t 20) (.t 22) 5))⟩, ⟨(some 24), (some (19, true)), (.q (.fa (.t 23) 0))⟩, ⟨(some 25), (some (19, true)), (.q (.ld (.t 24) 1 false))⟩,
  ⟨(some 26), (some (19, true)), (.q (.mv (.t 0)))⟩, ⟨(some 27), (some (19, true)), (.q (.mv (.t 3)))⟩, ⟨(some 28), (some (19, true)), (.q (.ia (.t 26) (.t 27) 5))⟩, ⟨(some 29), (some (19, true)),
  (.q (.fa (.t 28) 0))⟩, ⟨(some 30), (some (19, true)), (.q (.ld (.t 29) 1 false))⟩, ⟨(some 31), (some (19, true)), (.q (.bin .geq (.t 25) (.t 30)))⟩, ⟨(some 32), (some (16, false)),
  (.q (.pick (.t 19) (.t 31) (.c (.bool false))))⟩, ⟨(some 33), none, (.q (.pick (.t 16) (.c (.bool true)) (.t 32)))⟩] [] [0, 3, 33] [1014]) (.cond (.t 33) (.seq (.reg [⟨(some 2), none,
  (.q (.mv (.c (.bool false))))⟩] [] [2] []) .ret) .skip))) (.reg [⟨(some 8), none, (.q (.mv (.t 3)))⟩, ⟨(some 9), none, (.q (.bin .add (.t 8) (.c (.int .i64 1))))⟩, ⟨(some 3), none,
  (.q (.mv (.t 9)))⟩] [] [0, 3] [])))
def R50_0 : MC := (.seq (.reg [⟨(some 34), none, (.q (.mv (.t 0)))⟩, ⟨(some 35), none, (.q (.len (.t 34) false))⟩, ⟨(some 36), none, (.q (.bin .leq (.t 35) (.c (.int .i64 100))))⟩, ⟨(some 2), none,
  (.q (.mv (.t 36)))⟩] [] [2] []) .ret)
def M50 : MC := (.seq (.reg [⟨(some 2), none, (.q (.mv (.c (.bool false))))⟩] [] [0] []) (.seq (.seq (.reg [⟨(some 3), none, (.q (.mv (.c (.int .i64 0))))⟩] [] [0, 3] []) (.block 0 (.loop B50_0)))
  R50_0))
theorem mc50 : ofCode Try.prog [] Try.f50.ntmps [(0, ⟨[0], [], [], 0, [], none⟩),
    (1, ⟨[0, 3], [], [], 0, [], none⟩),
    (2, ⟨[0, 3, 7], [], [], 0, [], none⟩),
    (3, ⟨[0, 3], [], [], 0, [], none⟩),
    (4, ⟨[0, 3, 33], [1014], [(0, 16777213), (1, 16777214), (2, 16777212), (3, 16777208), (4, 0), (5, 16777184), (6, 16777152), (7, 16777088), (8, 16776960), (9, 16776704), (10, 14738432), (11, 14743552), (12, 14741504), (13, 14737408), (14, 14729216), (15, 14712832), (16, 16580608), (17, 16646144), (18, 16515072), (19, 16252928), (20, 15728640), (21, 14680064), (22, 12582912), (23, 8388608)], 16777215, [], none⟩),
    (5, ⟨[2], [], [], 0, [], none⟩),
    (6, ⟨[2], [], [], 0, [], none⟩)] (Try.f50.body.getD .skip) = some M50 := by kernel_rfl
theorem Run50 {args : List PV} {v : AV} {rs : List (Nat × List PV)} (ids : List Bool) (h : args.length ≤ 37) (hv : run Try.prog (retK [RV.tmp 2] ids v rs) M50 [] ⟨entry 0 args, []⟩) : Fn Try.prog 50 args v rs :=
  Fn_run ids (by kernel_rfl) Try.func50 (by decide) rfl mc50 (by kernel_rfl) (by rw [Try.ntmps50]; exact h) (by rw [Try.ntmps50]; decide) hv

/-- 'trystref15.Ack' -/
def B30_0 : MC := (.seq (.seq (.reg [⟨(some 15), none, (.q (.mv (.t 7)))⟩, ⟨(some 16), none, (.q (.mv (.t 0)))⟩, ⟨(some 17), none, (.q (.len (.t 16) false))⟩, ⟨(some 18), none, (.q (.bin .lss (.t 15)
  (.t 17)))⟩] [] [0, 1, 6, 7, 18] [34, 2006]) (.cond (.t 18) .skip (.exit 0))) (.seq (.block 1 (.seq (.reg [⟨(some 21), none, (.q (.mv (.t 0)))⟩, ⟨(some 22), none, (.q (.mv (.t 7)))⟩, ⟨(some 23),
  none, (.q (.ia (.t 21) (.t 22) 5))⟩, ⟨(some 24), none, (.q (.fa (.t 23) 0))⟩, ⟨(some 25), none, (.q (.ld (.t 24) 1 false))⟩, ⟨(some 26), none, (.q (.mv (.t 1)))⟩, ⟨(some 27), none,
  (.q (.bin .neq (.t 25) (.t 26)))⟩] [] [0, 1, 6, 7, 27] [34, 2006]) (.cond (.t 27) (.reg [⟨(some 28), none, (.q (.mv (.t 6)))⟩, ⟨(some 29), none, (.q (.mv (.t 0)))⟩, ⟨(some 30), none,
  (.q (.mv (.t 7)))⟩, ⟨(some 31), none, (.q (.ia (.t 29) (.t 30) 5))⟩, ⟨(some 32), none, (.q (.ld (.t 31) 5 true))⟩, ⟨(some 33), none, (.lits [(.t 32)] 5)⟩, ⟨(some 34), none, (.app (.t 28) (.t 33)
  5 64)⟩, ⟨(some 6), none, (.q (.mv (.t 34)))⟩] [] [0, 1, 6, 7] [34, 2006]) .skip))) (.reg [⟨(some 19), none, (.q (.mv (.t 7)))⟩, ⟨(some 20), none, (.q (.bin .add (.t 19) (.c (.int .i64 1))))⟩,
  ⟨(some 7), none, (.q (.mv (.t 20)))⟩] [] [0, 1, 6, 7] [34, 2006])))
def R30_0 : MC := (.seq (.reg [⟨(some 35), none, (.q (.mv (.t 6)))⟩, ⟨(some 4), none, (.q (.mv (.t 35)))⟩, ⟨(some 5), none, (.q (.mv (.c (.int .i64 0))))⟩] [] [4, 5] [34, 2006]) .ret)
def M30 : MC := (.seq (.reg [⟨(some 4), none, (.q (.mv .nil))⟩, ⟨(some 5), none, (.q (.mv (.c (.int .i64 0))))⟩] [] [0, 1] []) (.seq (.seq (.reg [⟨(some 8), none, (.q (.mv (.t 0)))⟩, ⟨(some 9), none,
  (.call (.f 50) [(.t 8)])⟩, ⟨(some 10), none, (.q (.not (.t 9)))⟩] [] [0, 1, 10] [1009]) (.cond (.t 10) (.seq (.reg [⟨(some 4), none, (.q (.mv .nil))⟩, ⟨(some 5), none,
  (.q (.mv (.c (.int .i64 1))))⟩] [] [4, 5] [34, 2006]) .ret) .skip)) (.seq (.seq (.reg [⟨(some 11), none, (.q (.mv (.t 0)))⟩, ⟨(some 12), none, (.q (.mv (.t 1)))⟩, ⟨(some 13), none, (.call (.f 51)
  [(.t 11), (.t 12)])⟩, ⟨(some 14), none, (.q (.bin .lss (.t 13) (.c (.int .i64 0))))⟩] [] [0, 1, 14] [1013]) (.cond (.t 14) (.seq (.reg [⟨(some 4), none, (.q (.mv .nil))⟩, ⟨(some 5), none,
  (.q (.mv (.c (.int .i64 4))))⟩] [] [4, 5] [34, 2006]) .ret) .skip)) (.seq (.reg [⟨(some 6), none, (.q (.mv .nil))⟩] [(6, 2006, 5)] [0, 1, 6] [34, 2006]) (.seq (.seq (.reg [⟨(some 7), none,
  (.q (.mv (.c (.int .i64 0))))⟩] [] [0, 1, 6, 7] [34, 2006]) (.block 0 (.loop B30_0))) R30_0)))))
theorem mc30 : ofCode Try.prog [] Try.f30.ntmps [(0, ⟨[0, 1], [], [], 0, [], none⟩),
    (1, ⟨[0, 1, 10], [1009], [], 0, [], none⟩),
    (2, ⟨[4, 5], [34, 2006], [], 0, [], none⟩),
    (3, ⟨[0, 1, 14], [1013], [], 0, [], none⟩),
    (4, ⟨[4, 5], [34, 2006], [], 0, [], none⟩),
    (5, ⟨[0, 1, 6], [34, 2006], [], 0, [(6, 2006, 5)], none⟩),
    (6, ⟨[0, 1, 6, 7], [34, 2006], [], 0, [], none⟩),
    (7, ⟨[0, 1, 6, 7, 18], [34, 2006], [], 0, [], none⟩),
    (8, ⟨[0, 1, 6, 7], [34, 2006], [], 0, [], none⟩),
    (9, ⟨[0, 1, 6, 7, 27], [34, 2006], [], 0, [], none⟩),
    (10, ⟨[0, 1, 6, 7], [34, 2006], [], 0, [], none⟩),
    (11, ⟨[4, 5], [34, 2006], [], 0, [], none⟩)] (Try.f30.body.getD .skip) = some M30 := by kernel_rfl
theorem Run30 {args : List PV} {v : AV} {rs : List (Nat × List PV)} (ids : List Bool) (h : args.length ≤ 36) (hv : run Try.prog (retK [RV.tmp 4, RV.tmp 5] ids v rs) M30 [] ⟨entry 0 args, []⟩) : Fn Try.prog 30 args v rs :=
  Fn_run ids (by kernel_rfl) Try.func30 (by decide) rfl mc30 (by kernel_rfl) (by rw [Try.ntmps30]; exact h) (by rw [Try.ntmps30]; decide) hv

/-- 'trystref15.With' -/
def B80_0 : MC := (.seq (.seq (.reg [⟨(some 8), none, (.q (.mv (.t 6)))⟩, ⟨(some 9), none, (.q (.mv (.t 0)))⟩, ⟨(some 10), none, (.q (.len (.t 9) false))⟩, ⟨(some 11), none, (.q (.bin .lss (.t 8)
  (.t 10)))⟩] [] [0, 3, 5, 6, 11] [3, 28, 32, 53, 2005]) (.cond (.t 11) .skip (.exit 0))) (.seq (.block 1 (.seq (.reg [⟨(some 14), none, (.q (.mv (.t 0)))⟩, ⟨(some 15), none, (.q (.mv (.t 6)))⟩,
  ⟨(some 16), none, (.q (.ia (.t 14) (.t 15) 5))⟩, ⟨(some 17), none, (.q (.fa (.t 16) 0))⟩, ⟨(some 18), none, (.q (.ld (.t 17) 1 false))⟩, ⟨(some 19), none, (.q (.fa (.t 3) 0))⟩, ⟨(some 20), none,
  (.q (.ld (.t 19) 1 false))⟩, ⟨(some 21), none, (.q (.bin .lss (.t 18) (.t 20)))⟩] [] [0, 3, 5, 6, 21] [3, 28, 32, 53, 2005]) (.cond (.t 21) (.reg [⟨(some 22), none, (.q (.mv (.t 5)))⟩, ⟨(some 23),
  none, (.q (.mv (.t 0)))⟩, ⟨(some 24), none, (.q (.mv (.t 6)))⟩, ⟨(some 25), none, (.q (.ia (.t 23) (.t 24) 5))⟩, ⟨(some 26), none, (.q (.ld (.t 25) 5 true))⟩, ⟨(some 27), none, (.lits [(.t 26)] 5)⟩,
  ⟨(some 28), none, (.app (.t 22) (.t 27) 5 64)⟩, ⟨(some 5), none, (.q (.mv (.t 28)))⟩] [] [0, 3, 5, 6] [3, 28, 32, 53, 2005]) .skip))) (.reg [⟨(some 12), none, (.q (.mv (.t 6)))⟩, ⟨(some 13), none,
  (.q (.bin .add (.t 12) (.c (.int .i64 1))))⟩, ⟨(some 6), none, (.q (.mv (.t 13)))⟩] [] [0, 3, 5, 6] [3, 28, 32, 53, 2005])))
def B80_1 : MC := (.seq (.seq (.reg [⟨(some 33), none, (.q (.mv (.t 7)))⟩, ⟨(some 34), none, (.q (.mv (.t 0)))⟩, ⟨(some 35), none, (.q (.len (.t 34) false))⟩, ⟨(some 36), none, (.q (.bin .lss (.t 33)
  (.t 35)))⟩] [] [0, 3, 5, 7, 36] [3, 28, 32, 53, 2005]) (.cond (.t 36) .skip (.exit 2))) (.seq (.block 3 (.seq (.reg [⟨(some 39), none, (.q (.mv (.t 0)))⟩, ⟨(some 40), none, (.q (.mv (.t 7)))⟩,
  ⟨(some 41), none, (.q (.ia (.t 39) (.t 40) 5))⟩, ⟨(some 42), none, (.q (.fa (.t 41) 0))⟩, ⟨(some 43), none, (.q (.ld (.t 42) 1 false))⟩, ⟨(some 44), none, (.q (.fa (.t 3) 0))⟩, ⟨(some 45), none,
  (.q (.ld (.t 44) 1 false))⟩, ⟨(some 46), none, (.q (.bin .gtr (.t 43) (.t 45)))⟩] [] [0, 3, 5, 7, 46] [3, 28, 32, 53, 2005]) (.cond (.t 46) (.reg [⟨(some 47), none, (.q (.mv (.t 5)))⟩, ⟨(some 48),
  none, (.q (.mv (.t 0)))⟩, ⟨(some 49), none, (.q (.mv (.t 7)))⟩, ⟨(some 50), none, (.q (.ia (.t 48) (.t 49) 5))⟩, ⟨(some 51), none, (.q (.ld (.t 50) 5 true))⟩, ⟨(some 52), none, (.lits [(.t 51)] 5)⟩,
  ⟨(some 53), none, (.app (.t 47) (.t 52) 5 64)⟩, ⟨(some 5), none, (.q (.mv (.t 53)))⟩] [] [0, 3, 5, 7] [3, 28, 32, 53, 2005]) .skip))) (.reg [⟨(some 37), none, (.q (.mv (.t 7)))⟩, ⟨(some 38), none,
  (.q (.bin .add (.t 37) (.c (.int .i64 1))))⟩, ⟨(some 7), none, (.q (.mv (.t 38)))⟩] [] [0, 3, 5, 7] [3, 28, 32, 53, 2005])))
def R80_1 : MC := (.seq (.reg [⟨(some 54), none, (.q (.mv (.t 5)))⟩, ⟨(some 4), none, (.q (.mv (.t 54)))⟩] [] [4] [28, 32, 53, 2005]) .ret)
def R80_0 : MC := (.seq (.reg [⟨(some 29), none, (.q (.mv (.t 5)))⟩, ⟨(some 30), none, (.q (.ld (.t 3) 5 true))⟩, ⟨(some 31), none, (.lits [(.t 30)] 5)⟩, ⟨(some 32), none, (.app (.t 29) (.t 31)
  5 64)⟩, ⟨(some 5), none, (.q (.mv (.t 32)))⟩] [] [0, 3, 5] [3, 28, 32, 53, 2005]) (.seq (.seq (.reg [⟨(some 7), none, (.q (.mv (.c (.int .i64 0))))⟩] [] [0, 3, 5, 7] [3, 28, 32, 53, 2005])
  (.block 2 (.loop B80_1))) R80_1))
def M80 : MC := (.seq (.reg [⟨(some 3), none, (.box (.t 1))⟩, ⟨(some 4), none, (.q (.mv .nil))⟩] [] [0, 3] [3]) (.seq (.reg [⟨(some 5), none, (.q (.mv .nil))⟩] [(5, 2005, 5)] [0, 3, 5] [3, 28, 32, 53,
  2005]) (.seq (.seq (.reg [⟨(some 6), none, (.q (.mv (.c (.int .i64 0))))⟩] [] [0, 3, 5, 6] [3, 28, 32, 53, 2005]) (.block 0 (.loop B80_0))) R80_0)))
theorem mc80 : ofCode Try.prog [] Try.f80.ntmps [(0, ⟨[0, 3], [3], [], 0, [], none⟩),
    (1, ⟨[0, 3, 5], [3, 28, 32, 53, 2005], [], 0, [(5, 2005, 5)], none⟩),
    (2, ⟨[0, 3, 5, 6], [3, 28, 32, 53, 2005], [], 0, [], none⟩),
    (3, ⟨[0, 3, 5, 6, 11], [3, 28, 32, 53, 2005], [], 0, [], none⟩),
    (4, ⟨[0, 3, 5, 6], [3, 28, 32, 53, 2005], [], 0, [], none⟩),
    (5, ⟨[0, 3, 5, 6, 21], [3, 28, 32, 53, 2005], [(0, 157), (1, 158), (2, 156), (3, 152), (4, 144), (5, 224), (6, 192), (7, 128)], 255, [], none⟩),
    (6, ⟨[0, 3, 5, 6], [3, 28, 32, 53, 2005], [], 0, [], none⟩),
    (7, ⟨[0, 3, 5], [3, 28, 32, 53, 2005], [], 0, [], none⟩),
    (8, ⟨[0, 3, 5, 7], [3, 28, 32, 53, 2005], [], 0, [], none⟩),
    (9, ⟨[0, 3, 5, 7, 36], [3, 28, 32, 53, 2005], [], 0, [], none⟩),
    (10, ⟨[0, 3, 5, 7], [3, 28, 32, 53, 2005], [], 0, [], none⟩),
    (11, ⟨[0, 3, 5, 7, 46], [3, 28, 32, 53, 2005], [(0, 157), (1, 158), (2, 156), (3, 152), (4, 144), (5, 224), (6, 192), (7, 128)], 255, [], none⟩),
    (12, ⟨[0, 3, 5, 7], [3, 28, 32, 53, 2005], [], 0, [], none⟩),
    (13, ⟨[4], [28, 32, 53, 2005], [], 0, [], none⟩)] (Try.f80.body.getD .skip) = some M80 := by kernel_rfl
theorem Run80 {args : List PV} {v : AV} {rs : List (Nat × List PV)} (ids : List Bool) (h : args.length ≤ 55) (hv : run Try.prog (retK [RV.tmp 4] ids v rs) M80 [] ⟨entry 0 args, []⟩) : Fn Try.prog 80 args v rs :=
  Fn_run ids (by kernel_rfl) Try.func80 (by decide) rfl mc80 (by kernel_rfl) (by rw [Try.ntmps80]; exact h) (by rw [Try.ntmps80]; decide) hv

/-- 'trystref15.Next' -/
def B29_0 : MC := (.seq (.seq (.reg [⟨(some 12), none, (.q (.mv (.t 7)))⟩, ⟨(some 13), none, (.q (.mv (.t 0)))⟩, ⟨(some 14), none, (.q (.len (.t 13) false))⟩, ⟨(some 15), none, (.q (.bin .lss (.t 12)
  (.t 14)))⟩] [] [0, 1, 4, 6, 7, 15] [4]) (.cond (.t 15) .skip (.exit 0))) (.seq (.block 1 (.seq (.reg [⟨(some 18), none, (.q (.mv (.t 0)))⟩, ⟨(some 19), none, (.q (.mv (.t 7)))⟩, ⟨(some 20), none,
  (.q (.ia (.t 18) (.t 19) 5))⟩, ⟨(some 21), none, (.q (.fa (.t 20) 4))⟩, ⟨(some 22), none, (.q (.ld (.t 21) 1 false))⟩, ⟨(some 23), none, (.q (.mv (.t 1)))⟩, ⟨(some 24), none, (.q (.bin .leq (.t 22)
  (.t 23)))⟩, ⟨(some 25), none, (.q (.mv (.t 24)))⟩, ⟨(some 26), (some (25, true)), (.q (.mv (.t 6)))⟩, ⟨(some 27), (some (25, true)), (.q (.bin .lss (.t 26) (.c (.int .i64 0))))⟩, ⟨(some 28),
  (some (25, true)), (.q (.mv (.t 27)))⟩, ⟨(some 29), (some (28, false)), (.q (.mv (.t 0)))⟩, ⟨(some 30), (some (28, false)), (.q (.mv (.t 7)))⟩, ⟨(some 31), (some (28, false)), (.q (.ia (.t 29)
  (.t 30) 5))⟩, ⟨(some 32), (some (28, false)), (.q (.fa (.t 31) 4))⟩, ⟨(some 33), (some (28, false)), (.q (.ld (.t 32) 1 false))⟩, ⟨(some 34), (some (28, false)), (.q (.mv (.t 0)))⟩, ⟨(some 35),
  (some (28, false)), (.q (.mv (.t 6)))⟩, ⟨(some 36), (some (28, false)), (.q (.ia (.t 34) (.t 35) 5))⟩, ⟨(some 37), (some (28, false)), (.q (.fa (.t 36) 4))⟩, ⟨(some 38), (some (28, false)),
  (.q (.ld (.t 37) 1 false))⟩, ⟨(some 39), (some (28, false)), (.q (.bin .lss (.t 33) (.t 38)))⟩, ⟨(some 40), (some (25, true)), (.q (.pick (.t 28) (.c (.bool true)) (.t 39)))⟩, ⟨(some 41), none,
  (.q (.pick (.t 25) (.t 40) (.c (.bool false))))⟩] [] [0, 1, 4, 6, 7, 41] [4]) (.cond (.t 41) (.reg [⟨(some 42), none, (.q (.mv (.t 7)))⟩, ⟨(some 6), none, (.q (.mv (.t 42)))⟩] [] [0, 1, 4, 6,
  7] [4]) .skip))) (.reg [⟨(some 16), none, (.q (.mv (.t 7)))⟩, ⟨(some 17), none, (.q (.bin .add (.t 16) (.c (.int .i64 1))))⟩, ⟨(some 7), none, (.q (.mv (.t 17)))⟩] [] [0, 1, 4, 6, 7] [4])))
def R29_0 : MC := (.seq (.seq (.reg [⟨(some 43), none, (.q (.mv (.t 6)))⟩, ⟨(some 44), none, (.q (.bin .lss (.t 43) (.c (.int .i64 0))))⟩] [] [0, 4, 6, 44] [4]) (.cond (.t 44) (.seq (.reg [⟨(some 45),
  none, (.q (.mk [(.pv (.sc (.int .u64 0))), (.pv (.sc (.string ⟨#[]⟩))), .e0, (.pv (.sc (.int .i64 0))), (.pv (.sc (.int .i64 0)))] []))⟩, ⟨none, none, (.st (.t 4) (.t 45) 5)⟩, ⟨(some 5), none,
  (.q (.mv (.c (.int .i64 4))))⟩] [] [4, 5] [4]) .ret) .skip)) (.seq (.reg [⟨(some 46), none, (.q (.mv (.t 0)))⟩, ⟨(some 47), none, (.q (.mv (.t 6)))⟩, ⟨(some 48), none, (.q (.ia (.t 46) (.t 47) 5))⟩,
  ⟨(some 49), none, (.q (.ld (.t 48) 5 true))⟩, ⟨none, none, (.st (.t 4) (.t 49) 5)⟩, ⟨(some 5), none, (.q (.mv (.c (.int .i64 0))))⟩] [] [4, 5] [4]) .ret))
def M29 : MC := (.seq (.reg [⟨(some 4), none, (.alloc [(.pv (.sc (.int .u64 0))), (.pv (.sc (.string ⟨#[]⟩))), .e0, (.pv (.sc (.int .i64 0))), (.pv (.sc (.int .i64 0)))])⟩, ⟨(some 5), none,
  (.q (.mv (.c (.int .i64 0))))⟩] [] [0, 1, 4] [4]) (.seq (.seq (.reg [⟨(some 8), none, (.q (.mv (.t 0)))⟩, ⟨(some 9), none, (.call (.f 50) [(.t 8)])⟩, ⟨(some 10), none, (.q (.not (.t 9)))⟩] [] [0, 1,
  4, 10] [4, 1009]) (.cond (.t 10) (.seq (.reg [⟨(some 11), none, (.q (.mk [(.pv (.sc (.int .u64 0))), (.pv (.sc (.string ⟨#[]⟩))), .e0, (.pv (.sc (.int .i64 0))), (.pv (.sc (.int .i64 0)))] []))⟩,
  ⟨none, none, (.st (.t 4) (.t 11) 5)⟩, ⟨(some 5), none, (.q (.mv (.c (.int .i64 1))))⟩] [] [4, 5] [4]) .ret) .skip)) (.seq (.reg [⟨(some 6), none, (.q (.mv (.c (.int .i64 (-1)))))⟩] [] [0, 1, 4,
  6] [4]) (.seq (.seq (.reg [⟨(some 7), none, (.q (.mv (.c (.int .i64 0))))⟩] [] [0, 1, 4, 6, 7] [4]) (.block 0 (.loop B29_0))) R29_0))))
theorem mc29 : ofCode Try.prog [] Try.f29.ntmps [(0, ⟨[0, 1, 4], [4], [], 0, [], none⟩),
    (1, ⟨[0, 1, 4, 10], [4, 1009], [], 0, [], none⟩),
    (2, ⟨[4, 5], [4], [], 0, [], none⟩),
    (3, ⟨[0, 1, 4, 6], [4], [], 0, [], none⟩),
    (4, ⟨[0, 1, 4, 6, 7], [4], [], 0, [], none⟩),
    (5, ⟨[0, 1, 4, 6, 7, 15], [4], [], 0, [], none⟩),
    (6, ⟨[0, 1, 4, 6, 7], [4], [], 0, [], none⟩),
    (7, ⟨[0, 1, 4, 6, 7, 41], [4], [(0, 16777181), (1, 16777182), (2, 16777180), (3, 16777176), (4, 16777168), (5, 16777184), (6, 16777152), (7, 16777088), (8, 16776960), (9, 16776704), (10, 16776192), (11, 14739456), (12, 14741504), (13, 14737408), (14, 14729216), (15, 14712832), (16, 16580608), (17, 16646144), (18, 16515072), (19, 16252928), (20, 15728640), (21, 14680064), (22, 12582912), (23, 8388608)], 16777215, [], none⟩),
    (8, ⟨[0, 1, 4, 6, 7], [4], [], 0, [], none⟩),
    (9, ⟨[0, 4, 6, 44], [4], [], 0, [], none⟩),
    (10, ⟨[4, 5], [4], [], 0, [], none⟩),
    (11, ⟨[4, 5], [4], [], 0, [], none⟩)] (Try.f29.body.getD .skip) = some M29 := by kernel_rfl
theorem Run29 {args : List PV} {v : AV} {rs : List (Nat × List PV)} (ids : List Bool) (h : args.length ≤ 50) (hv : run Try.prog (retK [RV.cell 4 5 true, RV.tmp 5] ids v rs) M29 [] ⟨entry 0 args, []⟩) : Fn Try.prog 29 args v rs :=
  Fn_run ids (by kernel_rfl) Try.func29 (by decide) rfl mc29 (by kernel_rfl) (by rw [Try.ntmps29]; exact h) (by rw [Try.ntmps29]; decide) hv

/-- 'trystref15.Nack' -/
def M31 : MC := (.seq (.reg [⟨(some 6), none, (.q (.mv .nil))⟩, ⟨(some 7), none, (.q (.mv (.c (.bool false))))⟩, ⟨(some 8), none, (.q (.mv (.c (.int .i64 0))))⟩] [] [0, 1, 2] [])
  (.seq (.seq (.reg [⟨(some 13), none, (.q (.mv (.t 0)))⟩, ⟨(some 14), none, (.call (.f 50) [(.t 13)])⟩, ⟨(some 15), none, (.q (.not (.t 14)))⟩, ⟨(some 16), none, (.q (.mv (.t 15)))⟩, ⟨(some 17),
  (some (16, false)), (.q (.mv (.t 2)))⟩, ⟨(some 18), (some (16, false)), (.q (.bin .lss (.t 17) (.c (.int .i64 0))))⟩, ⟨(some 19), none, (.q (.pick (.t 16) (.c (.bool true)) (.t 18)))⟩, ⟨(some 20),
  none, (.q (.mv (.t 19)))⟩, ⟨(some 21), (some (20, false)), (.q (.mv (.t 2)))⟩, ⟨(some 22), (some (20, false)), (.q (.bin .gtr (.t 21) (.c (.int .i64 1099511627775))))⟩, ⟨(some 23), none,
  (.q (.pick (.t 20) (.c (.bool true)) (.t 22)))⟩] [] [0, 1, 2, 23] [1014]) (.cond (.t 23) (.seq (.reg [⟨(some 6), none, (.q (.mv .nil))⟩, ⟨(some 7), none, (.q (.mv (.c (.bool false))))⟩, ⟨(some 8),
  none, (.q (.mv (.c (.int .i64 1))))⟩] [] [6, 7, 8] [1039, 1061]) .ret) .skip)) (.seq (.reg [⟨(some 24), none, (.q (.mv (.t 0)))⟩, ⟨(some 25), none, (.q (.mv (.t 1)))⟩, ⟨(some 26), none,
  (.call (.f 51) [(.t 24), (.t 25)])⟩, ⟨(some 9), none, (.q (.mv (.t 26)))⟩] [] [0, 1, 2, 9] [1026]) (.seq (.seq (.reg [⟨(some 27), none, (.q (.mv (.t 9)))⟩, ⟨(some 28), none, (.q (.bin .lss (.t 27)
  (.c (.int .i64 0))))⟩] [] [0, 1, 2, 9, 28] [1026]) (.cond (.t 28) (.seq (.reg [⟨(some 6), none, (.q (.mv .nil))⟩, ⟨(some 7), none, (.q (.mv (.c (.bool false))))⟩, ⟨(some 8), none,
  (.q (.mv (.c (.int .i64 4))))⟩] [] [6, 7, 8] [1039, 1061]) .ret) .skip)) (.seq (.reg [⟨(some 29), none, (.q (.mv (.t 0)))⟩, ⟨(some 30), none, (.q (.mv (.t 9)))⟩, ⟨(some 31), none, (.q (.ia (.t 29)
  (.t 30) 5))⟩, ⟨(some 32), none, (.q (.ld (.t 31) 5 true))⟩, ⟨(some 10), none, (.alloc [(.pv (.sc (.int .u64 0))), (.pv (.sc (.string ⟨#[]⟩))), .e0, (.pv (.sc (.int .i64 0))),
  (.pv (.sc (.int .i64 0)))])⟩, ⟨none, none, (.st (.t 10) (.t 32) 5)⟩] [] [0, 1, 2, 10] [10]) (.seq (.seq (.reg [⟨(some 33), none, (.q (.fa (.t 10) 3))⟩, ⟨(some 34), none, (.q (.ld (.t 33) 1 false))⟩,
  ⟨(some 35), none, (.q (.bin .eql (.t 34) (.c (.int .i64 4))))⟩] [] [0, 1, 2, 10, 35] [10]) (.cond (.t 35) (.seq (.reg [⟨(some 37), none, (.q (.mv (.t 0)))⟩, ⟨(some 38), none, (.q (.mv (.t 1)))⟩,
  ⟨(some 39), none, (.call (.f 30) [(.t 37), (.t 38)])⟩, ⟨(some 36), none, (.q (.mv (.t 39)))⟩, ⟨(some 40), none, (.q (.ext (.t 36) 0))⟩, ⟨(some 41), none, (.q (.ext (.t 36) 1))⟩, ⟨(some 11), none,
  (.q (.mv (.t 40)))⟩, ⟨(some 12), none, (.q (.mv (.t 41)))⟩] [] [11] [1039]) (.seq (.reg [⟨(some 42), none, (.q (.mv (.t 11)))⟩, ⟨(some 6), none, (.q (.mv (.t 42)))⟩, ⟨(some 7), none,
  (.q (.mv (.c (.bool true))))⟩, ⟨(some 8), none, (.q (.mv (.c (.int .i64 0))))⟩] [] [6, 7, 8] [1039, 1061]) .ret)) .skip)) (.seq (.reg [⟨(some 43), none, (.q (.fa (.t 10) 3))⟩, ⟨(some 44), none,
  (.q (.ld (.t 43) 1 false))⟩, ⟨(some 45), none, (.q (.bin .add (.t 44) (.c (.int .i64 1))))⟩, ⟨(some 46), none, (.q (.fa (.t 10) 3))⟩, ⟨none, none, (.st (.t 46) (.t 45) 1)⟩] [] [0, 2, 10] [10])
  (.seq (.reg [⟨(some 47), none, (.q (.mv (.t 2)))⟩, ⟨(some 48), none, (.lits [(.c (.int .i64 0)), (.c (.int .i64 2)), (.c (.int .i64 4)), (.c (.int .i64 8)), (.c (.int .i64 16))] 1)⟩, ⟨(some 49),
  none, (.q (.fa (.t 10) 3))⟩, ⟨(some 50), none, (.q (.ld (.t 49) 1 false))⟩, ⟨(some 51), none, (.q (.ia (.t 48) (.t 50) 1))⟩, ⟨(some 52), none, (.q (.ld (.t 51) 1 false))⟩, ⟨(some 53), none,
  (.q (.bin .add (.t 47) (.t 52)))⟩, ⟨(some 54), none, (.q (.fa (.t 10) 4))⟩, ⟨none, none, (.st (.t 54) (.t 53) 1)⟩] [] [0, 10] [10]) (.seq (.seq (.reg [⟨(some 55), none, (.q (.fa (.t 10) 4))⟩,
  ⟨(some 56), none, (.q (.ld (.t 55) 1 false))⟩, ⟨(some 57), none, (.q (.bin .gtr (.t 56) (.c (.int .i64 1099511627775))))⟩] [] [0, 10, 57] [10]) (.cond (.t 57) (.reg [⟨(some 58), none,
  (.q (.fa (.t 10) 4))⟩, ⟨none, none, (.st (.t 58) (.c (.int .i64 1099511627775)) 1)⟩] [] [0, 10] [10]) .skip)) (.seq (.reg [⟨(some 59), none, (.q (.mv (.t 0)))⟩, ⟨(some 60), none, (.q (.ld (.t 10)
  5 true))⟩, ⟨(some 61), none, (.call (.f 80) [(.t 59), (.t 60)])⟩, ⟨(some 6), none, (.q (.mv (.t 61)))⟩, ⟨(some 7), none, (.q (.mv (.c (.bool false))))⟩, ⟨(some 8), none,
  (.q (.mv (.c (.int .i64 0))))⟩] [] [6, 7, 8] [1039, 1061]) .ret))))))))))
theorem mc31 : ofCode Try.prog [] Try.f31.ntmps [(0, ⟨[0, 1, 2], [], [], 0, [], none⟩),
    (1, ⟨[0, 1, 2, 23], [1014], [], 0, [], none⟩),
    (2, ⟨[6, 7, 8], [1039, 1061], [], 0, [], none⟩),
    (3, ⟨[0, 1, 2, 9], [1026], [], 0, [], none⟩),
    (4, ⟨[0, 1, 2, 9, 28], [1026], [], 0, [], none⟩),
    (5, ⟨[6, 7, 8], [1039, 1061], [], 0, [], none⟩),
    (6, ⟨[0, 1, 2, 10], [10], [], 0, [], none⟩),
    (7, ⟨[0, 1, 2, 10, 35], [10], [], 0, [], none⟩),
    (8, ⟨[11], [1039], [], 0, [], none⟩),
    (9, ⟨[6, 7, 8], [1039, 1061], [], 0, [], none⟩),
    (10, ⟨[0, 2, 10], [10], [], 0, [], none⟩),
    (11, ⟨[0, 10], [10], [], 0, [], none⟩),
    (12, ⟨[0, 10, 57], [10], [], 0, [], none⟩),
    (13, ⟨[0, 10], [10], [], 0, [], none⟩),
    (14, ⟨[6, 7, 8], [1039, 1061], [], 0, [], none⟩)] (Try.f31.body.getD .skip) = some M31 := by kernel_rfl
theorem Run31 {args : List PV} {v : AV} {rs : List (Nat × List PV)} (ids : List Bool) (h : args.length ≤ 62) (hv : run Try.prog (retK [RV.tmp 6, RV.tmp 7, RV.tmp 8] ids v rs) M31 [] ⟨entry 0 args, []⟩) : Fn Try.prog 31 args v rs :=
  Fn_run ids (by kernel_rfl) Try.func31 (by decide) rfl mc31 (by kernel_rfl) (by rw [Try.ntmps31]; exact h) (by rw [Try.ntmps31]; decide) hv

/-- 'trystlaw15.OutboxTakes' -/
def M5 : MC := (.seq (.reg [⟨(some 6), none, (.q (.mv (.c (.bool false))))⟩] [] [0, 1, 2] [1023]) (.seq (.reg [⟨(some 22), none, (.q (.mv (.t 0)))⟩, ⟨(some 23), none, (.call (.f 20) [(.t 22)])⟩,
  ⟨(some 0), none, (.q (.mv (.t 23)))⟩] [] [0, 1, 2] [1023]) (.seq (.reg [⟨(some 24), none, (.q (.mv (.t 0)))⟩, ⟨(some 25), none, (.call (.f 20) [(.t 24)])⟩, ⟨(some 7), none,
  (.q (.mv (.t 25)))⟩] [] [0, 1, 2, 7] [1023, 1025]) (.seq (.reg [⟨(some 27), none, (.q (.mv (.t 0)))⟩, ⟨(some 28), none, (.q (.mv (.t 2)))⟩, ⟨(some 29), none, (.call (.f 28) [(.t 27), (.t 28)])⟩,
  ⟨(some 26), none, (.q (.mv (.t 29)))⟩, ⟨(some 30), none, (.q (.ext (.t 26) 0))⟩, ⟨(some 31), none, (.q (.ext (.t 26) 1))⟩, ⟨(some 8), none, (.alloc [(.pv (.sc (.int .u64 0))),
  (.pv (.sc (.string ⟨#[]⟩))), .e0, (.pv (.sc (.int .i64 0))), (.pv (.sc (.int .i64 0)))])⟩, ⟨none, none, (.st (.t 8) (.t 30) 5)⟩, ⟨(some 9), none, (.q (.mv (.t 31)))⟩] [] [0, 1, 2, 7, 8, 9] [8, 1023,
  1025, 1029]) (.seq (.reg [⟨(some 33), none, (.q (.mv (.t 0)))⟩, ⟨(some 34), none, (.q (.mv (.t 2)))⟩, ⟨(some 35), none, (.call (.f 29) [(.t 33), (.t 34)])⟩, ⟨(some 32), none, (.q (.mv (.t 35)))⟩,
  ⟨(some 36), none, (.q (.ext (.t 32) 0))⟩, ⟨(some 37), none, (.q (.ext (.t 32) 1))⟩, ⟨(some 10), none, (.alloc [(.pv (.sc (.int .u64 0))), (.pv (.sc (.string ⟨#[]⟩))), .e0, (.pv (.sc (.int .i64 0))),
  (.pv (.sc (.int .i64 0)))])⟩, ⟨none, none, (.st (.t 10) (.t 36) 5)⟩, ⟨(some 11), none, (.q (.mv (.t 37)))⟩] [] [0, 1, 2, 7, 8, 9, 10, 11] [8, 10, 1023, 1025, 1029, 1035]) (.seq (.reg [⟨(some 39),
  none, (.q (.mv (.t 0)))⟩, ⟨(some 40), none, (.q (.mv (.t 1)))⟩, ⟨(some 41), none, (.call (.f 21) [(.t 39), (.t 40)])⟩, ⟨(some 38), none, (.q (.mv (.t 41)))⟩, ⟨(some 42), none, (.q (.ext (.t 38)
  0))⟩, ⟨(some 43), none, (.q (.ext (.t 38) 1))⟩, ⟨(some 12), none, (.q (.mv (.t 42)))⟩, ⟨(some 13), none, (.q (.mv (.t 43)))⟩] [] [0, 1, 2, 7, 8, 9, 10, 11, 12, 13] [8, 10, 1023, 1025, 1029, 1035,
  1041]) (.seq (.reg [⟨(some 45), none, (.q (.mv (.t 0)))⟩, ⟨(some 46), none, (.q (.mv (.t 1)))⟩, ⟨(some 47), none, (.call (.f 30) [(.t 45), (.t 46)])⟩, ⟨(some 44), none, (.q (.mv (.t 47)))⟩,
  ⟨(some 48), none, (.q (.ext (.t 44) 0))⟩, ⟨(some 49), none, (.q (.ext (.t 44) 1))⟩, ⟨(some 14), none, (.q (.mv (.t 48)))⟩, ⟨(some 15), none, (.q (.mv (.t 49)))⟩] [] [0, 1, 2, 7, 8, 9, 10, 11, 12,
  13, 14, 15] [8, 10, 1023, 1025, 1029, 1035, 1041, 1047]) (.seq (.reg [⟨(some 51), none, (.q (.mv (.t 0)))⟩, ⟨(some 52), none, (.q (.mv (.t 1)))⟩, ⟨(some 53), none, (.q (.mv (.t 2)))⟩, ⟨(some 54),
  none, (.call (.f 27) [(.t 51), (.t 52), (.t 53)])⟩, ⟨(some 50), none, (.q (.mv (.t 54)))⟩, ⟨(some 55), none, (.q (.ext (.t 50) 0))⟩, ⟨(some 56), none, (.q (.ext (.t 50) 1))⟩, ⟨(some 57), none,
  (.q (.ext (.t 50) 2))⟩, ⟨(some 16), none, (.q (.mv (.t 55)))⟩, ⟨(some 17), none, (.q (.mv (.t 56)))⟩, ⟨(some 18), none, (.q (.mv (.t 57)))⟩] [] [0, 1, 2, 7, 8, 9, 10, 11, 12, 13, 14, 15, 16, 17,
  18] [8, 10, 1023, 1025, 1029, 1035, 1041, 1047, 1054]) (.seq (.reg [⟨(some 59), none, (.q (.mv (.t 0)))⟩, ⟨(some 60), none, (.q (.mv (.t 1)))⟩, ⟨(some 61), none, (.q (.mv (.t 2)))⟩, ⟨(some 62),
  none, (.call (.f 31) [(.t 59), (.t 60), (.t 61)])⟩, ⟨(some 58), none, (.q (.mv (.t 62)))⟩, ⟨(some 63), none, (.q (.ext (.t 58) 0))⟩, ⟨(some 64), none, (.q (.ext (.t 58) 1))⟩, ⟨(some 65), none,
  (.q (.ext (.t 58) 2))⟩, ⟨(some 19), none, (.q (.mv (.t 63)))⟩, ⟨(some 20), none, (.q (.mv (.t 64)))⟩, ⟨(some 21), none, (.q (.mv (.t 65)))⟩] [] [0, 7, 8, 9, 10, 11, 12, 13, 14, 15, 16, 17, 18, 19,
  20, 21] [8, 10, 1023, 1025, 1029, 1035, 1041, 1047, 1054, 1062]) (.seq (.reg [⟨(some 66), none, (.q (.ld (.t 8) 5 true))⟩, ⟨(some 67), none, (.q (.ld (.t 10) 5 true))⟩, ⟨(some 68), none,
  (.call (.f 32) [(.t 66), (.t 67)])⟩, ⟨(some 69), none, (.q (.mv (.t 68)))⟩, ⟨(some 70), (some (69, true)), (.q (.mv (.t 9)))⟩, ⟨(some 71), (some (69, true)), (.q (.mv (.t 11)))⟩, ⟨(some 72),
  (some (69, true)), (.q (.bin .eql (.t 70) (.t 71)))⟩, ⟨(some 73), none, (.q (.pick (.t 69) (.t 72) (.c (.bool false))))⟩, ⟨(some 74), none, (.q (.mv (.t 73)))⟩, ⟨(some 75), (some (74, true)),
  (.q (.mv (.t 12)))⟩, ⟨(some 76), (some (74, true)), (.q (.mv (.t 14)))⟩, ⟨(some 77), (some (74, true)), (.call (.f 23) [(.t 75), (.t 76)])⟩, ⟨(some 78), none, (.q (.pick (.t 74) (.t 77)
  (.c (.bool false))))⟩, ⟨(some 79), none, (.q (.mv (.t 78)))⟩, ⟨(some 80), (some (79, true)), (.q (.mv (.t 13)))⟩, ⟨(some 81), (some (79, true)), (.q (.mv (.t 15)))⟩, ⟨(some 82), (some (79, true)),
  (.q (.bin .eql (.t 80) (.t 81)))⟩, ⟨(some 83), none, (.q (.pick (.t 79) (.t 82) (.c (.bool false))))⟩, ⟨(some 84), none, (.q (.mv (.t 83)))⟩, ⟨(some 85), (some (84, true)), (.q (.mv (.t 16)))⟩,
  ⟨(some 86), (some (84, true)), (.q (.mv (.t 19)))⟩, ⟨(some 87), (some (84, true)), (.call (.f 23) [(.t 85), (.t 86)])⟩, ⟨(some 88), none, (.q (.pick (.t 84) (.t 87) (.c (.bool false))))⟩,
  ⟨(some 89), none, (.q (.mv (.t 88)))⟩, ⟨(some 90), (some (89, true)), (.q (.mv (.t 17)))⟩, ⟨(some 91), (some (89, true)), (.q (.mv (.t 20)))⟩, ⟨(some 92), (some (89, true)), (.q (.beq false (.t 90)
  (.t 91)))⟩, ⟨(some 93), none, (.q (.pick (.t 89) (.t 92) (.c (.bool false))))⟩, ⟨(some 94), none, (.q (.mv (.t 93)))⟩, ⟨(some 95), (some (94, true)), (.q (.mv (.t 18)))⟩, ⟨(some 96), (some (94,
  true)), (.q (.mv (.t 21)))⟩, ⟨(some 97), (some (94, true)), (.q (.bin .eql (.t 95) (.t 96)))⟩, ⟨(some 98), none, (.q (.pick (.t 94) (.t 97) (.c (.bool false))))⟩, ⟨(some 99), none,
  (.q (.mv (.t 98)))⟩, ⟨(some 100), (some (99, true)), (.q (.mv (.t 0)))⟩, ⟨(some 101), (some (99, true)), (.q (.mv (.t 7)))⟩, ⟨(some 102), (some (99, true)), (.call (.f 23) [(.t 100), (.t 101)])⟩,
  ⟨(some 103), none, (.q (.pick (.t 99) (.t 102) (.c (.bool false))))⟩, ⟨(some 104), none, (.q (.mv (.t 103)))⟩, ⟨(some 105), (some (104, true)), (.call (.f 22) [])⟩, ⟨(some 106), none,
  (.q (.pick (.t 104) (.t 105) (.c (.bool false))))⟩, ⟨(some 6), none, (.q (.mv (.t 106)))⟩] [] [6] [1029, 1035, 1041, 1047, 1054, 1062, 1068, 1077, 1087, 1102, 1105]) .ret))))))))))
theorem mc5 : ofCode Try.prog [] Try.f5.ntmps [(0, ⟨[0, 1, 2], [1023], [], 0, [], none⟩),
    (1, ⟨[0, 1, 2], [1023], [], 0, [], none⟩),
    (2, ⟨[0, 1, 2, 7], [1023, 1025], [], 0, [], none⟩),
    (3, ⟨[0, 1, 2, 7, 8, 9], [8, 1023, 1025, 1029], [], 0, [], none⟩),
    (4, ⟨[0, 1, 2, 7, 8, 9, 10, 11], [8, 10, 1023, 1025, 1029, 1035], [], 0, [], none⟩),
    (5, ⟨[0, 1, 2, 7, 8, 9, 10, 11, 12, 13], [8, 10, 1023, 1025, 1029, 1035, 1041], [], 0, [], none⟩),
    (6, ⟨[0, 1, 2, 7, 8, 9, 10, 11, 12, 13, 14, 15], [8, 10, 1023, 1025, 1029, 1035, 1041, 1047], [], 0, [], none⟩),
    (7, ⟨[0, 1, 2, 7, 8, 9, 10, 11, 12, 13, 14, 15, 16, 17, 18], [8, 10, 1023, 1025, 1029, 1035, 1041, 1047, 1054], [], 0, [], none⟩),
    (8, ⟨[0, 7, 8, 9, 10, 11, 12, 13, 14, 15, 16, 17, 18, 19, 20, 21], [8, 10, 1023, 1025, 1029, 1035, 1041, 1047, 1054, 1062], [], 0, [], none⟩),
    (9, ⟨[6], [1029, 1035, 1041, 1047, 1054, 1062, 1068, 1077, 1087, 1102, 1105], [], 0, [], none⟩)] (Try.f5.body.getD .skip) = some M5 := by kernel_rfl
theorem Run5 {args : List PV} {v : AV} {rs : List (Nat × List PV)} (ids : List Bool) (h : args.length ≤ 107) (hv : run Try.prog (retK [RV.tmp 6] ids v rs) M5 [] ⟨entry 0 args, []⟩) : Fn Try.prog 5 args v rs :=
  Fn_run ids (by kernel_rfl) Try.func5 (by decide) rfl mc5 (by kernel_rfl) (by rw [Try.ntmps5]; exact h) (by rw [Try.ntmps5]; decide) hv

end Go.Vc

namespace Go.Vc
open Go.Proofs
set_option linter.unusedSimpArgs false
set_option linter.unusedVariables false

/-! ## The document's answer -/
theorem indexByte_no : ∀ {l : List UInt8} {c : UInt8}, Lib.indexByte l c < 0 ↔ ∀ x ∈ l, x ≠ c
  | [], c => by simp [Lib.indexByte]
  | b :: l, c => by
    have ih := indexByte_no (l := l) (c := c)
    have h2 := indexByte_lt l c
    simp only [Lib.indexByte, List.mem_cons, forall_eq_or_imp]
    by_cases hb : b = c
    · simp [hb]
    · have hb' : (b == c) = false := by simpa using hb
      rw [hb']
      simp only [if_false, Bool.false_eq_true]
      by_cases h3 : Lib.indexByte l c = -1
      · have := ih.1 (by omega)
        simp [h3, hb]
        exact this
      · have h4 : ¬ Lib.indexByte l c < 0 := by omega
        have h5 : (Lib.indexByte l c == -1) = false := by simpa using h3
        rw [h5]
        simp only [if_false, Bool.false_eq_true]
        refine ⟨fun h => by omega, fun h => absurd (ih.2 h.2) h4⟩
theorem dotAt_no {s : ByteArray} : dotAt s < 0 ↔ ∀ i, i < s.size → s.get! i ≠ 46 := by
  unfold dotAt
  rw [indexByte_no]
  have hsz : s.data.toList.length = s.size := by simp
  refine ⟨fun h i hi => ?_, fun h x hx => ?_⟩
  · rw [get_list hi]; exact h _ (List.getElem_mem _)
  · obtain ⟨j, hj, rfl⟩ := List.mem_iff_getElem.1 hx
    rw [← get_list (by omega)]; exact h j (by omega)
theorem fieldB_dot {s : ByteArray} {i : Nat} (h : i < s.size) (h2 : s.get! i = 46) : fieldB s = false := by
  have : 0 ≤ dotAt s := by
    by_cases hd : dotAt s < 0
    · exact absurd h2 (dotAt_no.1 hd i h)
    · omega
  simp [fieldB, this]
theorem fieldB_no {s : ByteArray} (h : dotAt s < 0) : fieldB s = (decide (s.size ≤ 16) && partB s) := by
  have h0 : ¬ 0 ≤ dotAt s := by omega
  by_cases h1 : s.size ≤ 16
  · have h2 : s.size ≤ 40 := by omega
    simp [fieldB, topicB, allN, cutB, h0, h1, h2]
  · simp [fieldB, h1]
theorem getD_get! (s : ByteArray) (i : Nat) : s.data.getD i 0 = s.get! i := by
  obtain ⟨a⟩ := s
  show a.getD i 0 = a[i]!
  rw [Array.getElem!_eq_getD]; rfl
theorem get_46 {s : ByteArray} {i : Nat} (h : ((s.get! i).toNat : Int) = 46) : s.get! i = 46 := by
  have : (s.get! i).toNat = 46 := by omega
  exact UInt8.toNat_inj.1 this
theorem fn118 (s : ByteArray) (hs : s.size ≤ 1000) : Fn Try.prog 118 [pS s] (.pv (pB (partB s))) [] := by
  refine Run118 [] (by simp) ?_
  simp only [go_sem, Nat.reduceEqDiff, Nat.reduceBEq, Nat.reduceAdd, Nat.reduceMul, Nat.reduceSub, Nat.reduceLeDiff, Nat.reduceLT, reduceIte, reduceCtorEq, Int.reduceToNat, Int.reduceLE, Int.reduceLT, Int.reduceNeg, Bool.not_not, and_self, Bool.and_eq_false_iff, Int.cast_ofNat_Int, Int.reduceAdd, Int.reduceSub, Int.reduceMul, Int.reduceEq, Int.reduceNe, M118]
  refine run_loop (T := Nat) (fun i => ⟨[(0, .pv (pS s)), (3, .pv (pI i))], []⟩) (fun i => i ≤ s.size ∧ ∀ j (h : j < s.data.toList.length), j < i → okR s.data.toList[j].toNat = true) (fun i => s.size - i) 0 rfl ⟨Nat.zero_le _, fun j _ h => absurd h (by omega)⟩ ?_
  rintro i ⟨hi, hq⟩
  have hsz : s.data.toList.length = s.size := by simp
  by_cases hlt : i < s.size
  · have hg := get_list hlt
    have hmem : s.data.toList[i]'(by omega) ∈ s.data.toList := List.getElem_mem _
    have no : okR (s.get! i).toNat = false → partB s = false := fun h => by
      unfold partB
      rw [Bool.and_eq_false_iff, List.all_eq_false]
      right
      exact ⟨_, hmem, by rw [← hg, h]; simp⟩
    have yes : okR (s.get! i).toNat = true → ∀ j (h : j < s.data.toList.length), j < i + 1 → okR s.data.toList[j].toNat = true := fun h j hj hji => by
      by_cases e : j = i
      · subst e; rw [← hg]; exact h
      · exact hq j hj (by omega)
    simp only [go_sem, Nat.reduceEqDiff, Nat.reduceBEq, Nat.reduceAdd, Nat.reduceMul, Nat.reduceSub, Nat.reduceLeDiff, Nat.reduceLT, reduceIte, reduceCtorEq, Int.reduceToNat, Int.reduceLE, Int.reduceLT, Int.reduceNeg, Bool.not_not, and_self, Bool.and_eq_false_iff, Int.cast_ofNat_Int, Int.reduceAdd, Int.reduceSub, Int.reduceMul, Int.reduceEq, Int.reduceNe, B118_0, hlt, getD_get!, show (i : Int) < (s.size : Int) by omega]
    generalize hx : ((s.get! i).toNat : Int) = x at *
    have ho : okR x = true ↔ (97 ≤ x ∧ x ≤ 122 ∨ 48 ≤ x ∧ x ≤ 57) ∨ x = 95 := by simp [okR, or_assoc]
    refine ⟨fun h => ⟨h, ?_⟩, fun h => ?_, fun h => ⟨⟨by omega, by omega⟩, i + 1, rfl, ⟨hlt, yes (ho.2 h)⟩, by omega⟩⟩
    · by_cases h1 : 48 ≤ x
      · simp [h1]; omega
      · simp [h1]
    · rw [no]
      cases h2 : okR x with
      | false => rfl
      | true => have := ho.1 h2; omega
  · simp only [go_sem, Nat.reduceEqDiff, Nat.reduceBEq, Nat.reduceAdd, Nat.reduceMul, Nat.reduceSub, Nat.reduceLeDiff, Nat.reduceLT, reduceIte, reduceCtorEq, Int.reduceToNat, Int.reduceLE, Int.reduceLT, Int.reduceNeg, Bool.not_not, and_self, Bool.and_eq_false_iff, Int.cast_ofNat_Int, Int.reduceAdd, Int.reduceSub, Int.reduceMul, Int.reduceEq, Int.reduceNe, B118_0, R118_0, hlt, show ¬ (i : Int) < (s.size : Int) by omega]
    have : s.data.toList.all (fun b => okR b.toNat) = true := List.all_eq_true.2 fun b hb => by
      obtain ⟨j, hj, rfl⟩ := List.mem_iff_getElem.1 hb
      exact hq j hj (by omega)
    unfold partB
    rw [this]
    simp
theorem fn117 (s : ByteArray) (hs : s.size ≤ 1000) (hd : dotAt s < 0) : Fn Try.prog 117 [pS s] (.pv (.lst [pS s])) [] := by
  refine Run117 [false] (by simp) ?_
  simp only [go_sem, Nat.reduceEqDiff, Nat.reduceBEq, Nat.reduceAdd, Nat.reduceMul, Nat.reduceSub, Nat.reduceLeDiff, Nat.reduceLT, reduceIte, reduceCtorEq, Int.reduceToNat, Int.reduceLE, Int.reduceLT, Int.reduceNeg, Bool.not_not, and_self, Bool.and_eq_false_iff, Int.cast_ofNat_Int, Int.reduceAdd, Int.reduceSub, Int.reduceMul, Int.reduceEq, Int.reduceNe, M117]
  refine ⟨⟨?_, _, rfl⟩, ?_⟩
  · rintro v rfl c hc
    have := List.mem_singleton.1 hc
    subst this; rfl
  refine run_loop (T := Nat) (fun i => ⟨[(0, .pv (pS s)), (3, .row 5 0 1), (4, .pv (pI i))], [(5, .sl 1 [pS (s.extract 0 i)])]⟩) (fun i => i ≤ s.size) (fun i => s.size - i) 0 ?_ (Nat.zero_le _) ?_
  · rw [show s.extract 0 0 = ⟨#[]⟩ from by simp; rfl]
    rfl
  intro i hi
  by_cases hlt : i < s.size
  · have hg := dotAt_no.1 hd i hlt
    have hg2 : ¬ ((s.get! i).toNat : Int) = 46 := fun h => hg (get_46 h)
    simp only [go_sem, Nat.reduceEqDiff, Nat.reduceBEq, Nat.reduceAdd, Nat.reduceMul, Nat.reduceSub, Nat.reduceLeDiff, Nat.reduceLT, reduceIte, reduceCtorEq, Int.reduceToNat, Int.reduceLE, Int.reduceLT, Int.reduceNeg, Bool.not_not, and_self, Bool.and_eq_false_iff, Int.cast_ofNat_Int, Int.reduceAdd, Int.reduceSub, Int.reduceMul, Int.reduceEq, Int.reduceNe, B117_0, hlt, getD_get!, hg2, show (i : Int) < (s.size : Int) by omega]
    have e1 : ((i : Int) + 1).toNat = i + 1 := by omega
    have e2 : s.extract 0 i ++ s.extract i (i + 1) = s.extract 0 (i + 1) := by rw [ByteArray.extract_append_extract]; simp
    rw [e1, e2]
    refine ⟨⟨by omega, by omega⟩, ⟨by omega, by omega⟩, ?_, ⟨by omega, by omega⟩, i + 1, rfl, hlt, by omega⟩
    rw [ByteArray.size_extract, ByteArray.size_extract]; omega
  · simp only [go_sem, Nat.reduceEqDiff, Nat.reduceBEq, Nat.reduceAdd, Nat.reduceMul, Nat.reduceSub, Nat.reduceLeDiff, Nat.reduceLT, reduceIte, reduceCtorEq, Int.reduceToNat, Int.reduceLE, Int.reduceLT, Int.reduceNeg, Bool.not_not, and_self, Bool.and_eq_false_iff, Int.cast_ofNat_Int, Int.reduceAdd, Int.reduceSub, Int.reduceMul, Int.reduceEq, Int.reduceNe, B117_0, R117_0, hlt, show ¬ (i : Int) < (s.size : Int) by omega]
    have : i = s.size := by omega
    subst this
    rw [ByteArray.extract_zero_size]
theorem fn107 (s : ByteArray) (hs : s.size ≤ 1000) (hd : dotAt s < 0) : Fn Try.prog 107 [pS s, pB false] (.pv (pB (partB s && decide (s.size ≤ 40)))) [] := by
  refine Run107 [] (by simp) ?_
  simp only [go_sem, Nat.reduceEqDiff, Nat.reduceBEq, Nat.reduceAdd, Nat.reduceMul, Nat.reduceSub, Nat.reduceLeDiff, Nat.reduceLT, reduceIte, reduceCtorEq, Int.reduceToNat, Int.reduceLE, Int.reduceLT, Int.reduceNeg, Bool.not_not, and_self, Bool.and_eq_false_iff, Int.cast_ofNat_Int, Int.reduceAdd, Int.reduceSub, Int.reduceMul, Int.reduceEq, Int.reduceNe, M107]
  refine runR_call (by simp only [go_sem, Nat.reduceEqDiff, Nat.reduceBEq, Nat.reduceAdd, Nat.reduceMul, Nat.reduceSub, Nat.reduceLeDiff, Nat.reduceLT, reduceIte, reduceCtorEq, Int.reduceToNat, Int.reduceLE, Int.reduceLT, Int.reduceNeg, Bool.not_not, and_self, Bool.and_eq_false_iff, Int.cast_ofNat_Int, Int.reduceAdd, Int.reduceSub, Int.reduceMul, Int.reduceEq, Int.reduceNe]) rfl (fn117 s hs hd) (.inl rfl) trivial ?_
  simp only [go_sem, Nat.reduceEqDiff, Nat.reduceBEq, Nat.reduceAdd, Nat.reduceMul, Nat.reduceSub, Nat.reduceLeDiff, Nat.reduceLT, reduceIte, reduceCtorEq, Int.reduceToNat, Int.reduceLE, Int.reduceLT, Int.reduceNeg, Bool.not_not, and_self, Bool.and_eq_false_iff, Int.cast_ofNat_Int, Int.reduceAdd, Int.reduceSub, Int.reduceMul, Int.reduceEq, Int.reduceNe]
  have hw : WfL 1 [pS s] := fun p hp => by
    have := List.mem_singleton.1 hp
    subst this
    exact ⟨rfl, fun c hc => by have := List.mem_singleton.1 hc; subst this; rfl⟩
  refine run_loop (T := Nat) (fun i => ⟨[(0, .pv (pS s)), (1, .pv (pB false)), (5, .pv (.lst [pS s])), (6, .pv (pI i))], []⟩) (fun i => i = 0 ∨ i = 1 ∧ partB s = true) (fun i => 1 - i) 0 rfl (.inl rfl) ?_
  rintro i (rfl | ⟨rfl, hp⟩)
  · simp only [go_sem, Nat.reduceEqDiff, Nat.reduceBEq, Nat.reduceAdd, Nat.reduceMul, Nat.reduceSub, Nat.reduceLeDiff, Nat.reduceLT, reduceIte, reduceCtorEq, Int.reduceToNat, Int.reduceLE, Int.reduceLT, Int.reduceNeg, Bool.not_not, and_self, Bool.and_eq_false_iff, Int.cast_ofNat_Int, Int.reduceAdd, Int.reduceSub, Int.reduceMul, Int.reduceEq, Int.reduceNe, B107_0]
    refine ⟨hw, ?_⟩
    refine runR_callf (by simp only [go_sem, Nat.reduceEqDiff, Nat.reduceBEq, Nat.reduceAdd, Nat.reduceMul, Nat.reduceSub, Nat.reduceLeDiff, Nat.reduceLT, reduceIte, reduceCtorEq, Int.reduceToNat, Int.reduceLE, Int.reduceLT, Int.reduceNeg, Bool.not_not, and_self, Bool.and_eq_false_iff, Int.cast_ofNat_Int, Int.reduceAdd, Int.reduceSub, Int.reduceMul, Int.reduceEq, Int.reduceNe]) (by simp only [go_sem, Nat.reduceEqDiff, Nat.reduceBEq, Nat.reduceAdd, Nat.reduceMul, Nat.reduceSub, Nat.reduceLeDiff, Nat.reduceLT, reduceIte, reduceCtorEq, Int.reduceToNat, Int.reduceLE, Int.reduceLT, Int.reduceNeg, Bool.not_not, and_self, Bool.and_eq_false_iff, Int.cast_ofNat_Int, Int.reduceAdd, Int.reduceSub, Int.reduceMul, Int.reduceEq, Int.reduceNe]) (fn118 s hs) ⟨rfl, trivial⟩ trivial ?_
    simp only [go_sem, Nat.reduceEqDiff, Nat.reduceBEq, Nat.reduceAdd, Nat.reduceMul, Nat.reduceSub, Nat.reduceLeDiff, Nat.reduceLT, reduceIte, reduceCtorEq, Int.reduceToNat, Int.reduceLE, Int.reduceLT, Int.reduceNeg, Bool.not_not, and_self, Bool.and_eq_false_iff, Int.cast_ofNat_Int, Int.reduceAdd, Int.reduceSub, Int.reduceMul, Int.reduceEq, Int.reduceNe]
    refine ⟨fun h => by rw [h]; rfl, fun h => ⟨1, rfl, .inr ⟨rfl, h⟩, by omega⟩⟩
  · simp only [go_sem, Nat.reduceEqDiff, Nat.reduceBEq, Nat.reduceAdd, Nat.reduceMul, Nat.reduceSub, Nat.reduceLeDiff, Nat.reduceLT, reduceIte, reduceCtorEq, Int.reduceToNat, Int.reduceLE, Int.reduceLT, Int.reduceNeg, Bool.not_not, and_self, Bool.and_eq_false_iff, Int.cast_ofNat_Int, Int.reduceAdd, Int.reduceSub, Int.reduceMul, Int.reduceEq, Int.reduceNe, B107_0, R107_0]
    have : decide ((s.size : Int) ≤ 40) = decide (s.size ≤ 40) := decide_eq_decide.2 (by omega)
    rw [this, hp]; rfl
theorem fn85 (s : ByteArray) (hs : s.size ≤ 1000) (hd : dotAt s < 0) : Fn Try.prog 85 [pS s] (.pv (pB (partB s && decide (s.size ≤ 40)))) [] := by
  refine Run85 [] (by simp) ?_
  simp only [go_sem, Nat.reduceEqDiff, Nat.reduceBEq, Nat.reduceAdd, Nat.reduceMul, Nat.reduceSub, Nat.reduceLeDiff, Nat.reduceLT, reduceIte, reduceCtorEq, Int.reduceToNat, Int.reduceLE, Int.reduceLT, Int.reduceNeg, Bool.not_not, and_self, Bool.and_eq_false_iff, Int.cast_ofNat_Int, Int.reduceAdd, Int.reduceSub, Int.reduceMul, Int.reduceEq, Int.reduceNe, M85]
  refine runR_callf (by simp only [go_sem, Nat.reduceEqDiff, Nat.reduceBEq, Nat.reduceAdd, Nat.reduceMul, Nat.reduceSub, Nat.reduceLeDiff, Nat.reduceLT, reduceIte, reduceCtorEq, Int.reduceToNat, Int.reduceLE, Int.reduceLT, Int.reduceNeg, Bool.not_not, and_self, Bool.and_eq_false_iff, Int.cast_ofNat_Int, Int.reduceAdd, Int.reduceSub, Int.reduceMul, Int.reduceEq, Int.reduceNe]) (by simp only [go_sem, Nat.reduceEqDiff, Nat.reduceBEq, Nat.reduceAdd, Nat.reduceMul, Nat.reduceSub, Nat.reduceLeDiff, Nat.reduceLT, reduceIte, reduceCtorEq, Int.reduceToNat, Int.reduceLE, Int.reduceLT, Int.reduceNeg, Bool.not_not, and_self, Bool.and_eq_false_iff, Int.cast_ofNat_Int, Int.reduceAdd, Int.reduceSub, Int.reduceMul, Int.reduceEq, Int.reduceNe]) (fn107 s hs hd) ⟨rfl, trivial⟩ trivial ?_
  simp only [go_sem, Nat.reduceEqDiff, Nat.reduceBEq, Nat.reduceAdd, Nat.reduceMul, Nat.reduceSub, Nat.reduceLeDiff, Nat.reduceLT, reduceIte, reduceCtorEq, Int.reduceToNat, Int.reduceLE, Int.reduceLT, Int.reduceNeg, Bool.not_not, and_self, Bool.and_eq_false_iff, Int.cast_ofNat_Int, Int.reduceAdd, Int.reduceSub, Int.reduceMul, Int.reduceEq, Int.reduceNe]
theorem fn46 (s : ByteArray) (hs : s.size ≤ 1000) : Fn Try.prog 46 [pS s] (.pv (pB (fieldB s))) [] := by
  refine Run46 [] (by simp) ?_
  simp only [go_sem, Nat.reduceEqDiff, Nat.reduceBEq, Nat.reduceAdd, Nat.reduceMul, Nat.reduceSub, Nat.reduceLeDiff, Nat.reduceLT, reduceIte, reduceCtorEq, Int.reduceToNat, Int.reduceLE, Int.reduceLT, Int.reduceNeg, Bool.not_not, and_self, Bool.and_eq_false_iff, Int.cast_ofNat_Int, Int.reduceAdd, Int.reduceSub, Int.reduceMul, Int.reduceEq, Int.reduceNe, M46]
  refine run_loop (T := Nat) (fun i => ⟨[(0, .pv (pS s)), (3, .pv (pI i))], []⟩) (fun i => i ≤ s.size ∧ ∀ j, j < i → s.get! j ≠ 46) (fun i => s.size - i) 0 rfl ⟨Nat.zero_le _, fun j h => absurd h (by omega)⟩ ?_
  intro i ⟨hi, hq⟩
  by_cases hlt : i < s.size
  · simp only [go_sem, Nat.reduceEqDiff, Nat.reduceBEq, Nat.reduceAdd, Nat.reduceMul, Nat.reduceSub, Nat.reduceLeDiff, Nat.reduceLT, reduceIte, reduceCtorEq, Int.reduceToNat, Int.reduceLE, Int.reduceLT, Int.reduceNeg, Bool.not_not, and_self, Bool.and_eq_false_iff, Int.cast_ofNat_Int, Int.reduceAdd, Int.reduceSub, Int.reduceMul, Int.reduceEq, Int.reduceNe, B46_0, hlt, getD_get!, show (i : Int) < (s.size : Int) by omega]
    refine ⟨fun h => (fieldB_dot hlt (get_46 h)).symm, fun h => ⟨⟨by omega, by omega⟩, i + 1, rfl, ⟨hlt, fun j hj => ?_⟩, by omega⟩⟩
    by_cases e : j = i
    · subst e; exact fun h2 => h (by rw [h2]; rfl)
    · exact hq j (by omega)
  · simp only [go_sem, Nat.reduceEqDiff, Nat.reduceBEq, Nat.reduceAdd, Nat.reduceMul, Nat.reduceSub, Nat.reduceLeDiff, Nat.reduceLT, reduceIte, reduceCtorEq, Int.reduceToNat, Int.reduceLE, Int.reduceLT, Int.reduceNeg, Bool.not_not, and_self, Bool.and_eq_false_iff, Int.cast_ofNat_Int, Int.reduceAdd, Int.reduceSub, Int.reduceMul, Int.reduceEq, Int.reduceNe, B46_0, R46_0, hlt, show ¬ (i : Int) < (s.size : Int) by omega]
    have hd : dotAt s < 0 := dotAt_no.2 fun j hj => hq j (by omega)
    refine runR_callf (by simp only [go_sem, Nat.reduceEqDiff, Nat.reduceBEq, Nat.reduceAdd, Nat.reduceMul, Nat.reduceSub, Nat.reduceLeDiff, Nat.reduceLT, reduceIte, reduceCtorEq, Int.reduceToNat, Int.reduceLE, Int.reduceLT, Int.reduceNeg, Bool.not_not, and_self, Bool.and_eq_false_iff, Int.cast_ofNat_Int, Int.reduceAdd, Int.reduceSub, Int.reduceMul, Int.reduceEq, Int.reduceNe]) (by simp only [go_sem, Nat.reduceEqDiff, Nat.reduceBEq, Nat.reduceAdd, Nat.reduceMul, Nat.reduceSub, Nat.reduceLeDiff, Nat.reduceLT, reduceIte, reduceCtorEq, Int.reduceToNat, Int.reduceLE, Int.reduceLT, Int.reduceNeg, Bool.not_not, and_self, Bool.and_eq_false_iff, Int.cast_ofNat_Int, Int.reduceAdd, Int.reduceSub, Int.reduceMul, Int.reduceEq, Int.reduceNe]) (fn85 s hs hd) ⟨rfl, trivial⟩ trivial ?_
    simp only [go_sem, Nat.reduceEqDiff, Nat.reduceBEq, Nat.reduceAdd, Nat.reduceMul, Nat.reduceSub, Nat.reduceLeDiff, Nat.reduceLT, reduceIte, reduceCtorEq, Int.reduceToNat, Int.reduceLE, Int.reduceLT, Int.reduceNeg, Bool.not_not, and_self, Bool.and_eq_false_iff, Int.cast_ofNat_Int, Int.reduceAdd, Int.reduceSub, Int.reduceMul, Int.reduceEq, Int.reduceNe]
    rw [fieldB_no hd]
    by_cases h1 : s.size ≤ 16
    · have h2 : s.size ≤ 40 := by omega
      have h3 : (s.size : Int) ≤ 16 := by omega
      simp [h1, h2, h3]
    · have h3 : ¬ (s.size : Int) ≤ 16 := by omega
      simp [h1, h3]
theorem fn89 (x : Ot) (hs : x.sub.size ≤ 1000) : Fn Try.prog 89 [x.pv] (.pv (pB (mayO x))) [] := by
  refine Run89 [] (by simp) ?_
  simp only [go_sem, Nat.reduceEqDiff, Nat.reduceBEq, Nat.reduceAdd, Nat.reduceMul, Nat.reduceSub, Nat.reduceLeDiff, Nat.reduceLT, reduceIte, reduceCtorEq, Int.reduceToNat, Int.reduceLE, Int.reduceLT, Int.reduceNeg, Bool.not_not, and_self, Bool.and_eq_false_iff, Int.cast_ofNat_Int, Int.reduceAdd, Int.reduceSub, Int.reduceMul, Int.reduceEq, Int.reduceNe, M89]
  refine runR_callgf (by simp only [go_sem, Nat.reduceEqDiff, Nat.reduceBEq, Nat.reduceAdd, Nat.reduceMul, Nat.reduceSub, Nat.reduceLeDiff, Nat.reduceLT, reduceIte, reduceCtorEq, Int.reduceToNat, Int.reduceLE, Int.reduceLT, Int.reduceNeg, Bool.not_not, and_self, Bool.and_eq_false_iff, Int.cast_ofNat_Int, Int.reduceAdd, Int.reduceSub, Int.reduceMul, Int.reduceEq, Int.reduceNe]) (by simp only [go_sem, Nat.reduceEqDiff, Nat.reduceBEq, Nat.reduceAdd, Nat.reduceMul, Nat.reduceSub, Nat.reduceLeDiff, Nat.reduceLT, reduceIte, reduceCtorEq, Int.reduceToNat, Int.reduceLE, Int.reduceLT, Int.reduceNeg, Bool.not_not, and_self, Bool.and_eq_false_iff, Int.cast_ofNat_Int, Int.reduceAdd, Int.reduceSub, Int.reduceMul, Int.reduceEq, Int.reduceNe]) (by simp only [go_sem, Nat.reduceEqDiff, Nat.reduceBEq, Nat.reduceAdd, Nat.reduceMul, Nat.reduceSub, Nat.reduceLeDiff, Nat.reduceLT, reduceIte, reduceCtorEq, Int.reduceToNat, Int.reduceLE, Int.reduceLT, Int.reduceNeg, Bool.not_not, and_self, Bool.and_eq_false_iff, Int.cast_ofNat_Int, Int.reduceAdd, Int.reduceSub, Int.reduceMul, Int.reduceEq, Int.reduceNe]) (fun _ => fn46 x.sub hs) rfl ?_
  simp only [go_sem, Nat.reduceEqDiff, Nat.reduceBEq, Nat.reduceAdd, Nat.reduceMul, Nat.reduceSub, Nat.reduceLeDiff, Nat.reduceLT, reduceIte, reduceCtorEq, Int.reduceToNat, Int.reduceLE, Int.reduceLT, Int.reduceNeg, Bool.not_not, and_self, Bool.and_eq_false_iff, Int.cast_ofNat_Int, Int.reduceAdd, Int.reduceSub, Int.reduceMul, Int.reduceEq, Int.reduceNe]
  unfold mayO timeB
  by_cases h1 : 1 ≤ x.id <;> cases h2 : fieldB x.sub <;> by_cases h3 : 1 ≤ x.ids.length <;> by_cases h4 : x.ids.length ≤ 30 <;> by_cases h5 : 0 ≤ x.tries <;> by_cases h6 : x.tries < 5 <;> by_cases h7 : 0 ≤ x.due <;> by_cases h8 : x.due ≤ 1099511627775 <;> simp [h1, h2, h3, h4, h5, h6, h7, h8] <;> omega
theorem fn51 (l : List Ot) (n : Int) (hl : l.length < 100000) : Fn Try.prog 51 [os l, pU n] (.pv (pI (findO l n))) [] := by
  refine Run51 [] (by simp) ?_
  simp only [go_sem, Nat.reduceEqDiff, Nat.reduceBEq, Nat.reduceAdd, Nat.reduceMul, Nat.reduceSub, Nat.reduceLeDiff, Nat.reduceLT, reduceIte, reduceCtorEq, Int.reduceToNat, Int.reduceLE, Int.reduceLT, Int.reduceNeg, Bool.not_not, and_self, Bool.and_eq_false_iff, Int.cast_ofNat_Int, Int.reduceAdd, Int.reduceSub, Int.reduceMul, Int.reduceEq, Int.reduceNe, M51]
  refine run_loop (T := Nat) (fun i => ⟨[(0, .pv (os l)), (1, .pv (pU n)), (5, .pv (pI i))], []⟩) (fun i => i ≤ l.length ∧ ∀ j (h : j < l.length), j < i → decide (l[j].id = n) = false) (fun i => l.length - i) 0 rfl ⟨Nat.zero_le _, fun j _ h => absurd h (by omega)⟩ ?_
  intro i ⟨hi, hq⟩
  by_cases hlt : i < l.length
  · simp only [go_sem, Nat.reduceEqDiff, Nat.reduceBEq, Nat.reduceAdd, Nat.reduceMul, Nat.reduceSub, Nat.reduceLeDiff, Nat.reduceLT, reduceIte, reduceCtorEq, Int.reduceToNat, Int.reduceLE, Int.reduceLT, Int.reduceNeg, Bool.not_not, and_self, Bool.and_eq_false_iff, Int.cast_ofNat_Int, Int.reduceAdd, Int.reduceSub, Int.reduceMul, Int.reduceEq, Int.reduceNe, B51_0, wf_os, getD_map hlt, show (i : Int) < (l.length : Int) by omega]
    refine ⟨fun h => (idxA_yes hlt (by simpa using h) (fun j hj hji => by simpa using hq j hj hji)).symm, fun h => ⟨⟨by omega, by omega⟩, i + 1, rfl, ⟨hlt, fun j hj hji => ?_⟩, by omega⟩⟩
    by_cases e : j = i
    · subst e; simpa using h
    · simpa using hq j hj (by omega)
  · simp only [go_sem, Nat.reduceEqDiff, Nat.reduceBEq, Nat.reduceAdd, Nat.reduceMul, Nat.reduceSub, Nat.reduceLeDiff, Nat.reduceLT, reduceIte, reduceCtorEq, Int.reduceToNat, Int.reduceLE, Int.reduceLT, Int.reduceNeg, Bool.not_not, and_self, Bool.and_eq_false_iff, Int.cast_ofNat_Int, Int.reduceAdd, Int.reduceSub, Int.reduceMul, Int.reduceEq, Int.reduceNe, B51_0, R51_0, show ¬ ((i : Int) < (l.length : Int)) by omega]
    exact (idxA_no fun j hj => hq j hj (by omega)).symm
theorem fn50 (l : List Ot) (hl : l.length < 100000) (hs : ∀ x ∈ l, x.sub.size ≤ 1000) : Fn Try.prog 50 [os l] (.pv (pB (checkO l))) [] := by
  refine Run50 [] (by simp) ?_
  simp only [go_sem, Nat.reduceEqDiff, Nat.reduceBEq, Nat.reduceAdd, Nat.reduceMul, Nat.reduceSub, Nat.reduceLeDiff, Nat.reduceLT, reduceIte, reduceCtorEq, Int.reduceToNat, Int.reduceLE, Int.reduceLT, Int.reduceNeg, Bool.not_not, and_self, Bool.and_eq_false_iff, Int.cast_ofNat_Int, Int.reduceAdd, Int.reduceSub, Int.reduceMul, Int.reduceEq, Int.reduceNe, M50]
  refine run_loop (T := Nat) (fun i => ⟨[(0, .pv (os l)), (3, .pv (pI i))], []⟩) (fun i => i ≤ l.length ∧ ∀ j, j < i → okO l j = true) (fun i => l.length - i) 0 rfl ⟨Nat.zero_le _, fun j h => absurd h (by omega)⟩ ?_
  intro i ⟨hi, hq⟩
  by_cases hlt : i < l.length
  · have no : okO l i = false → checkO l = false := fun h => by
      cases hc : checkO l with
      | false => rfl
      | true => rw [((checkO_iff l).1 hc).2 i hlt] at h; cases h
    have next : okO l i = true → ∀ j, j < i + 1 → okO l j = true := fun h j hj => by
      by_cases hji : j = i
      · subst hji; exact h
      · exact hq j (by omega)
    simp only [go_sem, Nat.reduceEqDiff, Nat.reduceBEq, Nat.reduceAdd, Nat.reduceMul, Nat.reduceSub, Nat.reduceLeDiff, Nat.reduceLT, reduceIte, reduceCtorEq, Int.reduceToNat, Int.reduceLE, Int.reduceLT, Int.reduceNeg, Bool.not_not, and_self, Bool.and_eq_false_iff, Int.cast_ofNat_Int, Int.reduceAdd, Int.reduceSub, Int.reduceMul, Int.reduceEq, Int.reduceNe, B50_0, wf_os, getD_map hlt, show (i : Int) < (l.length : Int) by omega]
    refine runR_callf (by simp only [go_sem, Nat.reduceEqDiff, Nat.reduceBEq, Nat.reduceAdd, Nat.reduceMul, Nat.reduceSub, Nat.reduceLeDiff, Nat.reduceLT, reduceIte, reduceCtorEq, Int.reduceToNat, Int.reduceLE, Int.reduceLT, Int.reduceNeg, Bool.not_not, and_self, Bool.and_eq_false_iff, Int.cast_ofNat_Int, Int.reduceAdd, Int.reduceSub, Int.reduceMul, Int.reduceEq, Int.reduceNe]) (by simp only [go_sem, Nat.reduceEqDiff, Nat.reduceBEq, Nat.reduceAdd, Nat.reduceMul, Nat.reduceSub, Nat.reduceLeDiff, Nat.reduceLT, reduceIte, reduceCtorEq, Int.reduceToNat, Int.reduceLE, Int.reduceLT, Int.reduceNeg, Bool.not_not, and_self, Bool.and_eq_false_iff, Int.cast_ofNat_Int, Int.reduceAdd, Int.reduceSub, Int.reduceMul, Int.reduceEq, Int.reduceNe]) (fn89 l[i] (hs _ (List.getElem_mem hlt))) ⟨rfl, trivial⟩ trivial ?_
    have hok : okO l i = (mayO l[i] && (decide (i = 0) || decide ((l.getD (i - 1) default).id < l[i].id))) := by
      unfold okO; rw [getD_get hlt]
    by_cases h0 : i = 0
    · subst h0
      simp only [go_sem, Nat.reduceEqDiff, Nat.reduceBEq, Nat.reduceAdd, Nat.reduceMul, Nat.reduceSub, Nat.reduceLeDiff, Nat.reduceLT, reduceIte, reduceCtorEq, Int.reduceToNat, Int.reduceLE, Int.reduceLT, Int.reduceNeg, Bool.not_not, and_self, Bool.and_eq_false_iff, Int.cast_ofNat_Int, Int.reduceAdd, Int.reduceSub, Int.reduceMul, Int.reduceEq, Int.reduceNe, wf_os, getD_map hlt]
      simp only [decide_true, Bool.true_or, Bool.and_true] at hok
      refine ⟨fun h => ?_, fun h => ⟨1, rfl, ⟨by omega, next (by rw [hok]; exact h)⟩, by omega⟩⟩
      rw [no (by rw [hok]; exact h)]
    · have hlt1 : i - 1 < l.length := by omega
      have e1 : ((i : Int) - 1).toNat = i - 1 := by omega
      simp only [go_sem, Nat.reduceEqDiff, Nat.reduceBEq, Nat.reduceAdd, Nat.reduceMul, Nat.reduceSub, Nat.reduceLeDiff, Nat.reduceLT, reduceIte, reduceCtorEq, Int.reduceToNat, Int.reduceLE, Int.reduceLT, Int.reduceNeg, Bool.not_not, and_self, Bool.and_eq_false_iff, Int.cast_ofNat_Int, Int.reduceAdd, Int.reduceSub, Int.reduceMul, Int.reduceEq, Int.reduceNe, wf_os, e1, getD_map hlt1, getD_map hlt, show (0 : Int) < (i : Int) by omega]
      rw [getD_get hlt1] at hok
      refine ⟨fun h => ⟨h, by omega, by omega⟩, fun h => ⟨h, by omega, by omega⟩, fun h => ⟨h, by omega⟩, fun h => ?_, fun h => ⟨⟨by omega, by omega⟩, i + 1, rfl, ⟨by omega, next ?_⟩, by omega⟩⟩
      · rw [no]
        rw [hok]
        rcases h with h | h
        · rw [h]; rfl
        · simp [h0]; omega
      · rw [hok, h.1]
        simp [h0]; omega
  · simp only [go_sem, Nat.reduceEqDiff, Nat.reduceBEq, Nat.reduceAdd, Nat.reduceMul, Nat.reduceSub, Nat.reduceLeDiff, Nat.reduceLT, reduceIte, reduceCtorEq, Int.reduceToNat, Int.reduceLE, Int.reduceLT, Int.reduceNeg, Bool.not_not, and_self, Bool.and_eq_false_iff, Int.cast_ofNat_Int, Int.reduceAdd, Int.reduceSub, Int.reduceMul, Int.reduceEq, Int.reduceNe, B50_0, R50_0, show ¬ ((i : Int) < (l.length : Int)) by omega]
    have e : checkO l = true ↔ l.length ≤ 100 := by rw [checkO_iff]; exact ⟨fun h => h.1, fun h => ⟨h, fun j hj => hq j (by omega)⟩⟩
    by_cases h : l.length ≤ 100
    · rw [e.2 h]; simp; omega
    · cases hc : checkO l with
      | false => simp; omega
      | true => exact absurd (e.1 hc) h
end Go.Vc
