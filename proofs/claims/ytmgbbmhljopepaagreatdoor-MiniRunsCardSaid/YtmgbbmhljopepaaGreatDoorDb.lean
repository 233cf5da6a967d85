/- A part of the proofs of the seat YtmgbbmhljopepaaGreatDoor: the contracts of functions, each proved out of its code. -/
import Derived.Test.YtmgbbmhljopepaaGreatDoorVh
import Derived.Test.YtmgbbmhljopepaaGreatDoorProg
import Derived.Test.YtmgbbmhljopepaaGreatDoorDa
namespace Go.Vc
open Go.Proofs
set_option maxRecDepth 100000
def M87 : MC := (.seq (.reg [⟨some 2, none, .q (.mv (.c (.bool false)))⟩] [] [0] []) (.seq (.reg [⟨some 3, none, .q (.mv (.t 0))⟩, ⟨some 4, none, .call (.f 70) [.t 3,
 .c (.bool false)]⟩, ⟨some 2, none, .q (.mv (.t 4))⟩] [] [2] [1004]) .ret))
theorem mc87 : ofCode Tryz.prog [] Tryz.f87.ntmps [(0, ⟨[0], [], [], 0, [], none⟩),
  (1, ⟨[2], [1004], [], 0, [], none⟩)] (Tryz.f87.body.getD .skip) = some M87 := by kernel_rfl
theorem Run87 {args : List PV} {v : AV} {rs : List (Nat × List PV)} (ids : List Bool) (h : args.length ≤ 5) (hv : run Tryz.prog (retK [RV.tmp 2] ids v rs) M87 [] ⟨entry 0 args, []⟩) : Fn Tryz.prog 87 args v rs :=
 Fn_run ids (by kernel_rfl) Tryz.func87 (by decide) rfl mc87 (by kernel_rfl) (by rw [Tryz.ntmps87]; exact h) (by rw [Tryz.ntmps87]; decide) hv
def M34 : MC := (.seq (.reg [⟨some 2, none, .q (.mv (.c (.bool false)))⟩] [] [0] []) (.seq (.reg [⟨some 3, none, .q (.mv (.t 0))⟩, ⟨some 4, none, .call (.f 70) [.t 3,
 .c (.bool true)]⟩, ⟨some 2, none, .q (.mv (.t 4))⟩] [] [2] [1004]) .ret))
theorem mc34 : ofCode Tryz.prog [] Tryz.f34.ntmps [(0, ⟨[0], [], [], 0, [], none⟩),
  (1, ⟨[2], [1004], [], 0, [], none⟩)] (Tryz.f34.body.getD .skip) = some M34 := by kernel_rfl
theorem Run34 {args : List PV} {v : AV} {rs : List (Nat × List PV)} (ids : List Bool) (h : args.length ≤ 5) (hv : run Tryz.prog (retK [RV.tmp 2] ids v rs) M34 [] ⟨entry 0 args, []⟩) : Fn Tryz.prog 34 args v rs :=
 Fn_run ids (by kernel_rfl) Tryz.func34 (by decide) rfl mc34 (by kernel_rfl) (by rw [Tryz.ntmps34]; exact h) (by rw [Tryz.ntmps34]; decide) hv
def B50_0 : MC := (.seq (.seq (.reg [⟨some 11, none, .q (.mv (.t 5))⟩, ⟨some 12, none, .q (.mv (.t 0))⟩, ⟨some 13, none, .q (.len (.t 12) false)⟩, ⟨some 14, none, .q (.bin .lss (.t 11)
 (.t 13))⟩] [] [0, 1, 5, 14] []) (.cond (.t 14) .skip (.exit 0))) (.seq (.block 1 (.seq (.reg [⟨some 17, none, .q (.mv (.t 0))⟩, ⟨some 18, none, .q (.mv (.t 5))⟩, ⟨some 19, none,
 .q (.ia (.t 17) (.t 18) 1)⟩, ⟨some 20, none, .q (.ld (.t 19) 1 false)⟩, ⟨some 21, none, .q (.mv (.t 1))⟩, ⟨some 22, none, .q (.mv (.t 5))⟩, ⟨some 23, none, .q (.ia (.t 21) (.t 22)
 1)⟩, ⟨some 24, none, .q (.ld (.t 23) 1 false)⟩, ⟨some 25, none, .q (.bin .neq (.t 20) (.t 24))⟩] [] [0, 1, 5, 25] []) (.cond (.t 25) (.seq (.reg [⟨some 4, none,
 .q (.mv (.c (.bool false)))⟩] [] [4] []) .ret) .skip))) (.reg [⟨some 15, none, .q (.mv (.t 5))⟩, ⟨some 16, none, .q (.bin .add (.t 15) (.c (.int .i64 1)))⟩, ⟨some 5, none,
 .q (.mv (.t 16))⟩] [] [0, 1, 5] [])))
def R50_0 : MC := (.seq (.reg [⟨some 4, none, .q (.mv (.c (.bool true)))⟩] [] [4] []) .ret)
def M50 : MC := (.seq (.reg [⟨some 4, none, .q (.mv (.c (.bool false)))⟩] [] [0, 1] []) (.seq (.seq (.reg [⟨some 6, none, .q (.mv (.t 0))⟩, ⟨some 7, none, .q (.len (.t 6) false)⟩,
 ⟨some 8, none, .q (.mv (.t 1))⟩, ⟨some 9, none, .q (.len (.t 8) false)⟩, ⟨some 10, none, .q (.bin .neq (.t 7) (.t 9))⟩] [] [0, 1, 10] []) (.cond (.t 10) (.seq (.reg [⟨some 4, none,
 .q (.mv (.c (.bool false)))⟩] [] [4] []) .ret) .skip)) (.seq (.seq (.reg [⟨some 5, none, .q (.mv (.c (.int .i64 0)))⟩] [] [0, 1, 5] []) (.block 0 (.loop B50_0))) R50_0)))
theorem mc50 : ofCode Tryz.prog [] Tryz.f50.ntmps [(0, ⟨[0, 1], [], [], 0, [], none⟩),
  (1, ⟨[0, 1, 10], [], [], 0, [], none⟩),
  (2, ⟨[4], [], [], 0, [], none⟩),
  (3, ⟨[0, 1, 5], [], [], 0, [], none⟩),
  (4, ⟨[0, 1, 5, 14], [], [], 0, [], none⟩),
  (5, ⟨[0, 1, 5], [], [], 0, [], none⟩),
  (6, ⟨[0, 1, 5, 25], [], [(0, 269), (1, 270), (2, 268), (3, 264), (4, 464), (5, 480), (6, 448), (7, 384), (8, 256)], 511, [], none⟩),
  (7, ⟨[4], [], [], 0, [], none⟩),
  (8, ⟨[4], [], [], 0, [], none⟩)] (Tryz.f50.body.getD .skip) = some M50 := by kernel_rfl
theorem Run50 {args : List PV} {v : AV} {rs : List (Nat × List PV)} (ids : List Bool) (h : args.length ≤ 26) (hv : run Tryz.prog (retK [RV.tmp 4] ids v rs) M50 [] ⟨entry 0 args, []⟩) : Fn Tryz.prog 50 args v rs :=
 Fn_run ids (by kernel_rfl) Tryz.func50 (by decide) rfl mc50 (by kernel_rfl) (by rw [Tryz.ntmps50]; exact h) (by rw [Tryz.ntmps50]; decide) hv
def M58 : MC := (.seq (.reg [⟨some 4, none, .q (.mv (.c (.bool false)))⟩] [] [0, 1] []) (.seq (.reg [⟨some 5, none, .q (.mv (.t 0))⟩, ⟨some 6, none, .call (.f 34) [.t 5]⟩, ⟨some 7,
 none, .q (.mv (.t 6))⟩, ⟨some 8, some (7, true), .q (.mv (.t 1))⟩, ⟨some 9, some (7, true), .call (.f 87) [.t 8]⟩, ⟨some 10, none, .q (.pick (.t 7) (.t 9) (.c (.bool false)))⟩,
 ⟨some 11, none, .q (.mv (.t 10))⟩, ⟨some 12, some (11, true), .q (.mv (.t 0))⟩, ⟨some 13, some (11, true), .call (.f 71) [.t 12]⟩, ⟨some 14, some (11, true),
 .q (.mv (.t 1))⟩, ⟨some 15, some (11, true), .call (.f 71) [.t 14]⟩, ⟨some 16, some (11, true), .call (.f 88) [.t 13, .t 15]⟩, ⟨some 17, none, .q (.pick (.t 11) (.t 16)
 (.c (.bool false)))⟩, ⟨some 4, none, .q (.mv (.t 17))⟩] [] [4] [1006, 1009, 1016]) .ret))
theorem mc58 : ofCode Tryz.prog [] Tryz.f58.ntmps [(0, ⟨[0, 1], [], [], 0, [], none⟩),
  (1, ⟨[4], [1006, 1009, 1016], [], 0, [], none⟩)] (Tryz.f58.body.getD .skip) = some M58 := by kernel_rfl
theorem Run58 {args : List PV} {v : AV} {rs : List (Nat × List PV)} (ids : List Bool) (h : args.length ≤ 18) (hv : run Tryz.prog (retK [RV.tmp 4] ids v rs) M58 [] ⟨entry 0 args, []⟩) : Fn Tryz.prog 58 args v rs :=
 Fn_run ids (by kernel_rfl) Tryz.func58 (by decide) rfl mc58 (by kernel_rfl) (by rw [Tryz.ntmps58]; exact h) (by rw [Tryz.ntmps58]; decide) hv
def B70_0 : MC := (.seq (.seq (.reg [⟨some 9, none, .q (.mv (.t 6))⟩, ⟨some 10, none, .q (.mv (.t 5))⟩, ⟨some 11, none, .q (.len (.t 10) false)⟩, ⟨some 12, none, .q (.bin .lss (.t 9)
 (.t 11))⟩] [] [0, 1, 5, 6, 12] [1008]) (.cond (.t 12) .skip (.exit 0))) (.seq (.block 1 (.seq (.reg [⟨some 15, none, .q (.mv (.t 5))⟩, ⟨some 16, none, .q (.mv (.t 6))⟩, ⟨some 17, none,
 .q (.ia (.t 15) (.t 16) 1)⟩, ⟨some 18, none, .q (.ld (.t 17) 1 false)⟩, ⟨some 19, none, .call (.f 101) [.t 18]⟩, ⟨some 20, none, .q (.not (.t 19))⟩, ⟨some 21, none,
 .q (.mv (.t 20))⟩, ⟨some 22, some (21, true), .q (.mv (.t 1))⟩, ⟨some 23, some (21, true), .q (.mv (.t 22))⟩, ⟨some 24, some (23, true), .q (.mv (.t 5))⟩, ⟨some 25, some (23,
 true), .q (.mv (.t 6))⟩, ⟨some 26, some (23, true), .q (.ia (.t 24) (.t 25) 1)⟩, ⟨some 27, some (23, true), .q (.ld (.t 26) 1 false)⟩, ⟨some 28, some (23, true),
 .q (.bin .eql (.t 27) (.c (.string ⟨#[42]⟩)))⟩, ⟨some 29, some (23, true), .q (.mv (.t 28))⟩, ⟨some 30, some (29, false), .q (.mv (.t 5))⟩, ⟨some 31, some (29, false),
 .q (.mv (.t 6))⟩, ⟨some 32, some (29, false), .q (.ia (.t 30) (.t 31) 1)⟩, ⟨some 33, some (29, false), .q (.ld (.t 32) 1 false)⟩, ⟨some 34, some (29, false), .q (.bin .eql (.t 33)
 (.c (.string ⟨#[42, 42]⟩)))⟩, ⟨some 35, some (23, true), .q (.pick (.t 29) (.c (.bool true)) (.t 34))⟩, ⟨some 36, some (21, true), .q (.pick (.t 23) (.t 35) (.c (.bool false)))⟩,
 ⟨some 37, some (21, true), .q (.not (.t 36))⟩, ⟨some 38, none, .q (.pick (.t 21) (.t 37) (.c (.bool false)))⟩] [] [0, 1, 5, 6, 38] [1008, 1019]) (.cond (.t 38) (.seq (.reg [⟨some 4,
 none, .q (.mv (.c (.bool false)))⟩] [] [4] []) .ret) .skip))) (.reg [⟨some 13, none, .q (.mv (.t 6))⟩, ⟨some 14, none, .q (.bin .add (.t 13) (.c (.int .i64 1)))⟩, ⟨some 6, none,
 .q (.mv (.t 14))⟩] [] [0, 1, 5, 6] [1008])))
def R70_0 : MC := (.seq (.reg [⟨some 39, none, .q (.mv (.t 5))⟩, ⟨some 40, none, .q (.len (.t 39) false)⟩, ⟨some 41, none, .q (.bin .leq (.t 40) (.c (.int .i64 8)))⟩, ⟨some 42, none,
 .q (.mv (.t 41))⟩, ⟨some 43, some (42, true), .q (.mv (.t 0))⟩, ⟨some 44, some (42, true), .q (.len (.t 43) true)⟩, ⟨some 45, some (42, true), .q (.bin .leq (.t 44)
 (.c (.int .i64 40)))⟩, ⟨some 46, none, .q (.pick (.t 42) (.t 45) (.c (.bool false)))⟩, ⟨some 4, none, .q (.mv (.t 46))⟩] [] [4] []) .ret)
def M70 : MC := (.seq (.reg [⟨some 4, none, .q (.mv (.c (.bool false)))⟩] [] [0, 1] []) (.seq (.reg [⟨some 7, none, .q (.mv (.t 0))⟩, ⟨some 8, none, .call (.f 71) [.t 7]⟩, ⟨some 5,
 none, .q (.mv (.t 8))⟩] [] [0, 1, 5] [1008]) (.seq (.seq (.reg [⟨some 6, none, .q (.mv (.c (.int .i64 0)))⟩] [] [0, 1, 5, 6] [1008]) (.block 0 (.loop B70_0))) R70_0)))
theorem mc70 : ofCode Tryz.prog [] Tryz.f70.ntmps [(0, ⟨[0, 1], [], [], 0, [], none⟩),
  (1, ⟨[0, 1, 5], [1008], [], 0, [], none⟩),
  (2, ⟨[0, 1, 5, 6], [1008], [], 0, [], none⟩),
  (3, ⟨[0, 1, 5, 6, 12], [1008], [], 0, [], none⟩),
  (4, ⟨[0, 1, 5, 6], [1008], [], 0, [], none⟩),
  (5, ⟨[0, 1, 5, 6, 38], [1008, 1019], [], 0, [], none⟩),
  (6, ⟨[4], [], [], 0, [], none⟩),
  (7, ⟨[4], [], [], 0, [], none⟩)] (Tryz.f70.body.getD .skip) = some M70 := by kernel_rfl
theorem Run70 {args : List PV} {v : AV} {rs : List (Nat × List PV)} (ids : List Bool) (h : args.length ≤ 47) (hv : run Tryz.prog (retK [RV.tmp 4] ids v rs) M70 [] ⟨entry 0 args, []⟩) : Fn Tryz.prog 70 args v rs :=
 Fn_run ids (by kernel_rfl) Tryz.func70 (by decide) rfl mc70 (by kernel_rfl) (by rw [Tryz.ntmps70]; exact h) (by rw [Tryz.ntmps70]; decide) hv
def B71_0 : MC := (.seq (.seq (.reg [⟨some 6, none, .q (.mv (.t 4))⟩, ⟨some 7, none, .q (.mv (.t 0))⟩, ⟨some 8, none, .q (.len (.t 7) true)⟩, ⟨some 9, none, .q (.bin .lss (.t 6)
 (.t 8))⟩] [] [0, 3, 4, 9] [5, 18]) (.cond (.t 9) .skip (.exit 0))) (.seq (.block 1 (.seq (.reg [⟨some 12, none, .q (.mv (.t 0))⟩, ⟨some 13, none, .q (.mv (.t 4))⟩, ⟨some 14, none,
 .q (.idx (.t 12) (.t 13))⟩, ⟨some 15, none, .q (.bin .eql (.t 14) (.c (.int .u8 46)))⟩] [] [0, 3, 4, 15] [5, 18]) (.cond (.t 15) (.reg [⟨some 16, none, .q (.mv (.t 3))⟩, ⟨some 17, none,
 .lits [.c (.string ⟨#[]⟩)] 1⟩, ⟨some 18, none, .app (.t 16) (.t 17) 1 16⟩, ⟨some 3, none, .q (.mv (.t 18))⟩] [] [0, 3, 4] [5, 18]) (.reg [⟨some 19, none, .q (.mv (.t 3))⟩,
 ⟨some 20, none, .q (.mv (.t 3))⟩, ⟨some 21, none, .q (.len (.t 20) false)⟩, ⟨some 22, none, .q (.bin .sub (.t 21) (.c (.int .i64 1)))⟩, ⟨some 23, none, .q (.ia (.t 19) (.t 22) 1)⟩,
 ⟨some 24, none, .q (.ld (.t 23) 1 false)⟩, ⟨some 25, none, .q (.mv (.t 0))⟩, ⟨some 26, none, .q (.mv (.t 4))⟩, ⟨some 27, none, .q (.mv (.t 4))⟩, ⟨some 28, none,
 .q (.bin .add (.t 27) (.c (.int .i64 1)))⟩, ⟨some 29, none, .q (.slc (.t 25) (some (.t 26)) (some (.t 28)) 0 true)⟩, ⟨some 30, none, .q (.bin .add (.t 24) (.t 29))⟩, ⟨some 31, none,
 .q (.ia (.t 19) (.t 22) 1)⟩, ⟨none, none, .st (.t 31) (.t 30) 1⟩] [] [0, 3, 4] [5, 18])))) (.reg [⟨some 10, none, .q (.mv (.t 4))⟩, ⟨some 11, none, .q (.bin .add (.t 10)
 (.c (.int .i64 1)))⟩, ⟨some 4, none, .q (.mv (.t 11))⟩] [] [0, 3, 4] [5, 18])))
def R71_0 : MC := (.seq (.reg [⟨some 32, none, .q (.mv (.t 3))⟩, ⟨some 2, none, .q (.mv (.t 32))⟩] [] [2] [5, 18]) .ret)
def M71 : MC := (.seq (.reg [⟨some 2, none, .q (.mv .nil)⟩] [] [0] []) (.seq (.reg [⟨some 5, none, .own [.c (.string ⟨#[]⟩)] 1⟩, ⟨some 3, none, .q (.mv (.t 5))⟩] [] [0, 3] [5, 18])
 (.seq (.seq (.reg [⟨some 4, none, .q (.mv (.c (.int .i64 0)))⟩] [] [0, 3, 4] [5, 18]) (.block 0 (.loop B71_0))) R71_0)))
theorem mc71 : ofCode Tryz.prog [5] Tryz.f71.ntmps [(0, ⟨[0], [], [], 0, [], none⟩),
  (1, ⟨[0, 3], [5, 18], [], 0, [], none⟩),
  (2, ⟨[0, 3, 4], [5, 18], [], 0, [], none⟩),
  (3, ⟨[0, 3, 4, 9], [5, 18], [], 0, [], none⟩),
  (4, ⟨[0, 3, 4], [5, 18], [], 0, [], none⟩),
  (5, ⟨[0, 3, 4, 15], [5, 18], [], 0, [], none⟩),
  (6, ⟨[0, 3, 4], [5, 18], [], 0, [], none⟩),
  (7, ⟨[0, 3, 4], [5, 18], [(0, 14385), (1, 14398), (2, 14396), (3, 14392), (4, 14384), (5, 14368), (6, 15424), (7, 15488), (8, 16128), (9, 15872), (10, 15360), (11, 14336), (12, 12288), (13, 0)], 8191, [], none⟩),
  (8, ⟨[2], [5, 18], [], 0, [], none⟩)] (Tryz.f71.body.getD .skip) = some M71 := by kernel_rfl
theorem Run71 {args : List PV} {v : AV} {rs : List (Nat × List PV)} (ids : List Bool) (h : args.length ≤ 33) (hv : run Tryz.prog (retK [RV.tmp 2] ids v rs) M71 [] ⟨entry 0 args, []⟩) : Fn Tryz.prog 71 args v rs :=
 Fn_run ids (by kernel_rfl) Tryz.func71 (by decide) rfl mc71 (by kernel_rfl) (by rw [Tryz.ntmps71]; exact h) (by rw [Tryz.ntmps71]; decide) hv
def B88_0 : MC := (.seq (.seq (.reg [⟨some 16, none, .q (.mv (.t 5))⟩, ⟨some 17, none, .q (.mv (.t 1))⟩, ⟨some 18, none, .q (.len (.t 17) false)⟩, ⟨some 19, none, .q (.bin .leq (.t 16)
 (.t 18))⟩] [] [0, 1, 5, 19] []) (.cond (.t 19) .skip (.exit 0))) (.seq (.block 1 (.seq (.reg [⟨some 22, none, .q (.mv (.t 0))⟩, ⟨some 23, none, .q (.slc (.t 22) (some (.c (.int .i64 1)))
 none 1 false)⟩, ⟨some 24, none, .q (.mv (.t 1))⟩, ⟨some 25, none, .q (.mv (.t 5))⟩, ⟨some 26, none, .q (.slc (.t 24) (some (.t 25)) none 1 false)⟩, ⟨some 27, none, .call (.f 88)
 [.t 23, .t 26]⟩] [] [0, 1, 5, 27] [1027]) (.cond (.t 27) (.seq (.reg [⟨some 4, none, .q (.mv (.c (.bool true)))⟩] [] [4] [1051]) .ret) .skip))) (.reg [⟨some 20, none, .q (.mv (.t 5))⟩,
 ⟨some 21, none, .q (.bin .add (.t 20) (.c (.int .i64 1)))⟩, ⟨some 5, none, .q (.mv (.t 21))⟩] [] [0, 1, 5] [])))
def R88_0 : MC := (.seq (.reg [⟨some 4, none, .q (.mv (.c (.bool false)))⟩] [] [4] [1051]) .ret)
def M88 : MC := (.seq (.reg [⟨some 4, none, .q (.mv (.c (.bool false)))⟩] [] [0, 1] []) (.seq (.seq (.reg [⟨some 6, none, .q (.mv (.t 0))⟩, ⟨some 7, none, .q (.len (.t 6) false)⟩,
 ⟨some 8, none, .q (.bin .eql (.t 7) (.c (.int .i64 0)))⟩] [] [0, 1, 8] []) (.cond (.t 8) (.seq (.reg [⟨some 9, none, .q (.mv (.t 1))⟩, ⟨some 10, none, .q (.len (.t 9) false)⟩,
 ⟨some 11, none, .q (.bin .eql (.t 10) (.c (.int .i64 0)))⟩, ⟨some 4, none, .q (.mv (.t 11))⟩] [] [4] [1051]) .ret) .skip)) (.seq (.seq (.reg [⟨some 12, none, .q (.mv (.t 0))⟩,
 ⟨some 13, none, .q (.ia (.t 12) (.c (.int .i64 0)) 1)⟩, ⟨some 14, none, .q (.ld (.t 13) 1 false)⟩, ⟨some 15, none, .q (.bin .eql (.t 14) (.c (.string ⟨#[42, 42]⟩)))⟩] [] [0, 1, 15] [])
 (.cond (.t 15) (.seq (.seq (.reg [⟨some 5, none, .q (.mv (.c (.int .i64 0)))⟩] [] [0, 1, 5] []) (.block 0 (.loop B88_0))) R88_0) .skip)) (.seq (.reg [⟨some 28, none, .q (.mv (.t 1))⟩,
 ⟨some 29, none, .q (.len (.t 28) false)⟩, ⟨some 30, none, .q (.bin .gtr (.t 29) (.c (.int .i64 0)))⟩, ⟨some 31, none, .q (.mv (.t 30))⟩, ⟨some 32, some (31, true),
 .q (.mv (.t 0))⟩, ⟨some 33, some (31, true), .q (.ia (.t 32) (.c (.int .i64 0)) 1)⟩, ⟨some 34, some (31, true), .q (.ld (.t 33) 1 false)⟩, ⟨some 35, some (31, true),
 .q (.bin .eql (.t 34) (.c (.string ⟨#[42]⟩)))⟩, ⟨some 36, some (31, true), .q (.mv (.t 35))⟩, ⟨some 37, some (36, false), .q (.mv (.t 0))⟩, ⟨some 38, some (36, false),
 .q (.ia (.t 37) (.c (.int .i64 0)) 1)⟩, ⟨some 39, some (36, false), .q (.ld (.t 38) 1 false)⟩, ⟨some 40, some (36, false), .q (.mv (.t 1))⟩, ⟨some 41, some (36, false),
 .q (.ia (.t 40) (.c (.int .i64 0)) 1)⟩, ⟨some 42, some (36, false), .q (.ld (.t 41) 1 false)⟩, ⟨some 43, some (36, false), .q (.bin .eql (.t 39) (.t 42))⟩, ⟨some 44, some (31,
 true), .q (.pick (.t 36) (.c (.bool true)) (.t 43))⟩, ⟨some 45, none, .q (.pick (.t 31) (.t 44) (.c (.bool false)))⟩, ⟨some 46, none, .q (.mv (.t 45))⟩, ⟨some 47, some (46, true),
 .q (.mv (.t 0))⟩, ⟨some 48, some (46, true), .q (.slc (.t 47) (some (.c (.int .i64 1))) none 1 false)⟩, ⟨some 49, some (46, true), .q (.mv (.t 1))⟩, ⟨some 50, some (46, true),
 .q (.slc (.t 49) (some (.c (.int .i64 1))) none 1 false)⟩, ⟨some 51, some (46, true), .call (.f 88) [.t 48, .t 50]⟩, ⟨some 52, none, .q (.pick (.t 46) (.t 51) (.c (.bool false)))⟩,
 ⟨some 4, none, .q (.mv (.t 52))⟩] [] [4] [1051]) .ret))))
theorem mc88 : ofCode Tryz.prog [] Tryz.f88.ntmps [(0, ⟨[0, 1], [], [], 0, [], none⟩),
  (1, ⟨[0, 1, 8], [], [], 0, [], none⟩),
  (2, ⟨[4], [1051], [], 0, [], none⟩),
  (3, ⟨[0, 1, 15], [], [], 0, [], none⟩),
  (4, ⟨[0, 1, 5], [], [], 0, [], none⟩),
  (5, ⟨[0, 1, 5, 19], [], [], 0, [], none⟩),
  (6, ⟨[0, 1, 5], [], [], 0, [], none⟩),
  (7, ⟨[0, 1, 5, 27], [1027], [(0, 35), (1, 34), (2, 52), (3, 56), (4, 48), (5, 0)], 63, [], none⟩),
  (8, ⟨[4], [1051], [], 0, [], none⟩),
  (9, ⟨[4], [1051], [], 0, [], none⟩),
  (10, ⟨[4], [1051], [(0, 67108863), (1, 67108862), (2, 67108860), (3, 67108856), (4, 67108848), (5, 67108832), (6, 67108800), (7, 67108736), (8, 67108608), (9, 67079680), (10, 67079168), (11, 67078144), (12, 67104768), (13, 67100672), (14, 67092480), (15, 67076096), (16, 67043328), (17, 66977792), (18, 66846720), (19, 60293120), (20, 59768832), (21, 65011712), (22, 62914560), (23, 0), (24, 50331648), (25, 33554432)], 67108863, [], none⟩)] (Tryz.f88.body.getD .skip) = some M88 := by kernel_rfl
theorem Run88 {args : List PV} {v : AV} {rs : List (Nat × List PV)} (ids : List Bool) (h : args.length ≤ 53) (hv : run Tryz.prog (retK [RV.tmp 4] ids v rs) M88 [] ⟨entry 0 args, []⟩) : Fn Tryz.prog 88 args v rs :=
 Fn_run ids (by kernel_rfl) Tryz.func88 (by decide) rfl mc88 (by kernel_rfl) (by rw [Tryz.ntmps88]; exact h) (by rw [Tryz.ntmps88]; decide) hv
def B101_0 : MC := (.seq (.seq (.reg [⟨some 5, none, .q (.mv (.t 3))⟩, ⟨some 6, none, .q (.mv (.t 0))⟩, ⟨some 7, none, .q (.len (.t 6) true)⟩, ⟨some 8, none, .q (.bin .lss (.t 5)
 (.t 7))⟩] [] [0, 3, 8] []) (.cond (.t 8) .skip (.exit 0))) (.seq (.block 1 (.seq (.reg [⟨some 11, none, .q (.mv (.t 0))⟩, ⟨some 12, none, .q (.mv (.t 3))⟩, ⟨some 13, none,
 .q (.idx (.t 11) (.t 12))⟩, ⟨some 4, none, .q (.mv (.t 13))⟩] [] [0, 3, 4] []) (.seq (.reg [⟨some 14, none, .q (.mv (.t 4))⟩, ⟨some 15, none, .q (.bin .leq (.c (.int .u8 97))
 (.t 14))⟩, ⟨some 16, none, .q (.mv (.t 15))⟩, ⟨some 17, some (16, true), .q (.mv (.t 4))⟩, ⟨some 18, some (16, true), .q (.bin .leq (.t 17) (.c (.int .u8 122)))⟩, ⟨some 19, none,
 .q (.pick (.t 16) (.t 18) (.c (.bool false)))⟩, ⟨some 20, none, .q (.mv (.t 19))⟩, ⟨some 21, some (20, false), .q (.mv (.t 4))⟩, ⟨some 22, some (20, false),
 .q (.bin .leq (.c (.int .u8 48)) (.t 21))⟩, ⟨some 23, some (20, false), .q (.mv (.t 22))⟩, ⟨some 24, some (23, true), .q (.mv (.t 4))⟩, ⟨some 25, some (23, true),
 .q (.bin .leq (.t 24) (.c (.int .u8 57)))⟩, ⟨some 26, some (20, false), .q (.pick (.t 23) (.t 25) (.c (.bool false)))⟩, ⟨some 27, none, .q (.pick (.t 20) (.c (.bool true)) (.t 26))⟩,
 ⟨some 28, none, .q (.mv (.t 27))⟩, ⟨some 29, some (28, false), .q (.mv (.t 4))⟩, ⟨some 30, some (28, false), .q (.bin .eql (.t 29) (.c (.int .u8 95)))⟩, ⟨some 31, none,
 .q (.pick (.t 28) (.c (.bool true)) (.t 30))⟩, ⟨some 32, none, .q (.not (.t 31))⟩] [] [0, 3, 32] []) (.cond (.t 32) (.seq (.reg [⟨some 2, none, .q (.mv (.c (.bool false)))⟩] [] [2] [])
 .ret) .skip)))) (.reg [⟨some 9, none, .q (.mv (.t 3))⟩, ⟨some 10, none, .q (.bin .add (.t 9) (.c (.int .i64 1)))⟩, ⟨some 3, none, .q (.mv (.t 10))⟩] [] [0, 3] [])))
def R101_0 : MC := (.seq (.reg [⟨some 33, none, .q (.mv (.t 0))⟩, ⟨some 34, none, .q (.bin .neq (.t 33) (.c (.string ⟨#[]⟩)))⟩, ⟨some 2, none, .q (.mv (.t 34))⟩] [] [2] []) .ret)
def M101 : MC := (.seq (.reg [⟨some 2, none, .q (.mv (.c (.bool false)))⟩] [] [0] []) (.seq (.seq (.reg [⟨some 3, none, .q (.mv (.c (.int .i64 0)))⟩] [] [0, 3] []) (.block 0 (.loop B101_0)))
 R101_0))
theorem mc101 : ofCode Tryz.prog [] Tryz.f101.ntmps [(0, ⟨[0], [], [], 0, [], none⟩),
  (1, ⟨[0, 3], [], [], 0, [], none⟩),
  (2, ⟨[0, 3, 8], [], [], 0, [], none⟩),
  (3, ⟨[0, 3], [], [], 0, [], none⟩),
  (4, ⟨[0, 3, 4], [], [], 0, [], none⟩),
  (5, ⟨[0, 3, 32], [], [], 0, [], none⟩),
  (6, ⟨[2], [], [], 0, [], none⟩),
  (7, ⟨[2], [], [], 0, [], none⟩)] (Tryz.f101.body.getD .skip) = some M101 := by kernel_rfl
theorem Run101 {args : List PV} {v : AV} {rs : List (Nat × List PV)} (ids : List Bool) (h : args.length ≤ 35) (hv : run Tryz.prog (retK [RV.tmp 2] ids v rs) M101 [] ⟨entry 0 args, []⟩) : Fn Tryz.prog 101 args v rs :=
 Fn_run ids (by kernel_rfl) Tryz.func101 (by decide) rfl mc101 (by kernel_rfl) (by rw [Tryz.ntmps101]; exact h) (by rw [Tryz.ntmps101]; decide) hv
end Go.Vc

namespace Go.Vc
open Go.Proofs
set_option linter.unusedSimpArgs false
set_option linter.unusedVariables false
theorem fn63 (s : ByteArray) (hs : s.size ≤ 1000) : Fn Tryz.prog 63 [pS s, pS sDot] (.pv (ss (cutS s))) [] := by
 refine Run63 [] (by simp) ?_
 simp only [go_sem, Nat.reduceEqDiff, reduceCtorEq, Int.reduceNeg, and_self, M63]
 refine runR_call (by simp only [go_sem, Nat.reduceEqDiff, reduceCtorEq, Int.reduceNeg, and_self]) rfl (fn91 s hs) (.inl rfl) trivial ?_
 simp only [go_sem, Nat.reduceEqDiff, reduceCtorEq, and_self]
theorem fn103 (r : Int) : Fn Tryz.prog 103 [.sc (.int .i32 r)] (.pv (pB (okR r))) [] := by
 refine Run103 [] (by simp) ?_
 simp only [go_sem, Nat.reduceEqDiff, reduceCtorEq, and_self, Bool.and_eq_false_iff, M103]
 unfold okR
 by_cases h1 : 97 ≤ r <;> by_cases h2 : r ≤ 122 <;> by_cases h3 : 48 ≤ r <;> by_cases h4 : r ≤ 57 <;> by_cases h5 : r = 95 <;> simp [h1, h2, h3, h4, h5]
theorem decode_small {s : ByteArray} {i : Nat} (h : (s.get! i).toNat < 128) : Utf8.decode s i = ((s.get! i).toNat, 1) := by
 simp [Utf8.decode, h]
theorem decode_big {s : ByteArray} {i : Nat} (h : 128 ≤ (s.get! i).toNat) : 128 ≤ (Utf8.decode s i).1 := by
 unfold Utf8.decode
 simp only [Nat.add_zero]
 rw [if_neg (by omega)]
 repeat' split
 all_goals simp only [Utf8.runeError, Bool.and_eq_true, decide_eq_true_eq, ge_iff_le] at * <;> omega
theorem get_list {s : ByteArray} {i : Nat} (h : i < s.size) : s.get! i = s.data.toList[i]'(by simpa using h) := by
 obtain ⟨a⟩ := s
 have h' : i < a.size := h
 simp [ByteArray.get!, h']
theorem fn74 (s : ByteArray) : Fn Tryz.prog 74 [pS s] (.pv (pB (partB s))) [] := by
 refine Run74 [] (by simp) ?_
 simp only [go_sem, Nat.reduceEqDiff, reduceCtorEq, and_self, M74]
 refine run_loop (T := Nat × List (Nat × AV)) (fun t => ⟨[(0, .pv (pS s)), (3, .fn 103 []), (7, .it 7)] ++ t.2, [(7, .sit s t.1)]⟩) (fun t => t.1 ≤ s.size ∧ ∀ j (h : j < s.data.toList.length), j < t.1 → okR s.data.toList[j].toNat = true) (fun t => s.size - t.1) ⟨0, []⟩ rfl ⟨Nat.zero_le _, fun j _ h => absurd h (by omega)⟩ ?_
 rintro ⟨i, ex⟩ ⟨hi, hq⟩
 simp only at hi hq
 have hsz : s.data.toList.length = s.size := by simp
 by_cases hlt : i < s.size
 ·have hg := get_list hlt
  have hmem : s.data.toList[i]'(by omega) ∈ s.data.toList := List.getElem_mem _
  have no : okR (s.get! i).toNat = false → partB s = false := fun h => by
   unfold partB
   rw [Bool.and_eq_false_iff, List.all_eq_false]
   right
   exact ⟨_, hmem, by rw [← hg, h]; simp⟩
  by_cases hb : (s.get! i).toNat < 128
  ·simp only [go_sem, Nat.reduceEqDiff, Nat.reduceAdd, Nat.reduceLT, reduceCtorEq, and_self, B74_0, hlt, decode_small hb]
   refine runR_callf (by simp only [go_sem, Nat.reduceEqDiff, reduceCtorEq, and_self]) (by simp only [go_sem, Nat.reduceEqDiff, reduceCtorEq] <;> rfl) (fn103 (((s.get! i).toNat : Nat) : Int)) ⟨rfl, trivial⟩ trivial ?_
   simp only [go_sem, Nat.reduceEqDiff, reduceCtorEq, and_self]
   refine ⟨fun h => ?_, fun h => ⟨⟨i + 1, [(14, .pv (pB false))]⟩, by rw [h]; rfl, ⟨hlt, fun j hj hji => ?_⟩, by simp only; omega⟩⟩
   ·rw [no h]
   ·by_cases hji2 : j = i
    ·subst hji2; rw [← hg]; exact h
    ·exact hq j hj (by simp only at hji; omega)
  ·have hbig := decode_big (s := s) (i := i) (by omega)
   have h1 : okR (s.get! i).toNat = false := by simp [okR]; omega
   have h2 : okR (((Utf8.decode s i).1 : Nat) : Int) = false := by simp [okR]; omega
   simp only [go_sem, Nat.reduceEqDiff, Nat.reduceAdd, Nat.reduceLT, reduceCtorEq, and_self, B74_0, hlt]
   refine runR_callf (by simp only [go_sem, Nat.reduceEqDiff, reduceCtorEq, and_self]) (by simp only [go_sem, Nat.reduceEqDiff, reduceCtorEq] <;> rfl) (fn103 (((Utf8.decode s i).1 : Nat) : Int)) ⟨rfl, trivial⟩ trivial ?_
   simp only [go_sem, Nat.reduceEqDiff, reduceCtorEq, and_self, h2]
   rw [no h1]
 ·simp only [go_sem, Nat.reduceEqDiff, Nat.reduceAdd, Nat.reduceLT, reduceCtorEq, and_self, B74_0, R74_0, hlt]
  have : s.data.toList.all (fun b => okR b.toNat) = true := List.all_eq_true.2 fun b hb => by
   obtain ⟨j, hj, rfl⟩ := List.mem_iff_getElem.1 hb
   exact hq j hj (by omega)
  unfold partB
  rw [this]
  simp
theorem fn73 (s : ByteArray) : Fn Tryz.prog 73 [pS s] (.pv (pB (globP s))) [] := by
 refine Run73 [] (by simp) ?_
 simp only [go_sem, Nat.reduceEqDiff, reduceCtorEq, and_self, M73]
 refine runR_callgf (by simp only [go_sem, Nat.reduceEqDiff, reduceCtorEq]) (by simp only [go_sem, Nat.reduceEqDiff, reduceCtorEq]) (by simp only [go_sem, Nat.reduceEqDiff, reduceCtorEq] <;> rfl) (fun _ => fn74 s) rfl ?_
 simp only [go_sem, Nat.reduceEqDiff, reduceCtorEq, and_self]
 unfold globP
 by_cases h1 : s = sAny <;> by_cases h2 : s = sAll <;> simp [h1, h2]
theorem fn72 (g : Nat) (may : ByteArray → Bool) (hg : ∀ u, Fn Tryz.prog g [pS u] (.pv (pB (may u))) []) (s : ByteArray) : Fn Tryz.prog 72 [pS s, .fn g []] (.pv (pB (nameB may s))) [] := by
 have e : nameB may s = (decide (s.size ≤ 40) && allN may 8 s) := by unfold nameB; rw [allN_cut]
 rw [e]
 refine Run72 [] (by simp) ?_
 simp only [go_sem, Nat.reduceEqDiff, reduceCtorEq, and_self, M72]
 refine ⟨fun h => ?_, fun h => ?_⟩
 ·simp [show ¬ s.size ≤ 40 by omega]
 ·have h40 : s.size ≤ 40 := by omega
  simp only [h40, decide_true, Bool.true_and]
  obtain ⟨R, hR⟩ : ∃ R, allN may 8 s = R := ⟨_, rfl⟩
  rw [hR]
  refine run_loop (T := Nat × ByteArray × List (Nat × AV)) (fun t => ⟨[(0, .pv (pS t.2.1)), (1, .pv (.fn g [])), (11, .pv (pI t.1))] ++ t.2.2, []⟩) (fun t => t.1 ≤ 8 ∧ t.2.1.size ≤ 40 ∧ allN may (8 - t.1) t.2.1 = R) (fun t => 8 - t.1) ⟨0, s, []⟩ rfl ⟨Nat.zero_le _, h40, hR⟩ ?_
  rintro ⟨i, u, ex⟩ ⟨hi, hu, hq⟩
  simp only at hi hu hq
  by_cases hlt : i < 8
  ·obtain ⟨n, hn⟩ : ∃ n, 8 - i = n + 1 := ⟨7 - i, by omega⟩
   have hn2 : 8 - (i + 1) = n := by omega
   rw [hn] at hq
   simp only [allN] at hq
   have hca := cutA_size u
   simp only [go_sem, Nat.reduceEqDiff, reduceCtorEq, and_self, B72_0, show (i : Int) < 8 by omega]
   refine runR_callf (by simp only [go_sem, Nat.reduceEqDiff, reduceCtorEq, and_self]) (by simp only [go_sem, Nat.reduceEqDiff, reduceCtorEq] <;> rfl) (fn102 u (by omega)) ⟨rfl, trivial⟩ trivial ?_
   simp only [go_sem, Nat.reduceEqDiff, Nat.reduceAdd, Nat.reduceLT, reduceCtorEq, and_self]
   refine runR_callf (by simp only [go_sem, Nat.reduceEqDiff, and_self]) (by simp only [go_sem, Nat.reduceEqDiff] <;> rfl) (hg (cutB u)) ⟨rfl, trivial⟩ trivial ?_
   simp only [go_sem, Nat.reduceEqDiff, reduceCtorEq, Int.reduceNeg, and_self]
   refine ⟨fun h => ?_, fun h => ⟨fun hd => ?_, fun hd => ⟨⟨by omega, by omega⟩, ⟨i + 1, cutA u, []⟩, rfl, ⟨by simp only; omega, by simp only; omega, ?_⟩, by simp only; omega⟩⟩⟩
   ·rw [← hq, h]; rfl
   ·rw [← hq, h]; simp [hd]
   ·simp only [hn2]
    rw [← hq, h]; simp [hd]
  ·simp only [go_sem, Nat.reduceEqDiff, reduceCtorEq, and_self, B72_0, R72_0, show ¬ (i : Int) < 8 by omega]
   rw [show 8 - i = 0 by omega] at hq
   simpa [allN] using hq
theorem fn56 (s : ByteArray) : Fn Tryz.prog 56 [pS s] (.pv (pB (topicB s))) [] := by
 refine Run56 [] (by simp) ?_
 simp only [go_sem, reduceCtorEq, and_self, M56]
 refine runR_callf (by simp only [go_sem, reduceCtorEq, and_self]) (by simp only [go_sem, reduceCtorEq] <;> rfl) (fn72 74 partB fn74 s) ⟨rfl, trivial⟩ trivial ?_
 simp only [go_sem, Nat.reduceEqDiff, reduceCtorEq, and_self]
 rfl
theorem fn39 (s : ByteArray) : Fn Tryz.prog 39 [pS s] (.pv (pB (globB s))) [] := by
 refine Run39 [] (by simp) ?_
 simp only [go_sem, reduceCtorEq, and_self, M39]
 refine runR_callf (by simp only [go_sem, reduceCtorEq, and_self]) (by simp only [go_sem, reduceCtorEq] <;> rfl) (fn72 73 globP fn73 s) ⟨rfl, trivial⟩ trivial ?_
 simp only [go_sem, Nat.reduceEqDiff, reduceCtorEq, and_self]
 rfl
theorem fn41 (s : ByteArray) (hs : s.size ≤ 1000) : Fn Tryz.prog 41 [pS s] (.pv (ss (partsB s))) [] := by
 refine Run41 [] (by simp) ?_
 simp only [go_sem, reduceCtorEq, and_self, M41]
 refine runR_callf (by simp only [go_sem, reduceCtorEq, and_self]) (by simp only [go_sem, reduceCtorEq] <;> rfl) (fn39 s) ⟨rfl, trivial⟩ trivial ?_
 simp only [go_sem, Nat.reduceEqDiff, reduceCtorEq, and_self]
 unfold partsB
 refine ⟨fun h => by rw [if_neg (by rw [h]; simp)]; rfl, fun h => ?_⟩
 rw [if_pos h]
 refine runR_call (by simp only [go_sem, Nat.reduceEqDiff, reduceCtorEq, and_self]) rfl (fn63 s hs) (.inl rfl) trivial ?_
 simp only [go_sem, Nat.reduceEqDiff, reduceCtorEq, and_self]
theorem fn101 (s : ByteArray) (hs : s.size ≤ 1000) : Fn Tryz.prog 101 [pS s] (.pv (pB (partB s))) [] := by
 refine Run101 [] (by simp) ?_
 simp only [go_sem, reduceCtorEq, and_self, M101]
 have hsz : s.data.toList.length = s.size := by simp
 refine run_loop (T := Nat) (fun i => ⟨[(0, .pv (pS s)), (3, .pv (pI i))], []⟩) (fun i => i ≤ s.size ∧ ∀ j (h : j < s.data.toList.length), j < i → okR s.data.toList[j].toNat = true) (fun i => s.size - i) 0 rfl ⟨Nat.zero_le _, fun j _ h => absurd h (by omega)⟩ ?_
 intro i ⟨hi, hq⟩
 by_cases hlt : i < s.size
 ·have hmem : s.data.toList[i]'(by omega) ∈ s.data.toList := List.getElem_mem _
  have hgd : s.data.getD i 0 = s.data.toList[i]'(by omega) := by
   have h' : i < s.data.size := hlt
   simp only [Array.getD, h', dif_pos, Array.getElem_toList]; rfl
  have no : okR (s.data.toList[i]'(by omega)).toNat = false → partB s = false := fun h => by
   unfold partB
   rw [Bool.and_eq_false_iff, List.all_eq_false]
   right
   exact ⟨_, hmem, by rw [h]; simp⟩
  simp only [go_sem, Nat.reduceEqDiff, reduceCtorEq, Int.reduceNeg, and_self, Bool.and_eq_false_iff, B101_0, show (i : Int) < (s.size : Int) by omega, hgd]
  generalize hgc : s.data.toList[i]'(by omega) = c at no
  refine ⟨fun h => ⟨h, ?_⟩, fun h => ?_, fun h => ⟨⟨by omega, by omega⟩, i + 1, rfl, ⟨by omega, fun j hj hji => ?_⟩, by omega⟩⟩
  ·have h0 : (decide ((97 : Int) ≤ (c.toNat : Int)) && decide ((c.toNat : Int) ≤ 122)) = false := by
    rw [Bool.and_eq_false_iff, decide_eq_false_iff_not, decide_eq_false_iff_not]; exact h
   rw [h0]
   cases decide ((48 : Int) ≤ (c.toNat : Int)) <;> rfl
  ·rw [no]
   unfold okR
   rw [Bool.or_eq_false_iff, Bool.or_eq_false_iff, decide_eq_false_iff_not, decide_eq_false_iff_not, decide_eq_false_iff_not]
   omega
  ·by_cases hji2 : j = i
   ·subst hji2
    rw [hgc]
    unfold okR
    rw [Bool.or_eq_true, Bool.or_eq_true, decide_eq_true_eq, decide_eq_true_eq, decide_eq_true_eq]
    exact h
   ·exact hq j hj (by omega)
 ·simp only [go_sem, Nat.reduceEqDiff, reduceCtorEq, Int.reduceNeg, and_self, Bool.and_eq_false_iff, B101_0, R101_0, show ¬ (i : Int) < (s.size : Int) by omega]
  have : s.data.toList.all (fun b => okR b.toNat) = true := List.all_eq_true.2 fun b hb => by
   obtain ⟨j, hj, rfl⟩ := List.mem_iff_getElem.1 hb
   exact hq j hj (by omega)
  unfold partB
  rw [this]
  simp
def cutI (s : ByteArray) (i : Nat) : List ByteArray := (cutL (s.data.toList.take i)).map mkB
theorem cutI_ne (s : ByteArray) (i : Nat) : 0 < (cutI s i).length := by
 unfold cutI; rw [List.length_map]; exact List.length_pos_iff.2 (cutL_ne _)
theorem cutL_le : ∀ l : List UInt8, (cutL l).length ≤ l.length + 1
 | [] => by simp [cutL]
 | c :: l => by
  have ih := cutL_le l
  simp only [cutL]
  split
  ·simp only [List.length_cons]; omega
  ·cases h : cutL l with
   | nil => simp [consH]
   | cons p ps => rw [h] at ih; simp only [consH, List.length_cons] at ih ⊢; omega
theorem cutI_le (s : ByteArray) (i : Nat) (h : i ≤ s.size) : (cutI s i).length ≤ i + 1 := by
 unfold cutI; rw [List.length_map]
 have := cutL_le (s.data.toList.take i)
 rw [List.length_take] at this
 omega
theorem cutI_end (s : ByteArray) : cutI s s.size = cutS s := by
 unfold cutI cutS
 rw [List.take_of_length_le (by simp)]
theorem cutI_dot {s : ByteArray} {i : Nat} (h : i < s.data.toList.length) (h2 : s.data.toList[i] = 46) : cutI s (i + 1) = cutI s i ++ [⟨#[]⟩] := by
 unfold cutI
 rw [take_snoc h, cutL_snoc, h2, if_pos rfl, List.map_append]; rfl
theorem ext_one {s : ByteArray} {i : Nat} (h : i < s.data.toList.length) : (s.extract i (i + 1)).data.toList = [s.data.toList[i]] := by
 rw [extract_list, show i + 1 - i = 1 by omega, List.drop_eq_getElem_cons h]; rfl
theorem last_get (s : ByteArray) (i : Nat) (h : (cutI s i).length - 1 < (cutI s i).length) : (cutI s i)[(cutI s i).length - 1] = mkB ((cutL (s.data.toList.take i)).getLastD []) := by
 unfold cutI at *
 have h0 : 0 < (cutL (s.data.toList.take i)).length := List.length_pos_iff.2 (cutL_ne _)
 simp only [List.length_map, List.getElem_map]
 congr 1
 rw [List.getLastD_eq_getLast?, List.getLast?_eq_getElem?, List.getElem?_eq_getElem (by omega)]
 rfl
theorem cutI_more {s : ByteArray} {i : Nat} (h : i < s.data.toList.length) (h2 : s.data.toList[i] ≠ 46) (h3 : (cutI s i).length - 1 < (cutI s i).length) :
  cutI s (i + 1) = (cutI s i).set ((cutI s i).length - 1) ((cutI s i)[(cutI s i).length - 1] ++ s.extract i (i + 1)) := by
 rw [last_get s i h3]
 have e : mkB ((cutL (s.data.toList.take i)).getLastD []) ++ s.extract i (i + 1) = mkB ((cutL (s.data.toList.take i)).getLastD [] ++ [s.data.toList[i]]) := ext_list (by
  rw [ByteArray.data_append, Array.toList_append, ext_one h])
 rw [e]
 unfold cutI
 rw [take_snoc h, cutL_snoc, if_neg h2, snocL_last _ _ (cutL_ne _), List.map_set, List.length_map]
theorem cutL_sizes : ∀ (l : List UInt8), ∀ p ∈ cutL l, p.length ≤ l.length
 | [], p, hp => by simp only [cutL, List.mem_singleton] at hp; subst hp; simp
 | c :: l, p, hp => by
  have ih := cutL_sizes l
  simp only [cutL] at hp
  split at hp
  ·rcases List.mem_cons.1 hp with rfl | hp
   ·simp
   ·have := ih p hp; simp only [List.length_cons]; omega
  ·cases h : cutL l with
   | nil => exact absurd h (cutL_ne l)
   | cons q ps =>
    rw [h] at hp ih
    simp only [consH] at hp
    rcases List.mem_cons.1 hp with rfl | hp
    ·have := ih q (by simp); simp only [List.length_cons]; omega
    ·have := ih p (List.mem_cons_of_mem _ hp); simp only [List.length_cons]; omega
theorem cutI_sizes {s : ByteArray} {i : Nat} : ∀ p ∈ cutI s i, p.size ≤ i := fun p hp => by
 unfold cutI at hp
 obtain ⟨q, hq, rfl⟩ := List.mem_map.1 hp
 have := cutL_sizes _ q hq
 rw [List.length_take] at this
 have e : (mkB q).size = q.length := rfl
 omega
theorem fn71 (s : ByteArray) (hs : s.size ≤ 1000) : Fn Tryz.prog 71 [pS s] (.pv (ss (cutS s))) [] := by
 refine Run71 [false] (by simp) ?_
 simp only [go_sem, Nat.reduceEqDiff, Nat.reduceLeDiff, reduceCtorEq, and_self, M71]
 refine ⟨⟨fun v hv c hc => ?_, ⟨_, rfl⟩⟩, ?_⟩
 ·subst hv
  simp only [List.map_cons, List.map_nil, List.mem_singleton] at hc
  subst hc; rfl
 have hsz : s.data.toList.length = s.size := by simp
 refine run_loop (T := Nat) (fun i => ⟨[(0, .pv (pS s)), (3, .row 5 0 (cutI s i).length), (4, .pv (pI i))], [(5, .sl 1 ((cutI s i).map pS))]⟩) (fun i => i ≤ s.size) (fun i => s.size - i) 0 rfl (Nat.zero_le _) ?_
 intro i hi
 have hpos := cutI_ne s i
 have hle := cutI_le s i hi
 by_cases hlt : i < s.size
 ·have hgd : s.data.getD i 0 = s.data.toList[i]'(by omega) := by
   have h' : i < s.data.size := hlt
   simp only [Array.getD, h', dif_pos, Array.getElem_toList]; rfl
  have hlt1 : (cutI s i).length - 1 < (cutI s i).length := by omega
  have e1 : (((cutI s i).length : Int) - 1).toNat = (cutI s i).length - 1 := by omega
  have e2 : ((i : Int) + 1).toNat = i + 1 := by omega
  have hil : i < s.data.toList.length := by omega
  have hmore := fun h2 : s.data.toList[i] ≠ 46 => cutI_more (s := s) (i := i) hil h2 hlt1
  have hdot := fun h2 : s.data.toList[i] = 46 => cutI_dot (s := s) (i := i) hil h2
  have hpz : ((cutI s i)[(cutI s i).length - 1]).size ≤ i := cutI_sizes _ (List.getElem_mem _)
  have hez : (s.extract i (i + 1)).size ≤ 1 := by rw [ByteArray.size_extract]; omega
  have tk := take_len_map pS (cutI s i)
  simp only [go_sem, Nat.reduceEqDiff, Nat.reduceLeDiff, Nat.reduceLT, reduceCtorEq, Int.reduceNeg, and_self, B71_0, show (i : Int) < (s.size : Int) by omega, hgd, e1, e2, getD_map hlt1]
  have u8 : ∀ c : UInt8, (c.toNat : Int) = 46 ↔ c = 46 := fun c => by
   constructor
   ·intro h
    have h' : c.toNat = 46 := by omega
    exact UInt8.toNat_inj.1 h'
   ·rintro rfl; rfl
  simp only [u8]
  refine ⟨fun h => ⟨⟨wf_ss [⟨#[]⟩], by omega, by omega⟩, ⟨by omega, by omega⟩, i + 1, ?_, by omega, by omega⟩,
   fun h => ⟨⟨by omega, by omega⟩, ⟨by omega, by omega⟩, hlt1, ⟨by omega, by omega⟩, ⟨by omega, by omega⟩, by omega, ⟨by omega, by omega⟩, hlt1, ⟨by omega, by omega⟩, i + 1, ?_, by omega, by omega⟩⟩
  ·rw [hdot h, tk, List.map_append, List.length_append]; rfl
  ·rw [hmore h, List.length_set, List.map_set]; rfl
 ·have : i = s.size := by omega
  subst this
  simp only [go_sem, Nat.reduceEqDiff, Nat.reduceLeDiff, Nat.reduceLT, reduceCtorEq, Int.reduceNeg, and_self, B71_0, R71_0, show ¬ (s.size : Int) < (s.size : Int) by omega, take_len_map, cutI_end]
theorem fn70 (s : ByteArray) (w : Bool) (hs : s.size ≤ 1000) : Fn Tryz.prog 70 [pS s, pB w] (.pv (pB (if w then globB s else topicB s))) [] := by
 refine Run70 [] (by simp) ?_
 have e : (if w then globB s else topicB s) = nameB (fun p => partB p || (w && (decide (p = sAny) || decide (p = sAll)))) s := by
  unfold globB topicB
  cases w
  ·simp
  ·have : globP = fun p => partB p || (true && (decide (p = sAny) || decide (p = sAll))) := by
    funext p
    unfold globP
    cases partB p <;> simp
   rw [this]; rfl
 rw [e]
 simp only [go_sem, Nat.reduceEqDiff, reduceCtorEq, and_self, M70]
 refine runR_call (by simp only [go_sem, Nat.reduceEqDiff, reduceCtorEq, and_self]) rfl (fn71 s hs) (.inl rfl) trivial ?_
 simp only [go_sem, Nat.reduceEqDiff, reduceCtorEq, and_self]
 obtain ⟨q, hq⟩ : ∃ q : ByteArray → Bool, q = fun p => partB p || (w && (decide (p = sAny) || decide (p = sAll))) := ⟨_, rfl⟩
 rw [← hq]
 have hcnt := cutS_count s
 have hdl := dots_le s
 have hsz : ∀ p ∈ cutS s, p.size ≤ s.size := fun p hp => by rw [← cutI_end] at hp; exact cutI_sizes p hp
 refine run_loop (T := Nat) (fun i => ⟨[(0, .pv (pS s)), (1, .pv (pB w)), (5, .pv (ss (cutS s))), (6, .pv (pI i))], []⟩) (fun i => i ≤ (cutS s).length ∧ ∀ j (h : j < (cutS s).length), j < i → q (cutS s)[j] = true) (fun i => (cutS s).length - i) 0 rfl ⟨Nat.zero_le _, fun j _ h => absurd h (by omega)⟩ ?_
 intro i ⟨hi, hqi⟩
 by_cases hlt : i < (cutS s).length
 ·have no : q (cutS s)[i] = false → nameB q s = false := fun h => by
   unfold nameB
   have : (cutS s).all q = false := List.all_eq_false.2 ⟨_, List.getElem_mem hlt, by rw [h]; simp⟩
   rw [this]; simp
  have hpz := hsz _ (List.getElem_mem hlt)
  simp only [go_sem, Nat.reduceEqDiff, reduceCtorEq, and_self, B70_0, wf_ss, show (i : Int) < ((cutS s).length : Int) by omega, getD_map hlt]
  refine runR_callf (by simp only [go_sem, Nat.reduceEqDiff, reduceCtorEq, and_self]) (by simp only [go_sem, Nat.reduceEqDiff, reduceCtorEq] <;> rfl) (fn101 (cutS s)[i] (by omega)) ⟨rfl, trivial⟩ trivial ?_
  simp only [go_sem, Nat.reduceEqDiff, reduceCtorEq, Int.reduceNeg, and_self, Bool.and_eq_false_iff, wf_ss, getD_map hlt, show (i : Int) < ((cutS s).length : Int) by omega]
  refine ⟨fun h => ⟨h, ?_⟩, fun h => ⟨h, by rw [h]; cases w <;> rfl⟩, fun h => ?_, fun h => ⟨⟨by omega, by omega⟩, i + 1, rfl, ⟨by omega, fun j hj hji => ?_⟩, by omega⟩⟩
  ·by_cases h5 : (cutS s)[i] = sAny
   ·exact .inl h5
   ·exact .inr ⟨h, h5⟩
  ·rw [no]
   rw [hq]
   simp only [Bool.or_eq_false_iff, Bool.and_eq_false_iff, decide_eq_false_iff_not]
   exact h
  ·by_cases hji2 : j = i
   ·subst hji2
    rw [hq]
    simp only [Bool.or_eq_true, Bool.and_eq_true, decide_eq_true_eq]
    exact h
   ·exact hqi j hj (by omega)
 ·have hall : (cutS s).all q = true := List.all_eq_true.2 fun b hb => by
   obtain ⟨j, hj, rfl⟩ := List.mem_iff_getElem.1 hb
   exact hqi j hj (by omega)
  simp only [go_sem, Nat.reduceEqDiff, reduceCtorEq, and_self, B70_0, R70_0, show ¬ (i : Int) < ((cutS s).length : Int) by omega]
  unfold nameB
  rw [hall]
  have a1 : decide (((cutS s).length : Int) ≤ 8) = decide ((cutS s).length ≤ 8) := decide_eq_decide.2 (by omega)
  have a2 : decide ((s.size : Int) ≤ 40) = decide (s.size ≤ 40) := decide_eq_decide.2 (by omega)
  rw [a1, a2, Bool.and_true, Bool.and_comm]
theorem fn87 (s : ByteArray) (hs : s.size ≤ 1000) : Fn Tryz.prog 87 [pS s] (.pv (pB (topicB s))) [] := by
 refine Run87 [] (by simp) ?_
 simp only [go_sem, reduceCtorEq, and_self, M87]
 refine runR_callf (by simp only [go_sem, reduceCtorEq, and_self]) (by simp only [go_sem, reduceCtorEq] <;> rfl) (fn70 s false hs) ⟨rfl, trivial⟩ trivial ?_
 simp only [go_sem, Nat.reduceEqDiff, reduceCtorEq, and_self]
theorem fn34 (s : ByteArray) (hs : s.size ≤ 1000) : Fn Tryz.prog 34 [pS s] (.pv (pB (globB s))) [] := by
 refine Run34 [] (by simp) ?_
 simp only [go_sem, reduceCtorEq, and_self, M34]
 refine runR_callf (by simp only [go_sem, reduceCtorEq, and_self]) (by simp only [go_sem, reduceCtorEq] <;> rfl) (fn70 s true hs) ⟨rfl, trivial⟩ trivial ?_
 simp only [go_sem, Nat.reduceEqDiff, reduceCtorEq, and_self]
theorem fn50 (a b : List ByteArray) (ha : a.length < 100000) (hb : b.length < 100000) : Fn Tryz.prog 50 [ss a, ss b] (.pv (pB (decide (a = b)))) [] := by
 refine Run50 [] (by simp) ?_
 simp only [go_sem, Nat.reduceEqDiff, reduceCtorEq, and_self, M50]
 refine ⟨fun h => ?_, fun h => ?_⟩
 ·have : a ≠ b := fun e => h (by rw [e])
  simp [this]
 ·have hlm : b.length = a.length := by omega
  refine run_loop (T := Nat) (fun i => ⟨[(0, .pv (ss a)), (1, .pv (ss b)), (5, .pv (pI i))], []⟩) (fun i => i ≤ a.length ∧ a.take i = b.take i) (fun i => a.length - i) 0 rfl ⟨Nat.zero_le _, rfl⟩ ?_
  intro i ⟨hi, hq⟩
  by_cases hlt : i < a.length
  ·have hlt2 : i < b.length := by omega
   simp only [go_sem, Nat.reduceEqDiff, reduceCtorEq, Int.reduceNeg, and_self, B50_0, wf_ss, getD_map hlt, getD_map hlt2, show (i : Int) < (a.length : Int) by omega, show (i : Int) < (b.length : Int) by omega]
   refine ⟨fun hd => ?_, fun hd => ⟨⟨by omega, by omega⟩, i + 1, rfl, ⟨hlt, ?_⟩, by omega⟩⟩
   ·have : a ≠ b := fun e => by subst e; simp at hd
    simp [this]
   ·rw [take_snoc hlt, take_snoc hlt2, hq, hd]
  ·simp only [go_sem, Nat.reduceEqDiff, reduceCtorEq, Int.reduceNeg, and_self, B50_0, R50_0, show ¬ (i : Int) < (a.length : Int) by omega]
   have hie : i = a.length := by omega
   subst hie
   rw [List.take_length, ← hlm, List.take_length] at hq
   simp [hq]
theorem fn88 : ∀ (g t : List ByteArray), g.length < 100000 → t.length < 100000 → Fn Tryz.prog 88 [ss g, ss t] (.pv (pB (matchL g t))) []
 | [], t, _, ht => by
  refine Run88 [] (by simp) ?_
  simp only [go_sem, Nat.reduceEqDiff, reduceCtorEq, Int.reduceToNat, Int.reduceLE, Int.reduceLT, and_self, Int.cast_ofNat_Int, M88]
  exact decide_eq_decide.2 (by omega)
 | p :: g, t, hg, ht => by
  have ih := fun u (hu : u.length < 100000) => fn88 g u (by simp at hg; omega) hu
  have hg' : g.length + 1 < 100000 := by simpa using hg
  have wg := wf_ss (p :: g)
  have tg : List.take (g.length + 1) (pS p :: List.map pS g) = pS p :: List.map pS g := List.take_of_length_le (by simp)
  refine Run88 [] (by simp) ?_
  by_cases hp : p = sAll
  ·simp only [go_sem, Nat.reduceEqDiff, reduceCtorEq, Int.reduceToNat, Int.reduceLE, and_self, M88, hp, show ¬ (((g.length + 1 : Nat) : Int) = 0) by omega]
   subst hp
   refine ⟨⟨by omega, wg⟩, ?_⟩
   refine run_loop (T := Nat) (fun i => ⟨[(0, .pv (ss (sAll :: g))), (1, .pv (ss t)), (5, .pv (pI i))], []⟩) (fun i => i ≤ t.length + 1 ∧ ∀ j, j < i → matchL g (t.drop j) = false) (fun i => t.length + 1 - i) 0 rfl ⟨Nat.zero_le _, fun j h => absurd h (by omega)⟩ ?_
   intro i ⟨hi, hq⟩
   by_cases hlt : i ≤ t.length
   ·have td : List.drop i (List.take t.length (List.map pS t)) = (t.drop i).map pS := by rw [take_len_map, List.map_drop]
    simp only [go_sem, Nat.reduceEqDiff, reduceCtorEq, Int.reduceToNat, Int.reduceLE, and_self, B88_0, show (i : Int) ≤ (t.length : Int) by omega, wf_ss, td]
    refine ⟨⟨by omega, Int.le_refl _, wg⟩, Int.le_refl _, ?_⟩
    rw [take_len_map]
    refine runR_callf (by simp only [go_sem, Nat.reduceEqDiff, reduceCtorEq, and_self]) (by simp only [go_sem, Nat.reduceEqDiff, reduceCtorEq] <;> rfl) (ih (t.drop i) (by simp; omega)) ⟨rfl, trivial⟩ trivial ?_
    simp only [go_sem, Nat.reduceEqDiff, reduceCtorEq, Int.reduceNeg, and_self]
    refine ⟨fun h => ?_, fun h => ⟨⟨by omega, by omega⟩, i + 1, rfl, ⟨by omega, fun j hj => ?_⟩, by omega⟩⟩
    ·have : matchL (sAll :: g) t = true := by
      simp only [matchL, if_true, List.any_eq_true]
      exact ⟨i, List.mem_range.2 (by omega), h⟩
     rw [this]
    ·by_cases hje : j = i
     ·subst hje; exact h
     ·exact hq j (by omega)
   ·simp only [go_sem, Nat.reduceEqDiff, reduceCtorEq, Int.reduceToNat, Int.reduceLE, and_self, B88_0, R88_0, show ¬ (i : Int) ≤ (t.length : Int) by omega]
    symm
    simp only [matchL, if_true]
    rw [List.any_eq_false]
    intro j hj
    rw [hq j (by have := List.mem_range.1 hj; omega)]
    simp
  ·have hp' : ¬ p = ⟨#[42, 42]⟩ := hp
   cases t with
   | nil =>
    simp only [go_sem, Nat.reduceEqDiff, reduceCtorEq, Int.reduceToNat, Int.reduceLE, Int.reduceLT, and_self, Int.cast_ofNat_Int, M88, hp', show ¬ (((g.length + 1 : Nat) : Int) = 0) by omega]
    refine ⟨⟨by omega, wg⟩, ?_⟩
    refine runR_callgf (p := pB false) (by simp only [go_sem, Nat.reduceEqDiff, reduceCtorEq]) (by simp only [go_sem, Nat.reduceEqDiff, reduceCtorEq]) (by simp only [go_sem, Nat.reduceEqDiff, reduceCtorEq] <;> rfl) (fun h => absurd h (by simp only [go_sem, Nat.reduceEqDiff, reduceCtorEq])) rfl ?_
    simp only [go_sem, Nat.reduceEqDiff, reduceCtorEq, and_self]
    simp [matchL, hp]
   | cons q t =>
    simp only [go_sem, Nat.reduceEqDiff, reduceCtorEq, Int.reduceToNat, Int.reduceLE, and_self, M88, hp', show ¬ (((g.length + 1 : Nat) : Int) = 0) by omega]
    refine ⟨⟨by omega, wg⟩, fun h => ⟨h, by omega, wg⟩, fun h => ⟨h, by omega, wg⟩, fun h => ⟨h, by omega, wf_ss (q :: t)⟩, fun h => ⟨h, ?_⟩, fun h => ⟨h, by omega, by omega, wg⟩, fun h => ⟨h, by omega, by omega, wf_ss (q :: t)⟩, ?_⟩
    ·by_cases h5 : p = sAny
     ·exact .inl h5
     ·exact .inr ⟨h, h5⟩
    ·rw [take_len_map, take_len_map]
     refine runR_callgf (by simp only [go_sem, Nat.reduceEqDiff, reduceCtorEq]) (by simp only [go_sem, Nat.reduceEqDiff, reduceCtorEq, and_self]) (by simp only [go_sem, Nat.reduceEqDiff, reduceCtorEq] <;> rfl) (fun _ => ih t (by simp at ht; omega)) rfl ?_
     simp only [go_sem, Nat.reduceEqDiff, reduceCtorEq, and_self, show (0 : Int) < ((t.length + 1 : Nat) : Int) by omega]
     simp only [matchL, hp, if_false]
theorem fn58 (g t : ByteArray) (hg : g.size ≤ 1000) (ht : t.size ≤ 1000) : Fn Tryz.prog 58 [pS g, pS t] (.pv (pB (meetsB g t))) [] := by
 refine Run58 [] (by simp) ?_
 have l1 := cutS_count g
 have l2 := cutS_count t
 have d1 := dots_le g
 have d2 := dots_le t
 simp only [go_sem, Nat.reduceEqDiff, reduceCtorEq, and_self, M58]
 refine runR_callf (by simp only [go_sem, Nat.reduceEqDiff, reduceCtorEq, and_self]) (by simp only [go_sem, Nat.reduceEqDiff, reduceCtorEq] <;> rfl) (fn34 g hg) ⟨rfl, trivial⟩ trivial ?_
 simp only [go_sem, Nat.reduceEqDiff, reduceCtorEq, and_self]
 refine runR_callgf (by simp only [go_sem, Nat.reduceEqDiff, reduceCtorEq]) (by simp only [go_sem, Nat.reduceEqDiff, reduceCtorEq]) (by simp only [go_sem, Nat.reduceEqDiff, reduceCtorEq] <;> rfl) (fun _ => fn87 t ht) rfl ?_
 simp only [go_sem, Nat.reduceEqDiff, reduceCtorEq, and_self]
 refine runR_callg (by simp only [go_sem, Nat.reduceEqDiff, reduceCtorEq]) (by simp only [go_sem, Nat.reduceEqDiff, reduceCtorEq]) rfl (fun _ => fn71 g hg) (.inl rfl) ?_
 simp only [go_sem, Nat.reduceEqDiff, reduceCtorEq, and_self]
 refine runR_callg (by simp only [go_sem, Nat.reduceEqDiff, reduceCtorEq]) (by simp only [go_sem, Nat.reduceEqDiff, reduceCtorEq]) rfl (fun _ => fn71 t ht) (.inl rfl) ?_
 simp only [go_sem, Nat.reduceEqDiff, reduceCtorEq]
 refine runR_callgf (by simp only [go_sem, Nat.reduceEqDiff, reduceCtorEq]) (by simp only [go_sem, Nat.reduceEqDiff, reduceCtorEq, and_self]) (by simp only [go_sem, Nat.reduceEqDiff, reduceCtorEq] <;> rfl) (fun _ => fn88 (cutS g) (cutS t) (by omega) (by omega)) rfl ?_
 simp only [go_sem, Nat.reduceEqDiff, reduceCtorEq, and_self, Bool.and_eq_false_iff]
 simp [meetsB, Bool.and_assoc]
def fewS (s : ByteArray) : ByteArray := if 60 < s.size then s.extract 0 60 else s
theorem fewS_size (s : ByteArray) : (fewS s).size ≤ 60 := by
 unfold fewS; split
 ·rw [ByteArray.size_extract]; omega
 ·omega
theorem fn17 (s : ByteArray) : Fn Tryz.prog 17 [pS s] (.pv (pS (fewS s))) [] := by
 refine Run17 [] (by simp) ?_
 simp only [go_sem, Nat.reduceEqDiff, reduceCtorEq, Int.reduceToNat, Int.reduceLE, and_self, M17]
 unfold fewS
 refine ⟨fun h => ⟨by omega, ?_⟩, fun h => ?_⟩
 ·rw [if_pos (by omega)]
 ·rw [if_neg (by omega)]
end Go.Vc
