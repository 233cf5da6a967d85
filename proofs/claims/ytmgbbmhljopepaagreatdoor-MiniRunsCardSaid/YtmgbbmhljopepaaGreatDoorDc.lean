/- A part of the proofs of the seat YtmgbbmhljopepaaGreatDoor: the contracts of functions, each proved out of its code. -/
import Derived.Test.YtmgbbmhljopepaaGreatDoorVh
import Derived.Test.YtmgbbmhljopepaaGreatDoorProg
import Derived.Test.YtmgbbmhljopepaaGreatDoorNa
import Derived.Test.YtmgbbmhljopepaaGreatDoorDb
import Derived.Test.YtmgbbmhljopepaaGreatDoorVf
namespace Go.Vc
open Go.Proofs
set_option maxRecDepth 100000
def M108 : MC := (.seq (.reg [⟨some 4, none, .q (.mv (.c (.bool false)))⟩] [] [0, 1] []) (.seq (.reg [⟨some 5, none, .q (.mv (.t 0))⟩, ⟨some 6, none, .call (.f 139) [.t 5]⟩, ⟨some 7,
 none, .q (.mv (.t 6))⟩, ⟨some 8, some (7, true), .q (.mv (.t 1))⟩, ⟨some 9, some (7, true), .call (.f 139) [.t 8]⟩, ⟨some 10, some (7, true), .q (.not (.t 9))⟩, ⟨some 11,
 none, .q (.pick (.t 7) (.t 10) (.c (.bool false)))⟩, ⟨some 12, none, .q (.mv (.t 11))⟩, ⟨some 13, some (12, false), .q (.mv (.t 0))⟩, ⟨some 14, some (12, false), .q (.mv (.t 1))⟩,
 ⟨some 15, some (12, false), .q (.bin .lss (.t 13) (.t 14))⟩, ⟨some 16, none, .q (.pick (.t 12) (.c (.bool true)) (.t 15))⟩, ⟨some 4, none, .q (.mv (.t 16))⟩] [] [4] [1006, 1009])
 .ret))
theorem mc108 : ofCode Tryz.prog [] Tryz.f108.ntmps [(0, ⟨[0, 1], [], [], 0, [], none⟩),
  (1, ⟨[4], [1006, 1009], [], 0, [], none⟩)] (Tryz.f108.body.getD .skip) = some M108 := by kernel_rfl
theorem Run108 {args : List PV} {v : AV} {rs : List (Nat × List PV)} (ids : List Bool) (h : args.length ≤ 17) (hv : run Tryz.prog (retK [RV.tmp 4] ids v rs) M108 [] ⟨entry 0 args, []⟩) : Fn Tryz.prog 108 args v rs :=
 Fn_run ids (by kernel_rfl) Tryz.func108 (by decide) rfl mc108 (by kernel_rfl) (by rw [Tryz.ntmps108]; exact h) (by rw [Tryz.ntmps108]; decide) hv
def M109 : MC := (.seq (.reg [⟨some 2, none, .q (.mv (.c (.bool false)))⟩] [] [0] []) (.seq (.reg [⟨some 3, none, .q (.mv (.t 0))⟩, ⟨some 4, none, .q (.mv (.t 0))⟩, ⟨some 5, none,
 .q (.bin .neq (.t 3) (.t 4))⟩, ⟨some 2, none, .q (.mv (.t 5))⟩] [] [2] []) .ret))
theorem mc109 : ofCode Tryz.prog [] Tryz.f109.ntmps [(0, ⟨[0], [], [], 0, [], none⟩),
  (1, ⟨[2], [], [], 0, [], none⟩)] (Tryz.f109.body.getD .skip) = some M109 := by kernel_rfl
theorem Run109 {args : List PV} {v : AV} {rs : List (Nat × List PV)} (ids : List Bool) (h : args.length ≤ 6) (hv : run Tryz.prog (retK [RV.tmp 2] ids v rs) M109 [] ⟨entry 0 args, []⟩) : Fn Tryz.prog 109 args v rs :=
 Fn_run ids (by kernel_rfl) Tryz.func109 (by decide) rfl mc109 (by kernel_rfl) (by rw [Tryz.ntmps109]; exact h) (by rw [Tryz.ntmps109]; decide) hv
def M139 : MC := (.seq (.reg [⟨some 2, none, .q (.mv (.c (.bool false)))⟩] [] [0] []) (.seq (.reg [⟨some 3, none, .q (.mv (.t 0))⟩, ⟨some 4, none, .q (.mv (.t 0))⟩, ⟨some 5, none,
 .q (.bin .neq (.t 3) (.t 4))⟩, ⟨some 2, none, .q (.mv (.t 5))⟩] [] [2] []) .ret))
theorem mc139 : ofCode Tryz.prog [] Tryz.f139.ntmps [(0, ⟨[0], [], [], 0, [], none⟩),
  (1, ⟨[2], [], [], 0, [], none⟩)] (Tryz.f139.body.getD .skip) = some M139 := by kernel_rfl
theorem Run139 {args : List PV} {v : AV} {rs : List (Nat × List PV)} (ids : List Bool) (h : args.length ≤ 6) (hv : run Tryz.prog (retK [RV.tmp 2] ids v rs) M139 [] ⟨entry 0 args, []⟩) : Fn Tryz.prog 139 args v rs :=
 Fn_run ids (by kernel_rfl) Tryz.func139 (by decide) rfl mc139 (by kernel_rfl) (by rw [Tryz.ntmps139]; exact h) (by rw [Tryz.ntmps139]; decide) hv
def B86_0 : MC := (.seq (.seq (.reg [⟨some 13, none, .q (.mv (.t 7))⟩, ⟨some 14, none, .q (.mv (.t 8))⟩, ⟨some 15, none, .q (.bin .lss (.t 13) (.t 14))⟩] [] [0, 1, 6, 7, 8, 15] [])
 (.cond (.t 15) .skip (.exit 0))) (.block 1 (.seq (.reg [⟨some 16, none, .q (.mv (.t 7))⟩, ⟨some 17, none, .q (.mv (.t 8))⟩, ⟨some 18, none, .q (.bin .add (.t 16) (.t 17))⟩, ⟨some 19,
 none, .q (.conv .u64 (.t 18))⟩, ⟨some 20, none, .q (.shf false (.t 19) (.c (.int .u64 1)))⟩, ⟨some 21, none, .q (.conv .i64 (.t 20))⟩, ⟨some 9, none, .q (.mv (.t 21))⟩] [] [0, 1, 6, 7,
 8, 9] []) (.seq (.reg [⟨some 22, none, .q (.mv (.t 0))⟩, ⟨some 23, none, .q (.mv (.t 9))⟩, ⟨some 24, none, .q (.ia (.t 22) (.t 23) 1)⟩, ⟨some 25, none, .q (.ld (.t 24) 1 false)⟩,
 ⟨some 26, none, .q (.mv (.t 1))⟩, ⟨some 27, none, .call (.f 108) [.t 25, .t 26]⟩] [] [0, 1, 6, 7, 8, 9, 27] [1027]) (.cond (.t 27) (.reg [⟨some 28, none, .q (.mv (.t 9))⟩,
 ⟨some 29, none, .q (.bin .add (.t 28) (.c (.int .i64 1)))⟩, ⟨some 7, none, .q (.mv (.t 29))⟩] [] [0, 1, 6, 7, 8] []) (.reg [⟨some 30, none, .q (.mv (.t 9))⟩, ⟨some 8, none,
 .q (.mv (.t 30))⟩] [] [0, 1, 6, 7, 8] []))))))
def R86_0 : MC := (.seq (.reg [⟨some 31, none, .q (.mv (.t 7))⟩, ⟨some 32, none, .q (.mv (.t 7))⟩, ⟨some 33, none, .q (.mv (.t 6))⟩, ⟨some 34, none, .q (.bin .lss (.t 32) (.t 33))⟩,
 ⟨some 35, none, .q (.mv (.t 34))⟩, ⟨some 36, some (35, true), .q (.mv (.t 0))⟩, ⟨some 37, some (35, true), .q (.mv (.t 7))⟩, ⟨some 38, some (35, true), .q (.ia (.t 36) (.t 37)
 1)⟩, ⟨some 39, some (35, true), .q (.ld (.t 38) 1 false)⟩, ⟨some 40, some (35, true), .q (.mv (.t 1))⟩, ⟨some 41, some (35, true), .q (.bin .eql (.t 39) (.t 40))⟩, ⟨some 42,
 some (35, true), .q (.mv (.t 41))⟩, ⟨some 43, some (42, false), .q (.mv (.t 0))⟩, ⟨some 44, some (42, false), .q (.mv (.t 7))⟩, ⟨some 45, some (42, false), .q (.ia (.t 43)
 (.t 44) 1)⟩, ⟨some 46, some (42, false), .q (.ld (.t 45) 1 false)⟩, ⟨some 47, some (42, false), .call (.f 109) [.t 46]⟩, ⟨some 48, some (42, false), .q (.mv (.t 47))⟩,
 ⟨some 49, some (48, true), .q (.mv (.t 1))⟩, ⟨some 50, some (48, true), .call (.f 109) [.t 49]⟩, ⟨some 51, some (42, false), .q (.pick (.t 48) (.t 50) (.c (.bool false)))⟩,
 ⟨some 52, some (35, true), .q (.pick (.t 42) (.c (.bool true)) (.t 51))⟩, ⟨some 53, none, .q (.pick (.t 35) (.t 52) (.c (.bool false)))⟩, ⟨some 4, none, .q (.mv (.t 31))⟩, ⟨some 5,
 none, .q (.mv (.t 53))⟩] [] [4, 5] [1047, 1050]) .ret)
def M86 : MC := (.seq (.reg [⟨some 4, none, .q (.mv (.c (.int .i64 0)))⟩, ⟨some 5, none, .q (.mv (.c (.bool false)))⟩] [] [0, 1] []) (.seq (.reg [⟨some 10, none, .q (.mv (.t 0))⟩,
 ⟨some 11, none, .q (.len (.t 10) false)⟩, ⟨some 6, none, .q (.mv (.t 11))⟩] [] [0, 1, 6] []) (.seq (.reg [⟨some 12, none, .q (.mv (.t 6))⟩, ⟨some 7, none,
 .q (.mv (.c (.int .i64 0)))⟩, ⟨some 8, none, .q (.mv (.t 12))⟩] [] [0, 1, 6, 7, 8] []) (.seq (.block 0 (.loop B86_0)) R86_0))))
theorem mc86 : ofCode Tryz.prog [] Tryz.f86.ntmps [(0, ⟨[0, 1], [], [], 0, [], none⟩),
  (1, ⟨[0, 1, 6], [], [], 0, [], none⟩),
  (2, ⟨[0, 1, 6, 7, 8], [], [], 0, [], none⟩),
  (3, ⟨[0, 1, 6, 7, 8, 15], [], [], 0, [], none⟩),
  (4, ⟨[0, 1, 6, 7, 8, 9], [], [], 0, [], none⟩),
  (5, ⟨[0, 1, 6, 7, 8, 9, 27], [1027], [], 0, [], none⟩),
  (6, ⟨[0, 1, 6, 7, 8], [], [], 0, [], none⟩),
  (7, ⟨[0, 1, 6, 7, 8], [], [], 0, [], none⟩),
  (8, ⟨[4, 5], [1047, 1050], [], 0, [], none⟩)] (Tryz.f86.body.getD .skip) = some M86 := by kernel_rfl
theorem Run86 {args : List PV} {v : AV} {rs : List (Nat × List PV)} (ids : List Bool) (h : args.length ≤ 54) (hv : run Tryz.prog (retK [RV.tmp 4, RV.tmp 5] ids v rs) M86 [] ⟨entry 0 args, []⟩) : Fn Tryz.prog 86 args v rs :=
 Fn_run ids (by kernel_rfl) Tryz.func86 (by decide) rfl mc86 (by kernel_rfl) (by rw [Tryz.ntmps86]; exact h) (by rw [Tryz.ntmps86]; decide) hv
def M57 : MC := (.seq (.reg [⟨some 2, none, .box (.t 0)⟩, ⟨some 4, none, .q (.mv (.c (.int .i64 0)))⟩] [] [1, 2] [2]) (.seq (.seq (.reg [⟨some 8, none, .q (.fa (.t 2) 0)⟩, ⟨some 9, none,
 .q (.ld (.t 8) 1 false)⟩, ⟨some 10, none, .q (.mv (.t 1))⟩, ⟨some 11, none, .call (.f 86) [.t 9, .t 10]⟩, ⟨some 7, none, .q (.mv (.t 11))⟩, ⟨some 12, none, .q (.ext (.t 7) 0)⟩,
 ⟨some 13, none, .q (.ext (.t 7) 1)⟩, ⟨some 5, none, .q (.mv (.t 12))⟩, ⟨some 6, none, .q (.mv (.t 13))⟩] [] [2, 5, 6] [2, 1011]) (.seq (.reg [⟨some 14, none, .q (.mv (.t 6))⟩] [] [2,
 5, 14] [2, 1011]) (.cond (.t 14) (.seq (.reg [⟨some 15, none, .q (.mv (.t 5))⟩, ⟨some 4, none, .q (.mv (.t 15))⟩] [] [4] [1011]) .ret) .skip))) (.seq (.reg [⟨some 16, none, .q (.fa (.t 2)
 0)⟩, ⟨some 17, none, .q (.ld (.t 16) 1 false)⟩, ⟨some 18, none, .q (.len (.t 17) false)⟩, ⟨some 4, none, .q (.mv (.t 18))⟩] [] [4] [1011]) .ret)))
theorem mc57 : ofCode Tryz.prog [] Tryz.f57.ntmps [(0, ⟨[1, 2], [2], [], 0, [], none⟩),
  (1, ⟨[2, 5, 6], [2, 1011], [], 0, [], none⟩),
  (2, ⟨[2, 5, 14], [2, 1011], [], 0, [], none⟩),
  (3, ⟨[4], [1011], [], 0, [], none⟩),
  (4, ⟨[4], [1011], [], 0, [], none⟩)] (Tryz.f57.body.getD .skip) = some M57 := by kernel_rfl
theorem Run57 {args : List PV} {v : AV} {rs : List (Nat × List PV)} (ids : List Bool) (h : args.length ≤ 19) (hv : run Tryz.prog (retK [RV.tmp 4] ids v rs) M57 [] ⟨entry 0 args, []⟩) : Fn Tryz.prog 57 args v rs :=
 Fn_run ids (by kernel_rfl) Tryz.func57 (by decide) rfl mc57 (by kernel_rfl) (by rw [Tryz.ntmps57]; exact h) (by rw [Tryz.ntmps57]; decide) hv
def M78 : MC := (.seq (.reg [⟨some 2, none, .box (.t 0)⟩, ⟨some 4, none, .q (.mv .nil)⟩] [] [1, 2] [2]) (.seq (.seq (.reg [⟨some 5, none, .q (.mv (.t 1))⟩, ⟨some 6, none,
 .q (.bin .lss (.t 5) (.c (.int .i64 0)))⟩, ⟨some 7, none, .q (.mv (.t 6))⟩, ⟨some 8, some (7, false), .q (.mv (.t 1))⟩, ⟨some 9, some (7, false), .q (.fa (.t 2) 1)⟩, ⟨some 10,
 some (7, false), .q (.ld (.t 9) 1 false)⟩, ⟨some 11, some (7, false), .q (.len (.t 10) false)⟩, ⟨some 12, some (7, false), .q (.bin .geq (.t 8) (.t 11))⟩, ⟨some 13, none,
 .q (.pick (.t 7) (.c (.bool true)) (.t 12))⟩] [] [1, 2, 13] [2]) (.cond (.t 13) (.seq (.reg [⟨some 4, none, .q (.mv .nil)⟩] [] [4] []) .ret) .skip)) (.seq (.reg [⟨some 14, none,
 .q (.fa (.t 2) 1)⟩, ⟨some 15, none, .q (.ld (.t 14) 1 false)⟩, ⟨some 16, none, .q (.mv (.t 1))⟩, ⟨some 17, none, .q (.ia (.t 15) (.t 16) 1)⟩, ⟨some 18, none, .q (.ld (.t 17)
 1 false)⟩, ⟨some 4, none, .q (.mv (.t 18))⟩] [] [4] []) .ret)))
theorem mc78 : ofCode Tryz.prog [] Tryz.f78.ntmps [(0, ⟨[1, 2], [2], [], 0, [], none⟩),
  (1, ⟨[1, 2, 13], [2], [], 0, [], none⟩),
  (2, ⟨[4], [], [], 0, [], none⟩),
  (3, ⟨[4], [], [], 0, [], none⟩)] (Tryz.f78.body.getD .skip) = some M78 := by kernel_rfl
theorem Run78 {args : List PV} {v : AV} {rs : List (Nat × List PV)} (ids : List Bool) (h : args.length ≤ 19) (hv : run Tryz.prog (retK [RV.tmp 4] ids v rs) M78 [] ⟨entry 0 args, []⟩) : Fn Tryz.prog 78 args v rs :=
 Fn_run ids (by kernel_rfl) Tryz.func78 (by decide) rfl mc78 (by kernel_rfl) (by rw [Tryz.ntmps78]; exact h) (by rw [Tryz.ntmps78]; decide) hv
def B42_0 : MC := (.seq (.reg [⟨some 36, none, .q (.bin .lss (.t 35) (.t 34))⟩] [] [6, 7, 34, 35, 36] [27, 43, 2007]) (.seq (.cond (.t 36) .skip (.exit 1)) (.seq (.block 2 (.seq (.reg [⟨some 37,
 none, .q (.mv (.t 35))⟩, ⟨some 8, none, .q (.mv (.t 37))⟩] [] [6, 7, 8, 34, 35] [27, 43, 2007]) (.reg [⟨some 38, none, .q (.mv (.t 7))⟩, ⟨some 39, none, .q (.mv (.t 8))⟩, ⟨some 40,
 none, .q (.mv (.t 6))⟩, ⟨some 41, none, .q (.mk [.pv (.sc (.int .i64 0)), .pv (.sc (.int .i64 0))] [(0, 1, (.t 39)), (1, 1, (.t 40))])⟩, ⟨some 42, none, .lits [.t 41] 2⟩, ⟨some 43,
 none, .app (.t 38) (.t 42) 2 16⟩, ⟨some 7, none, .q (.mv (.t 43))⟩] [] [6, 7, 34, 35] [27, 43, 2007]))) (.reg [⟨some 44, none, .q (.bin .add (.t 35) (.c (.int .i64 1)))⟩, ⟨some 35, none,
 .q (.mv (.t 44))⟩] [] [6, 7, 34, 35] [27, 43, 2007]))))
def R42_0 : MC := (.seq (.reg [⟨some 45, none, .q (.mv (.t 7))⟩, ⟨some 4, none, .q (.mv (.t 45))⟩] [] [4] [20, 27, 43, 2007]) .ret)
def M42 : MC := (.seq (.reg [⟨some 2, none, .box (.t 0)⟩, ⟨some 4, none, .q (.mv .nil)⟩] [] [1, 2] [2]) (.seq (.reg [⟨some 9, none, .q (.fa (.t 2) 1)⟩, ⟨some 10, none, .q (.ld (.t 9)
 1 false)⟩, ⟨some 11, none, .q (.len (.t 10) false)⟩, ⟨some 5, none, .q (.mv (.t 11))⟩] [] [1, 2, 5] [2]) (.seq (.reg [⟨some 12, none, .q (.mv (.t 5))⟩, ⟨some 13, none,
 .q (.bin .add (.t 12) (.c (.int .i64 1)))⟩, ⟨some 6, none, .q (.mv (.t 13))⟩] [] [1, 2, 5, 6] [2]) (.seq (.reg [⟨some 7, none, .q (.mv .nil)⟩] [(7, 2007, 2)] [1, 2, 5, 6, 7] [2, 27, 43,
 2007]) (.seq (.seq (.reg [⟨some 14, none, .q (.mv (.t 1))⟩] [] [1, 2, 5, 6, 7, 14] [2, 27, 43, 2007]) (.block 0 (.seq (.reg [⟨some 22, none, .q (.bin .eql (.t 14) (.c (.string ⟨#[42,
 42]⟩)))⟩, ⟨some 21, none, .q (.mv (.t 22))⟩] [] [1, 2, 5, 6, 7, 14, 21] [2, 27, 43, 2007]) (.cond (.t 21) (.seq (.reg [⟨some 23, none, .q (.mv (.t 7))⟩, ⟨some 24, none,
 .q (.mv (.t 6))⟩, ⟨some 25, none, .q (.mk [.pv (.sc (.int .i64 0)), .pv (.sc (.int .i64 0))] [(0, 1, (.c (.int .i64 (-1)))), (1, 1, (.t 24))])⟩, ⟨some 26, none, .lits [.t 25] 2⟩,
 ⟨some 27, none, .app (.t 23) (.t 26) 2 16⟩, ⟨some 7, none, .q (.mv (.t 27))⟩] [] [2, 5, 7] [2, 27, 43, 2007]) (.reg [⟨some 28, none, .q (.mv (.t 5))⟩, ⟨some 6, none,
 .q (.mv (.t 28))⟩] [] [2, 6, 7] [2, 27, 43, 2007])) (.seq (.reg [⟨some 30, none, .q (.bin .eql (.t 14) (.c (.string ⟨#[42]⟩)))⟩, ⟨some 29, none, .q (.mv (.t 30))⟩] [] [1, 2, 6, 7, 29] [2,
 27, 43, 2007]) (.cond (.t 29) .skip (.seq (.reg [⟨some 15, none, .q (.ld (.t 2) 4 true)⟩, ⟨some 16, none, .q (.mv (.t 1))⟩, ⟨some 17, none, .call (.f 57) [.t 15, .t 16]⟩, ⟨some 18,
 none, .q (.mv (.t 6))⟩, ⟨some 19, none, .q (.mk [.pv (.sc (.int .i64 0)), .pv (.sc (.int .i64 0))] [(0, 1, (.t 17)), (1, 1, (.t 18))])⟩, ⟨some 20, none, .own [.t 19] 2⟩, ⟨some 4,
 none, .q (.mv (.t 20))⟩] [] [4] [20, 27, 43, 2007]) .ret))))))) (.seq (.seq (.reg [⟨some 31, none, .q (.fa (.t 2) 0)⟩, ⟨some 32, none, .q (.ld (.t 31) 1 false)⟩, ⟨some 33, none,
 .q (.len (.t 32) false)⟩, ⟨some 34, none, .q (.bin .add (.t 33) (.c (.int .i64 1)))⟩, ⟨some 35, none, .q (.mv (.c (.int .i64 0)))⟩] [] [6, 7, 34, 35] [27, 43, 2007])
 (.block 1 (.loop B42_0))) R42_0))))))
theorem mc42 : ofCode Tryz.prog [20] Tryz.f42.ntmps [(0, ⟨[1, 2], [2], [], 0, [], none⟩),
  (1, ⟨[1, 2, 5], [2], [], 0, [], none⟩),
  (2, ⟨[1, 2, 5, 6], [2], [], 0, [], none⟩),
  (3, ⟨[1, 2, 5, 6, 7], [2, 27, 43, 2007], [], 0, [(7, 2007, 2)], none⟩),
  (4, ⟨[1, 2, 5, 6, 7, 14], [2, 27, 43, 2007], [], 0, [], none⟩),
  (5, ⟨[4], [20, 27, 43, 2007], [], 0, [], none⟩),
  (6, ⟨[1, 2, 5, 6, 7, 14, 21], [2, 27, 43, 2007], [], 0, [], none⟩),
  (7, ⟨[2, 5, 7], [2, 27, 43, 2007], [], 0, [], none⟩),
  (8, ⟨[2, 6, 7], [2, 27, 43, 2007], [], 0, [], none⟩),
  (9, ⟨[1, 2, 6, 7, 29], [2, 27, 43, 2007], [], 0, [], none⟩),
  (10, ⟨[6, 7, 34, 35], [27, 43, 2007], [], 0, [], none⟩),
  (11, ⟨[6, 7, 34, 35, 36], [27, 43, 2007], [], 0, [], none⟩),
  (12, ⟨[6, 7, 8, 34, 35], [27, 43, 2007], [], 0, [], none⟩),
  (13, ⟨[6, 7, 34, 35], [27, 43, 2007], [], 0, [], none⟩),
  (14, ⟨[6, 7, 34, 35], [27, 43, 2007], [], 0, [], none⟩),
  (15, ⟨[4], [20, 27, 43, 2007], [], 0, [], none⟩)] (Tryz.f42.body.getD .skip) = some M42 := by kernel_rfl
theorem Run42 {args : List PV} {v : AV} {rs : List (Nat × List PV)} (ids : List Bool) (h : args.length ≤ 46) (hv : run Tryz.prog (retK [RV.tmp 4] ids v rs) M42 [] ⟨entry 0 args, []⟩) : Fn Tryz.prog 42 args v rs :=
 Fn_run ids (by kernel_rfl) Tryz.func42 (by decide) rfl mc42 (by kernel_rfl) (by rw [Tryz.ntmps42]; exact h) (by rw [Tryz.ntmps42]; decide) hv
def B26_0 : MC := (.seq (.seq (.reg [⟨some 11, none, .q (.mv (.t 5))⟩, ⟨some 12, none, .q (.mv (.t 0))⟩, ⟨some 13, none, .q (.len (.t 12) false)⟩, ⟨some 14, none, .q (.bin .lss (.t 11)
 (.t 13))⟩] [] [0, 1, 5, 14] []) (.cond (.t 14) .skip (.exit 0))) (.seq (.block 1 (.seq (.reg [⟨some 17, none, .q (.mv (.t 0))⟩, ⟨some 18, none, .q (.mv (.t 5))⟩, ⟨some 19, none,
 .q (.ia (.t 17) (.t 18) 1)⟩, ⟨some 20, none, .q (.ld (.t 19) 1 false)⟩, ⟨some 21, none, .q (.mv (.t 1))⟩, ⟨some 22, none, .q (.mv (.t 5))⟩, ⟨some 23, none, .q (.ia (.t 21) (.t 22)
 1)⟩, ⟨some 24, none, .q (.ld (.t 23) 1 false)⟩, ⟨some 25, none, .q (.bin .neq (.t 20) (.t 24))⟩] [] [0, 1, 5, 25] []) (.cond (.t 25) (.seq (.reg [⟨some 4, none,
 .q (.mv (.c (.bool false)))⟩] [] [4] []) .ret) .skip))) (.reg [⟨some 15, none, .q (.mv (.t 5))⟩, ⟨some 16, none, .q (.bin .add (.t 15) (.c (.int .i64 1)))⟩, ⟨some 5, none,
 .q (.mv (.t 16))⟩] [] [0, 1, 5] [])))
def R26_0 : MC := (.seq (.reg [⟨some 4, none, .q (.mv (.c (.bool true)))⟩] [] [4] []) .ret)
def M26 : MC := (.seq (.reg [⟨some 4, none, .q (.mv (.c (.bool false)))⟩] [] [0, 1] []) (.seq (.seq (.reg [⟨some 6, none, .q (.mv (.t 0))⟩, ⟨some 7, none, .q (.len (.t 6) false)⟩,
 ⟨some 8, none, .q (.mv (.t 1))⟩, ⟨some 9, none, .q (.len (.t 8) false)⟩, ⟨some 10, none, .q (.bin .neq (.t 7) (.t 9))⟩] [] [0, 1, 10] []) (.cond (.t 10) (.seq (.reg [⟨some 4, none,
 .q (.mv (.c (.bool false)))⟩] [] [4] []) .ret) .skip)) (.seq (.seq (.reg [⟨some 5, none, .q (.mv (.c (.int .i64 0)))⟩] [] [0, 1, 5] []) (.block 0 (.loop B26_0))) R26_0)))
theorem mc26 : ofCode Tryz.prog [] Tryz.f26.ntmps [(0, ⟨[0, 1], [], [], 0, [], none⟩),
  (1, ⟨[0, 1, 10], [], [], 0, [], none⟩),
  (2, ⟨[4], [], [], 0, [], none⟩),
  (3, ⟨[0, 1, 5], [], [], 0, [], none⟩),
  (4, ⟨[0, 1, 5, 14], [], [], 0, [], none⟩),
  (5, ⟨[0, 1, 5], [], [], 0, [], none⟩),
  (6, ⟨[0, 1, 5, 25], [], [(0, 269), (1, 270), (2, 268), (3, 264), (4, 464), (5, 480), (6, 448), (7, 384), (8, 256)], 511, [], none⟩),
  (7, ⟨[4], [], [], 0, [], none⟩),
  (8, ⟨[4], [], [], 0, [], none⟩)] (Tryz.f26.body.getD .skip) = some M26 := by kernel_rfl
theorem Run26 {args : List PV} {v : AV} {rs : List (Nat × List PV)} (ids : List Bool) (h : args.length ≤ 26) (hv : run Tryz.prog (retK [RV.tmp 4] ids v rs) M26 [] ⟨entry 0 args, []⟩) : Fn Tryz.prog 26 args v rs :=
 Fn_run ids (by kernel_rfl) Tryz.func26 (by decide) rfl mc26 (by kernel_rfl) (by rw [Tryz.ntmps26]; exact h) (by rw [Tryz.ntmps26]; decide) hv
def B28_0 : MC := (.seq (.seq (.reg [⟨some 7, none, .q (.mv (.t 6))⟩, ⟨some 8, none, .q (.mv (.t 0))⟩, ⟨some 9, none, .q (.len (.t 8) false)⟩, ⟨some 10, none, .q (.bin .lss (.t 7)
 (.t 9))⟩] [] [0, 1, 5, 6, 10] [22, 2005]) (.cond (.t 10) .skip (.exit 0))) (.seq (.block 1 (.seq (.reg [⟨some 13, none, .q (.mv (.t 0))⟩, ⟨some 14, none, .q (.mv (.t 6))⟩, ⟨some 15, none,
 .q (.ia (.t 13) (.t 14) 1)⟩, ⟨some 16, none, .q (.ld (.t 15) 1 false)⟩, ⟨some 17, none, .q (.mv (.t 1))⟩, ⟨some 18, none, .call (.f 58) [.t 16, .t 17]⟩] [] [0, 1, 5, 6, 18] [22,
 1018, 2005]) (.cond (.t 18) (.reg [⟨some 19, none, .q (.mv (.t 5))⟩, ⟨some 20, none, .q (.mv (.t 6))⟩, ⟨some 21, none, .lits [.t 20] 1⟩, ⟨some 22, none, .app (.t 19) (.t 21) 1 8⟩,
 ⟨some 5, none, .q (.mv (.t 22))⟩] [] [0, 1, 5, 6] [22, 2005]) .skip))) (.reg [⟨some 11, none, .q (.mv (.t 6))⟩, ⟨some 12, none, .q (.bin .add (.t 11) (.c (.int .i64 1)))⟩, ⟨some 6,
 none, .q (.mv (.t 12))⟩] [] [0, 1, 5, 6] [22, 2005])))
def R28_0 : MC := (.seq (.reg [⟨some 23, none, .q (.mv (.t 5))⟩, ⟨some 4, none, .q (.mv (.t 23))⟩] [] [4] [22, 2005]) .ret)
def M28 : MC := (.seq (.reg [⟨some 4, none, .q (.mv .nil)⟩] [] [0, 1] []) (.seq (.reg [⟨some 5, none, .q (.mv .nil)⟩] [(5, 2005, 1)] [0, 1, 5] [22, 2005]) (.seq (.seq (.reg [⟨some 6, none,
 .q (.mv (.c (.int .i64 0)))⟩] [] [0, 1, 5, 6] [22, 2005]) (.block 0 (.loop B28_0))) R28_0)))
theorem mc28 : ofCode Tryz.prog [] Tryz.f28.ntmps [(0, ⟨[0, 1], [], [], 0, [], none⟩),
  (1, ⟨[0, 1, 5], [22, 2005], [], 0, [(5, 2005, 1)], none⟩),
  (2, ⟨[0, 1, 5, 6], [22, 2005], [], 0, [], none⟩),
  (3, ⟨[0, 1, 5, 6, 10], [22, 2005], [], 0, [], none⟩),
  (4, ⟨[0, 1, 5, 6], [22, 2005], [], 0, [], none⟩),
  (5, ⟨[0, 1, 5, 6, 18], [22, 1018, 2005], [], 0, [], none⟩),
  (6, ⟨[0, 1, 5, 6], [22, 2005], [], 0, [], none⟩),
  (7, ⟨[4], [22, 2005], [], 0, [], none⟩)] (Tryz.f28.body.getD .skip) = some M28 := by kernel_rfl
theorem Run28 {args : List PV} {v : AV} {rs : List (Nat × List PV)} (ids : List Bool) (h : args.length ≤ 24) (hv : run Tryz.prog (retK [RV.tmp 4] ids v rs) M28 [] ⟨entry 0 args, []⟩) : Fn Tryz.prog 28 args v rs :=
 Fn_run ids (by kernel_rfl) Tryz.func28 (by decide) rfl mc28 (by kernel_rfl) (by rw [Tryz.ntmps28]; exact h) (by rw [Tryz.ntmps28]; decide) hv
def B21_0 : MC := (.seq (.seq (.reg [⟨some 5, none, .q (.mv (.t 4))⟩, ⟨some 6, none, .q (.mv (.t 0))⟩, ⟨some 7, none, .q (.len (.t 6) false)⟩, ⟨some 8, none, .q (.bin .lss (.t 5)
 (.t 7))⟩, ⟨some 9, none, .q (.mv (.t 8))⟩, ⟨some 10, some (9, true), .q (.mv (.t 4))⟩, ⟨some 11, some (9, true), .q (.bin .lss (.t 10) (.c (.int .i64 21)))⟩, ⟨some 12, none,
 .q (.pick (.t 9) (.t 11) (.c (.bool false)))⟩] [] [0, 3, 4, 12] [22, 2003]) (.cond (.t 12) .skip (.exit 0))) (.seq (.block 1 (.reg [⟨some 15, none, .q (.mv (.t 3))⟩, ⟨some 16, none,
 .q (.mv (.t 0))⟩, ⟨some 17, none, .q (.mv (.t 4))⟩, ⟨some 18, none, .q (.ia (.t 16) (.t 17) 1)⟩, ⟨some 19, none, .q (.ld (.t 18) 1 false)⟩, ⟨some 20, none, .call (.f 17)
 [.t 19]⟩, ⟨some 21, none, .lits [.t 20] 1⟩, ⟨some 22, none, .app (.t 15) (.t 21) 1 16⟩, ⟨some 3, none, .q (.mv (.t 22))⟩] [] [0, 3, 4] [22, 2003])) (.reg [⟨some 13, none,
 .q (.mv (.t 4))⟩, ⟨some 14, none, .q (.bin .add (.t 13) (.c (.int .i64 1)))⟩, ⟨some 4, none, .q (.mv (.t 14))⟩] [] [0, 3, 4] [22, 2003])))
def R21_0 : MC := (.seq (.reg [⟨some 23, none, .q (.mv (.t 3))⟩, ⟨some 2, none, .q (.mv (.t 23))⟩] [] [2] [22, 2003]) .ret)
def M21 : MC := (.seq (.reg [⟨some 2, none, .q (.mv .nil)⟩] [] [0] []) (.seq (.reg [⟨some 3, none, .q (.mv .nil)⟩] [(3, 2003, 1)] [0, 3] [22, 2003]) (.seq (.seq (.reg [⟨some 4, none,
 .q (.mv (.c (.int .i64 0)))⟩] [] [0, 3, 4] [22, 2003]) (.block 0 (.loop B21_0))) R21_0)))
theorem mc21 : ofCode Tryz.prog [] Tryz.f21.ntmps [(0, ⟨[0], [], [], 0, [], none⟩),
  (1, ⟨[0, 3], [22, 2003], [], 0, [(3, 2003, 1)], none⟩),
  (2, ⟨[0, 3, 4], [22, 2003], [], 0, [], none⟩),
  (3, ⟨[0, 3, 4, 12], [22, 2003], [], 0, [], none⟩),
  (4, ⟨[0, 3, 4], [22, 2003], [], 0, [], none⟩),
  (5, ⟨[0, 3, 4], [22, 2003], [], 0, [], none⟩),
  (6, ⟨[2], [22, 2003], [], 0, [], none⟩)] (Tryz.f21.body.getD .skip) = some M21 := by kernel_rfl
theorem Run21 {args : List PV} {v : AV} {rs : List (Nat × List PV)} (ids : List Bool) (h : args.length ≤ 24) (hv : run Tryz.prog (retK [RV.tmp 2] ids v rs) M21 [] ⟨entry 0 args, []⟩) : Fn Tryz.prog 21 args v rs :=
 Fn_run ids (by kernel_rfl) Tryz.func21 (by decide) rfl mc21 (by kernel_rfl) (by rw [Tryz.ntmps21]; exact h) (by rw [Tryz.ntmps21]; decide) hv
end Go.Vc

namespace Go.Vc
open Go.Proofs
set_option linter.unusedSimpArgs false
set_option linter.unusedVariables false
theorem fn139 (s : ByteArray) : Fn Tryz.prog 139 [pS s] (.pv (pB false)) [] := by
 refine Run139 [] (by simp) ?_
 simp only [go_sem, Nat.reduceEqDiff, reduceCtorEq, and_self, M139]
theorem fn109 (s : ByteArray) : Fn Tryz.prog 109 [pS s] (.pv (pB false)) [] := by
 refine Run109 [] (by simp) ?_
 simp only [go_sem, Nat.reduceEqDiff, reduceCtorEq, and_self, M109]
theorem fn108 (a b : ByteArray) : Fn Tryz.prog 108 [pS a, pS b] (.pv (pB (ltB a b))) [] := by
 refine Run108 [] (by simp) ?_
 simp only [go_sem, Nat.reduceEqDiff, reduceCtorEq, and_self, M108]
 refine runR_callf (by simp only [go_sem, Nat.reduceEqDiff, reduceCtorEq, and_self]) (by simp only [go_sem, Nat.reduceEqDiff, reduceCtorEq] <;> rfl) (fn139 a) ⟨rfl, trivial⟩ trivial ?_
 simp only [go_sem, Nat.reduceEqDiff, reduceCtorEq, and_self]
 refine runR_callgf (p := pB false) (by simp only [go_sem, Nat.reduceEqDiff, reduceCtorEq]) (by simp only [go_sem, Nat.reduceEqDiff, reduceCtorEq]) (by simp only [go_sem, Nat.reduceEqDiff, reduceCtorEq] <;> rfl) (fun h => absurd h (by simp only [go_sem, Nat.reduceEqDiff, reduceCtorEq])) rfl ?_
 simp only [go_sem, Nat.reduceEqDiff, reduceCtorEq, and_self]
 rfl
def lowB (d : List ByteArray) (p : ByteArray) : Nat := d.findIdx (fun x => !ltB x p)
theorem low_eq {d : List ByteArray} {p : ByteArray} {i : Nat} (hi : i ≤ d.length) (h1 : ∀ k, k < i → ltB (d.getD k ⟨#[]⟩) p = true) (h2 : i < d.length → ltB (d.getD i ⟨#[]⟩) p = false) : lowB d p = i := by
 have e : ∀ k (h : k < d.length), d.getD k ⟨#[]⟩ = d[k] := fun k h => by simp [List.getD_eq_getElem?_getD, h]
 unfold lowB
 by_cases hlt : i < d.length
 ·rw [List.findIdx_eq hlt]
  refine ⟨by rw [← e i hlt, h2 hlt]; rfl, fun j hj => ?_⟩
  rw [← e j (by omega), h1 j hj]; rfl
 ·have : i = d.length := by omega
  subst this
  rw [List.findIdx_eq_length]
  intro x hx
  obtain ⟨k, hk, rfl⟩ := List.getElem_of_mem hx
  rw [← e k hk, h1 k hk]; rfl
theorem fn86 (d : List ByteArray) (p : ByteArray) (hd : RisB d) (hl : d.length ≤ 1000) : Fn Tryz.prog 86 [ss d, pS p] (.pv (.tup [pI (lowB d p), pB (decide (letterN d p < d.length))])) [] := by
 refine Run86 [] (by simp) ?_
 simp only [go_sem, Nat.reduceEqDiff, reduceCtorEq, and_self, M86]
 refine run_loop (T := Nat × Nat) (fun s => ⟨[(0, .pv (ss d)), (1, .pv (pS p)), (6, .pv (pI d.length)), (7, .pv (pI s.1)), (8, .pv (pI s.2))], []⟩)
  (fun s => s.1 ≤ s.2 ∧ s.2 ≤ d.length ∧ (∀ k, k < s.1 → ltB (d.getD k ⟨#[]⟩) p = true) ∧ (∀ k, s.2 ≤ k → k < d.length → ltB (d.getD k ⟨#[]⟩) p = false)) (fun s => s.2 - s.1) (0, d.length) rfl ⟨by simp, by simp, by simp, fun k h1 h2 => by simp only at h1; omega⟩ ?_
 rintro ⟨i, j⟩ ⟨h1, h2, h3, h4⟩
 simp only at h1 h2 h3 h4
 by_cases hij : i < j
 ·have e : ((i : Int) + (j : Int)).fdiv (2 ^ 1) = (((i + j) / 2 : Nat) : Int) := by rw [Int.fdiv_eq_ediv_of_nonneg _ (by omega)]; omega
  have hh : (i + j) / 2 < d.length := by omega
  generalize hm : (i + j) / 2 = m at e hh
  simp only [go_sem, Nat.reduceEqDiff, reduceCtorEq, Int.reduceToNat, Int.reduceLE, Int.reduceNeg, and_self, Int.cast_ofNat_Int, B86_0, R86_0, show (i : Int) < (j : Int) by omega, e, getD_map hh, wf_ss]
  refine ⟨⟨by omega, by omega⟩, ⟨by omega, by omega⟩, ⟨by omega, by omega⟩, by omega, ?_⟩
  refine runR_callf (by simp only [go_sem, Nat.reduceEqDiff, reduceCtorEq, and_self]) (by simp only [go_sem, Nat.reduceEqDiff, reduceCtorEq] <;> rfl) (fn108 d[m] p) ⟨rfl, trivial⟩ trivial ?_
  simp only [go_sem, Nat.reduceEqDiff, reduceCtorEq, Int.reduceNeg, and_self]
  have em : d.getD m ⟨#[]⟩ = d[m] := by simp [List.getD_eq_getElem?_getD, hh]
  refine ⟨fun h => ⟨⟨by omega, by omega⟩, (m + 1, j), rfl, ⟨by simp only; omega, h2, fun k hk => ?_, h4⟩, by simp only; omega⟩, fun h => ⟨(i, m), rfl, ⟨by simp only; omega, by simp only; omega, h3, fun k hk hk2 => ?_⟩, by simp only; omega⟩⟩
  ·simp only at hk
   by_cases hkm : k = m
   ·subst hkm; rw [em]; exact h
   ·cases hc : ltB (d.getD k ⟨#[]⟩) p with
    | true => rfl
    | false =>
     have a1 := ris_get hd (show k < m by omega) hh
     rw [em] at a1
     have a2 := ltB_tr a1 h
     rw [hc] at a2; cases a2
  ·simp only at hk
   by_cases hkm : k = m
   ·subst hkm; rw [em]; exact h
   ·cases hc : ltB (d.getD k ⟨#[]⟩) p with
    | false => rfl
    | true =>
     have a1 := ris_get hd (show m < k by omega) hk2
     rw [em] at a1
     have a2 := ltB_tr a1 hc
     rw [h] at a2; cases a2
 ·have hij2 : i = j := by omega
  subst hij2
  have hlow := low_eq h2 h3 (fun h => h4 i (Nat.le_refl _) h)
  have hsr := letterN_srch hd h2 h3 h4
  by_cases hlt : i < d.length
  ·have ei : d.getD i ⟨#[]⟩ = d[i] := by simp [List.getD_eq_getElem?_getD, hlt]
   rw [ei] at hsr
   simp only [go_sem, Nat.reduceEqDiff, reduceCtorEq, Int.reduceToNat, Int.reduceLE, Int.reduceNeg, and_self, Int.cast_ofNat_Int, B86_0, R86_0, show ¬ (i : Int) < (i : Int) by omega, show (i : Int) < (d.length : Int) by omega, getD_map hlt, wf_ss]
   refine runR_callgf (by simp only [go_sem, Nat.reduceEqDiff, reduceCtorEq]) (by simp only [go_sem, Nat.reduceEqDiff, reduceCtorEq]) (by simp only [go_sem, Nat.reduceEqDiff, reduceCtorEq] <;> rfl) (fun _ => fn109 d[i]) rfl ?_
   simp only [go_sem, Nat.reduceEqDiff, reduceCtorEq, and_self]
   refine runR_callgf (by simp only [go_sem, Nat.reduceEqDiff, reduceCtorEq]) (by simp only [go_sem, Nat.reduceEqDiff, reduceCtorEq]) (by simp only [go_sem, Nat.reduceEqDiff, reduceCtorEq] <;> rfl) (fun _ => fn109 p) rfl ?_
   simp only [go_sem, Nat.reduceEqDiff, reduceCtorEq, and_self]
   rw [hlow]
   rcases hsr with ⟨_, h5, h6⟩ | ⟨h5, h6⟩
   ·rw [h6, show decide (d[i] = p) = true by simp [h5], show decide (i < d.length) = true by simp [hlt]]
   ·rw [h6, show decide (d[i] = p) = false by simp; exact fun h => h5 ⟨hlt, h⟩]; simp
  ·have edf : (d.map pS).getD i default = PV.sc default := by rw [List.getD_eq_getElem?_getD, List.getElem?_eq_none (by simp; omega)]; rfl
   simp only [go_sem, Nat.reduceEqDiff, reduceCtorEq, Int.reduceToNat, Int.reduceLE, Int.reduceNeg, and_self, Int.cast_ofNat_Int, B86_0, R86_0, show ¬ (i : Int) < (i : Int) by omega, show ¬ (i : Int) < (d.length : Int) by omega, edf]
   refine runR_callgf (p := pB false) (by simp only [go_sem, Nat.reduceEqDiff, reduceCtorEq]) (by simp only [go_sem, Nat.reduceEqDiff, reduceCtorEq]) (by simp only [go_sem, Nat.reduceEqDiff, reduceCtorEq] <;> rfl) (fun h => absurd h (by simp only [go_sem, Nat.reduceEqDiff, reduceCtorEq])) rfl ?_
   simp only [go_sem, Nat.reduceEqDiff, reduceCtorEq, and_self]
   refine runR_callgf (p := pB false) (by simp only [go_sem, Nat.reduceEqDiff, reduceCtorEq]) (by simp only [go_sem, Nat.reduceEqDiff, reduceCtorEq]) (by simp only [go_sem, Nat.reduceEqDiff, reduceCtorEq] <;> rfl) (fun h => absurd h (by simp only [go_sem, Nat.reduceEqDiff, reduceCtorEq])) rfl ?_
   simp only [go_sem, Nat.reduceEqDiff, reduceCtorEq, and_self]
   have h6 : letterN d p = d.length := by
    rcases hsr with ⟨h5, _⟩ | ⟨_, h6⟩
    ·exact absurd h5 hlt
    ·exact h6
   rw [hlow, h6]; simp
theorem letterN_get {d : List ByteArray} {p : ByteArray} (h : letterN d p < d.length) : d.getD (letterN d p) ⟨#[]⟩ = p := by
 have := List.findIdx_getElem (w := h)
 simp only [decide_eq_true_eq] at this
 rw [List.getD_eq_getElem?_getD, List.getElem?_eq_getElem h]
 exact this
theorem low_letter {d : List ByteArray} {p : ByteArray} (hd : RisB d) (h : letterN d p < d.length) : lowB d p = letterN d p := by
 have e := letterN_get h
 refine low_eq (by omega) (fun k hk => ?_) (fun _ => ?_)
 ·have := ris_get hd hk h
  rwa [e] at this
 ·rw [e]; exact ltB_irr p
abbrev pE (e : Int × Int) : PV := .agg [pI e.1, pI e.2]
abbrev pWs (l : List (Int × Int)) : PV := .lst (l.map pE)
abbrev ints (l : List Int) : PV := .lst (l.map fun n => pI n)
abbrev pNs (l : List Nat) : PV := ints (toI l)
abbrev pNf (n : NF) : PV := .agg [ss n.signs, .lst (n.ways.map pWs), .lst (n.done.map pNs), pNs n.beg]
theorem fn57 (sg : List ByteArray) (a b c : PV) (p : ByteArray) (hd : RisB sg) (hl : sg.length ≤ 1000) : Fn Tryz.prog 57 [.agg [ss sg, a, b, c], pS p] (.pv (pI (letterN sg p))) [] := by
 refine Run57 [] (by simp) ?_
 simp only [go_sem, Nat.reduceEqDiff, Nat.reduceAdd, Nat.reduceLeDiff, reduceCtorEq, and_self, M57]
 refine runR_callf (by simp only [go_sem, Nat.reduceEqDiff, and_self]) (by simp only [go_sem, Nat.reduceEqDiff] <;> rfl) (fn86 sg p hd hl) ⟨rfl, trivial⟩ trivial ?_
 simp only [go_sem, Nat.reduceEqDiff, Nat.reduceAdd, Nat.reduceLeDiff, Nat.reduceLT, and_self]
 have hle := letterN_le sg p
 exact ⟨fun h => by rw [low_letter hd h], fun h => by omega⟩
end Go.Vc

namespace Go.Vc
open Go.Proofs
set_option linter.unusedSimpArgs false
set_option linter.unusedVariables false
theorem wf_pE (l : List (Int × Int)) : WfL 2 (l.map pE) := wf_map (f := pE) (s := 2) (fun a => ⟨rfl, fun c hc => by
 simp only [PV.cells, List.mem_cons, List.not_mem_nil, or_false] at hc
 rcases hc with rfl | rfl <;> rfl⟩) l
theorem wf_ints (l : List Int) : WfL 1 (l.map fun n => pI n) := wf_map (f := fun n : Int => pI n) (s := 1) (fun a => ⟨rfl, fun c hc => by
 simp only [PV.cells, List.mem_cons, List.not_mem_nil, or_false] at hc
 subst hc; rfl⟩) l
theorem wf_pWs (l : List (List (Int × Int))) : WfL 1 (l.map pWs) := wf_map (f := pWs) (s := 1) (fun a => ⟨rfl, fun c hc => by
 simp only [PV.cells, List.mem_cons, List.not_mem_nil, or_false] at hc
 subst hc; rfl⟩) l
theorem wf_pNs (l : List (List Nat)) : WfL 1 (l.map pNs) := wf_map (f := pNs) (s := 1) (fun a => ⟨rfl, fun c hc => by
 simp only [PV.cells, List.mem_cons, List.not_mem_nil, or_false] at hc
 subst hc; rfl⟩) l
theorem getD_ways {n : NF} {s : Nat} (h : s < n.ways.length) : n.ways.getD s [] = n.ways[s] := by simp [List.getD_eq_getElem?_getD, h]
theorem fn78 (n : NF) (x : Int) (hn : n.size ≤ 1000) : Fn Tryz.prog 78 [pNf n, pI x] (.pv (pWs (waysAt n x))) [] := by
 refine Run78 [] (by simp) ?_
 unfold waysAt NF.size
 by_cases h0 : x < 0
 ·simp only [go_sem, Nat.reduceEqDiff, Nat.reduceAdd, Nat.reduceLeDiff, reduceCtorEq, and_self, M78, h0]
  rw [if_neg (by omega)]; rfl
 ·by_cases h1 : x < n.ways.length
  ·have h2 : x.toNat < n.ways.length := by omega
   rw [if_pos ⟨by omega, h1⟩, getD_ways h2]
   simp only [go_sem, Nat.reduceEqDiff, Nat.reduceAdd, Nat.reduceLeDiff, reduceCtorEq, and_self, M78, h0, show ¬ (n.ways.length : Int) ≤ x by omega, getD_map h2, wf_pWs, show 0 ≤ x by omega, h1]
  ·rw [if_neg (by omega)]
   simp only [go_sem, Nat.reduceEqDiff, Nat.reduceAdd, Nat.reduceLeDiff, reduceCtorEq, and_self, M78, h0, show (n.ways.length : Int) ≤ x by omega]
   rfl
def wayK (sg : List ByteArray) (first : List (Int × Int)) (to s : Nat) : List (Int × Int) := first ++ (List.range s).map fun s : Nat => ((s : Int), (to : Int))
theorem wayK_succ (sg : List ByteArray) (first : List (Int × Int)) (to s : Nat) : wayK sg first to (s + 1) = wayK sg first to s ++ [((s : Int), (to : Int))] := by
 simp [wayK, List.range_succ]
theorem wayK_len (sg : List ByteArray) (first : List (Int × Int)) (to s : Nat) : (wayK sg first to s).length = first.length + s := by simp [wayK]
theorem fn42 (sg : List ByteArray) (W : List PV) (b c : PV) (p : ByteArray) (hd : RisB sg) (hl : sg.length ≤ 1000) (hi : W.length ≤ 1000) :
  Fn Tryz.prog 42 [.agg [ss sg, .lst W, b, c], pS p] (.row 0 0 (wayOf sg W.length p).length) [(2, (wayOf sg W.length p).map pE)] := by
 refine Run42 [true] (by simp) ?_
 generalize hWl : W.length = i at hi
 unfold wayOf
 split
 ·rename_i h
  rw [show ((-1 : Int), ((i + 1 : Nat) : Int)) :: (List.range (sg.length + 1)).map (fun s : Nat => ((s : Int), (i : Int))) = wayK sg [((-1 : Int), ((i + 1 : Nat) : Int))] i (sg.length + 1) from rfl]
  simp only [go_sem, Nat.reduceEqDiff, Nat.reduceBEq, Nat.reduceAdd, Nat.reduceLeDiff, Nat.reduceLT, reduceCtorEq, Int.reduceNeg, and_self, M42, h, hWl]
  refine ⟨⟨by omega, by omega⟩, wf_pE [(-1, (i : Int) + 1)], ⟨by omega, by omega⟩, ?_⟩
  refine run_loop (T := Nat) (fun s => ⟨[(6, .pv (pI i)), (7, .row 2007 0 (1 + s)), (34, .pv (pI ((sg.length : Int) + 1))), (35, .pv (pI s))], [(2007, .sl 2 ((wayK sg [((-1 : Int), ((i + 1 : Nat) : Int))] i s).map pE))]⟩)
   (fun s => s ≤ sg.length + 1) (fun s => sg.length + 1 - s) 0 (by simp [wayK]) (by simp) ?_
  intro s hs
  have tk : ((wayK sg [((-1 : Int), ((i + 1 : Nat) : Int))] i s).map pE).take (1 + s) = (wayK sg [((-1 : Int), ((i + 1 : Nat) : Int))] i s).map pE := List.take_of_length_le (by simp [wayK_len])
  by_cases hlt : s < sg.length + 1
  ·simp only [go_sem, Nat.reduceEqDiff, Nat.reduceAdd, Nat.reduceLeDiff, Nat.reduceLT, Int.reduceNeg, and_self, B42_0, R42_0, show (s : Int) < (sg.length : Int) + 1 by omega, tk]
   refine ⟨⟨wf_pE [((s : Int), (i : Int))], by omega, by omega⟩, ⟨by omega, by omega⟩, s + 1, ?_, by omega, by omega⟩
   rw [wayK_succ, List.map_append]; rfl
  ·have : s = sg.length + 1 := by omega
   subst this
   simp only [go_sem, Nat.reduceEqDiff, Nat.reduceAdd, Nat.reduceLeDiff, Nat.reduceLT, Int.reduceNeg, and_self, B42_0, R42_0, show ¬ (((sg.length + 1 : Nat) : Int) < (sg.length : Int) + 1) by omega, tk]
   exact ⟨by simp, by rw [wayK_len]; rfl⟩
 ·rename_i h
  split
  ·rename_i h2
   rw [show (List.range (sg.length + 1)).map (fun s : Nat => ((s : Int), ((i + 1 : Nat) : Int))) = wayK sg [] (i + 1) (sg.length + 1) from rfl]
   subst h2
   simp only [go_sem, Nat.reduceEqDiff, Nat.reduceBEq, Nat.reduceAdd, Nat.reduceLeDiff, Nat.reduceLT, reduceCtorEq, Int.reduceNeg, and_self, M42, hWl, show ¬ sAny = (⟨#[42, 42]⟩ : ByteArray) by decide]
   refine ⟨⟨by omega, by omega⟩, ⟨by omega, by omega⟩, ?_⟩
   refine run_loop (T := Nat) (fun s => ⟨[(6, .pv (pI ((i : Int) + 1))), (7, .row 2007 0 s), (34, .pv (pI ((sg.length : Int) + 1))), (35, .pv (pI s))], [(2007, .sl 2 ((wayK sg [] (i + 1) s).map pE))]⟩)
    (fun s => s ≤ sg.length + 1) (fun s => sg.length + 1 - s) 0 (by simp [wayK]) (by simp) ?_
   intro s hs
   have tk : ((wayK sg [] (i + 1) s).map pE).take s = (wayK sg [] (i + 1) s).map pE := List.take_of_length_le (by simp [wayK_len])
   by_cases hlt : s < sg.length + 1
   ·simp only [go_sem, Nat.reduceEqDiff, Nat.reduceAdd, Nat.reduceLeDiff, Nat.reduceLT, Int.reduceNeg, and_self, B42_0, R42_0, show (s : Int) < (sg.length : Int) + 1 by omega, tk]
    refine ⟨⟨wf_pE [((s : Int), (i : Int) + 1)], by omega, by omega⟩, ⟨by omega, by omega⟩, s + 1, ?_, by omega, by omega⟩
    rw [wayK_succ, List.map_append]; rfl
   ·have : s = sg.length + 1 := by omega
    subst this
    simp only [go_sem, Nat.reduceEqDiff, Nat.reduceAdd, Nat.reduceLeDiff, Nat.reduceLT, Int.reduceNeg, and_self, B42_0, R42_0, show ¬ (((sg.length + 1 : Nat) : Int) < (sg.length : Int) + 1) by omega, tk]
    exact ⟨by simp, by rw [wayK_len]; simp⟩
  ·rename_i h2
   simp only [go_sem, Nat.reduceEqDiff, Nat.reduceBEq, Nat.reduceAdd, Nat.reduceLeDiff, Nat.reduceLT, reduceCtorEq, Int.reduceNeg, and_self, M42, h, h2, hWl]
   refine ⟨⟨by omega, by omega⟩, ?_⟩
   refine runR_callf (by simp only [go_sem, Nat.reduceEqDiff, and_self]) (by simp only [go_sem, Nat.reduceEqDiff] <;> rfl) (fn57 sg (.lst W) b c p hd hl) ⟨rfl, trivial⟩ trivial ?_
   simp only [go_sem, Nat.reduceEqDiff, Nat.reduceBEq, Nat.reduceAdd, Nat.reduceLeDiff, and_self]
   refine ⟨⟨fun v hv c hc => ?_, ⟨_, rfl⟩⟩, by simp, rfl⟩
   subst hv
   simp only [List.map_cons, List.map_nil, List.mem_cons, List.not_mem_nil, or_false] at hc
   rcases hc with rfl | rfl <;> rfl
end Go.Vc

namespace Go.Vc
open Go.Proofs
set_option linter.unusedSimpArgs false
set_option linter.unusedVariables false
theorem fn26 (a b : List Int) (ha : a.length < 100000) (hb : b.length < 100000) : Fn Tryz.prog 26 [ints a, ints b] (.pv (pB (decide (a = b)))) [] := by
 refine Run26 [] (by simp) ?_
 simp only [go_sem, Nat.reduceEqDiff, reduceCtorEq, and_self, M26]
 refine ⟨fun h => ?_, fun h => ?_⟩
 ·have : a ≠ b := fun e => h (by rw [e])
  simp [this]
 ·have hlm : b.length = a.length := by omega
  refine run_loop (T := Nat) (fun i => ⟨[(0, .pv (ints a)), (1, .pv (ints b)), (5, .pv (pI i))], []⟩) (fun i => i ≤ a.length ∧ a.take i = b.take i) (fun i => a.length - i) 0 rfl ⟨Nat.zero_le _, rfl⟩ ?_
  intro i ⟨hi, hq⟩
  by_cases hlt : i < a.length
  ·have hlt2 : i < b.length := by omega
   simp only [go_sem, Nat.reduceEqDiff, reduceCtorEq, Int.reduceNeg, and_self, B26_0, wf_ints, getD_map hlt, getD_map hlt2, show (i : Int) < (a.length : Int) by omega, show (i : Int) < (b.length : Int) by omega]
   refine ⟨fun hd => ?_, fun hd => ⟨⟨by omega, by omega⟩, i + 1, rfl, ⟨hlt, ?_⟩, by omega⟩⟩
   ·have : a ≠ b := fun e => by subst e; simp at hd
    simp [this]
   ·rw [take_snoc hlt, take_snoc hlt2, hq, hd]
  ·simp only [go_sem, Nat.reduceEqDiff, reduceCtorEq, Int.reduceNeg, and_self, B26_0, R26_0, show ¬ (i : Int) < (a.length : Int) by omega]
   have hie : i = a.length := by omega
   subst hie
   rw [List.take_length, ← hlm, List.take_length] at hq
   simp [hq]
theorem fn26t (a : List Int) (ha : a.length < 100000) : Fn Tryz.prog 26 [ints a, ints a] (.pv (pB true)) [] := by
 have := fn26 a a ha ha
 rwa [show decide (a = a) = true by simp] at this
structure NF.Sm (n : NF) : Prop where
 s : n.signs.length ≤ 1000
 b : n.beg.length ≤ 1000
 w : n.ways.length ≤ 1000
 d : n.done.length ≤ 1000
 ws : ∀ l ∈ n.ways, l.length ≤ 1000
 ds : ∀ l ∈ n.done, l.length ≤ 1000
theorem fn50t (a : List ByteArray) (ha : a.length < 100000) : Fn Tryz.prog 50 [ss a, ss a] (.pv (pB true)) [] := by
 have := fn50 a a ha ha
 rwa [show decide (a = a) = true by simp] at this
def meetN (bs : List ByteArray) (t : ByteArray) (i : Nat) : List Nat := (List.range i).filter fun j => meetsB (bs.getD j ⟨#[]⟩) t
theorem meetN_succ (bs : List ByteArray) (t : ByteArray) (i : Nat) : meetN bs t (i + 1) = meetN bs t i ++ (if meetsB (bs.getD i ⟨#[]⟩) t = true then [i] else []) := by
 unfold meetN
 rw [List.range_succ, List.filter_append]
 cases h : meetsB (bs.getD i ⟨#[]⟩) t <;> simp only [List.filter_cons, List.filter_nil, h, if_true, Bool.false_eq_true, if_false]
theorem toI_app (a b : List Nat) : toI (a ++ b) = toI a ++ toI b := by simp [toI]
theorem meetN_len (bs : List ByteArray) (t : ByteArray) (i : Nat) : (meetN bs t i).length ≤ i := by
 have := List.length_filter_le (fun j => meetsB (bs.getD j ⟨#[]⟩) t) (List.range i)
 simpa [meetN] using this
theorem toI_len (l : List Nat) : (toI l).length = l.length := by simp [toI]
theorem fn28 (bs : List ByteArray) (t : ByteArray) (hb : bs.length ≤ 1000) (hs : ∀ b ∈ bs, b.size ≤ 1000) (ht : t.size ≤ 1000) : Fn Tryz.prog 28 [ss bs, pS t] (.pv (pNs (meetN bs t bs.length))) [] := by
 refine Run28 [] (by simp) ?_
 simp only [go_sem, Nat.reduceEqDiff, Nat.reduceLT, reduceCtorEq, and_self, M28]
 refine run_loop (T := Nat) (fun i => ⟨[(0, .pv (ss bs)), (1, .pv (pS t)), (5, .row 2005 0 (meetN bs t i).length), (6, .pv (pI i))], [(2005, .sl 1 ((toI (meetN bs t i)).map fun n => pI n))]⟩) (fun i => i ≤ bs.length) (fun i => bs.length - i) 0 rfl (Nat.zero_le _) ?_
 intro i hi
 have hln := meetN_len bs t i
 have tk : ((toI (meetN bs t i)).map fun n => pI n).take (meetN bs t i).length = (toI (meetN bs t i)).map fun n => pI n := List.take_of_length_le (by simp [toI])
 by_cases hlt : i < bs.length
 ·simp only [go_sem, Nat.reduceEqDiff, reduceCtorEq, and_self, B28_0, wf_ss, getD_map hlt, show (i : Int) < (bs.length : Int) by omega]
  refine runR_callf (by simp only [go_sem, Nat.reduceEqDiff, reduceCtorEq, and_self]) (by simp only [go_sem, Nat.reduceEqDiff, reduceCtorEq] <;> rfl) (fn58 bs[i] t (hs _ (List.getElem_mem hlt)) ht) ⟨rfl, trivial⟩ trivial ?_
  simp only [go_sem, Nat.reduceEqDiff, Nat.reduceLeDiff, Nat.reduceLT, reduceCtorEq, Int.reduceNeg, and_self, tk]
  have hsc := meetN_succ bs t i
  rw [show bs.getD i ⟨#[]⟩ = bs[i] by simp [List.getD_eq_getElem?_getD, hlt]] at hsc
  refine ⟨fun h => ⟨⟨wf_ints [(i : Int)], by omega, by omega⟩, ⟨by omega, by omega⟩, i + 1, ?_, hlt, by omega⟩, fun h => ⟨⟨by omega, by omega⟩, i + 1, ?_, hlt, by omega⟩⟩
  ·rw [h] at hsc
   simp only [if_true] at hsc
   rw [hsc, toI_app, List.map_append, List.length_append]; rfl
  ·rw [h] at hsc
   simp only [Bool.false_eq_true, if_false, List.append_nil] at hsc
   rw [hsc]; rfl
 ·simp only [go_sem, Nat.reduceEqDiff, reduceCtorEq, and_self, B28_0, R28_0, show ¬ (i : Int) < (bs.length : Int) by omega, tk]
  rw [show i = bs.length by omega]
def globsS (bs : List ByteArray) : List ByteArray := (bs.take 21).map fewS
theorem globsS_len (bs : List ByteArray) : (globsS bs).length ≤ 21 := by simp [globsS]; omega
theorem globsS_size {bs : List ByteArray} {b : ByteArray} (h : b ∈ globsS bs) : b.size ≤ 60 := by
 obtain ⟨c, _, rfl⟩ := List.mem_map.1 h
 exact fewS_size c
theorem fn21 (bs : List ByteArray) (hb : bs.length ≤ 9223372036854775807) : Fn Tryz.prog 21 [ss bs] (.pv (ss (globsS bs))) [] := by
 refine Run21 [] (by simp) ?_
 simp only [go_sem, Nat.reduceEqDiff, Nat.reduceLT, reduceCtorEq, and_self, M21]
 refine run_loop (T := Nat) (fun i => ⟨[(0, .pv (ss bs)), (3, .row 2003 0 i), (4, .pv (pI i))], [(2003, .sl 1 (((bs.take i).map fewS).map pS))]⟩) (fun i => i ≤ bs.length ∧ i ≤ 21) (fun i => 21 - i) 0 (by simp) ⟨Nat.zero_le _, by omega⟩ ?_
 rintro i ⟨hi, hi2⟩
 have tk : (((bs.take i).map fewS).map pS).take i = ((bs.take i).map fewS).map pS := List.take_of_length_le (by simp; omega)
 by_cases hlt : i < bs.length
 ·by_cases h21 : i < 21
  ·simp only [go_sem, Nat.reduceEqDiff, reduceCtorEq, and_self, B21_0, wf_ss, getD_map hlt, show (i : Int) < (bs.length : Int) by omega, show (i : Int) < 21 by omega]
   refine runR_callf (by simp only [go_sem, Nat.reduceEqDiff, reduceCtorEq, and_self]) (by simp only [go_sem, Nat.reduceEqDiff, reduceCtorEq] <;> rfl) (fn17 bs[i]) ⟨rfl, trivial⟩ trivial ?_
   simp only [go_sem, Nat.reduceEqDiff, Nat.reduceLeDiff, Nat.reduceLT, reduceCtorEq, Int.reduceNeg, and_self, tk]
   refine ⟨⟨wf_ss [fewS bs[i]], by omega, by omega⟩, ⟨by omega, by omega⟩, i + 1, ?_, ⟨hlt, by omega⟩, by omega⟩
   rw [List.take_succ_eq_append_getElem hlt, List.map_append, List.map_append]; rfl
  ·simp only [go_sem, Nat.reduceEqDiff, reduceCtorEq, and_self, B21_0, R21_0, show (i : Int) < (bs.length : Int) by omega, show ¬ (i : Int) < 21 by omega, tk]
   rw [show i = 21 by omega]; rfl
 ·simp only [go_sem, Nat.reduceEqDiff, reduceCtorEq, and_self, B21_0, R21_0, show ¬ (i : Int) < (bs.length : Int) by omega, tk]
  unfold globsS
  rw [List.take_of_length_le (show bs.length ≤ i by omega), List.take_of_length_le (show bs.length ≤ 21 by omega)]
end Go.Vc
