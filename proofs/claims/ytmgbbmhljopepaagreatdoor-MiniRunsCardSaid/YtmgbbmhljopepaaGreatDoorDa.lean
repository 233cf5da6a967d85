/- A part of the proofs of the seat YtmgbbmhljopepaaGreatDoor: the contracts of functions, each proved out of its code. -/
import Derived.Test.YtmgbbmhljopepaaGreatDoorVh
import Derived.Test.YtmgbbmhljopepaaGreatDoorProg
import Derived.Test.YtmgbbmhljopepaaGreatDoorNa
import Derived.Shelf.Strings.Search2
import Derived.Shelf.Strings.Count
import Derived.Shelf.Small.Strs
namespace Go.Vc
open Go.Proofs
set_option maxRecDepth 100000
def M17 : MC := (.seq (.reg [⟨some 2, none, .q (.mv (.c (.string ⟨#[]⟩)))⟩] [] [0] []) (.seq (.seq (.reg [⟨some 3, none, .q (.mv (.t 0))⟩, ⟨some 4, none, .q (.len (.t 3) true)⟩, ⟨some 5,
 none, .q (.bin .gtr (.t 4) (.c (.int .i64 60)))⟩] [] [0, 5] []) (.cond (.t 5) (.seq (.reg [⟨some 6, none, .q (.mv (.t 0))⟩, ⟨some 7, none, .q (.slc (.t 6) none (some (.c (.int .i64 60)))
 0 true)⟩, ⟨some 2, none, .q (.mv (.t 7))⟩] [] [2] []) .ret) .skip)) (.seq (.reg [⟨some 8, none, .q (.mv (.t 0))⟩, ⟨some 2, none, .q (.mv (.t 8))⟩] [] [2] []) .ret)))
theorem mc17 : ofCode Tryz.prog [] Tryz.f17.ntmps [(0, ⟨[0], [], [], 0, [], none⟩),
  (1, ⟨[0, 5], [], [], 0, [], none⟩),
  (2, ⟨[2], [], [], 0, [], none⟩),
  (3, ⟨[2], [], [], 0, [], none⟩)] (Tryz.f17.body.getD .skip) = some M17 := by kernel_rfl
theorem Run17 {args : List PV} {v : AV} {rs : List (Nat × List PV)} (ids : List Bool) (h : args.length ≤ 9) (hv : run Tryz.prog (retK [RV.tmp 2] ids v rs) M17 [] ⟨entry 0 args, []⟩) : Fn Tryz.prog 17 args v rs :=
 Fn_run ids (by kernel_rfl) Tryz.func17 (by decide) rfl mc17 (by kernel_rfl) (by rw [Tryz.ntmps17]; exact h) (by rw [Tryz.ntmps17]; decide) hv
def M56 : MC := (.seq (.reg [⟨some 2, none, .q (.mv (.c (.bool false)))⟩] [] [0] []) (.seq (.reg [⟨some 3, none, .q (.mv (.t 0))⟩, ⟨some 4, none, .call (.f 72) [.t 3, .f 74]⟩,
 ⟨some 2, none, .q (.mv (.t 4))⟩] [] [2] [1004]) .ret))
theorem mc56 : ofCode Tryz.prog [] Tryz.f56.ntmps [(0, ⟨[0], [], [], 0, [], none⟩),
  (1, ⟨[2], [1004], [], 0, [], none⟩)] (Tryz.f56.body.getD .skip) = some M56 := by kernel_rfl
theorem Run56 {args : List PV} {v : AV} {rs : List (Nat × List PV)} (ids : List Bool) (h : args.length ≤ 5) (hv : run Tryz.prog (retK [RV.tmp 2] ids v rs) M56 [] ⟨entry 0 args, []⟩) : Fn Tryz.prog 56 args v rs :=
 Fn_run ids (by kernel_rfl) Tryz.func56 (by decide) rfl mc56 (by kernel_rfl) (by rw [Tryz.ntmps56]; exact h) (by rw [Tryz.ntmps56]; decide) hv
def M39 : MC := (.seq (.reg [⟨some 2, none, .q (.mv (.c (.bool false)))⟩] [] [0] []) (.seq (.reg [⟨some 3, none, .q (.mv (.t 0))⟩, ⟨some 4, none, .call (.f 72) [.t 3, .f 73]⟩,
 ⟨some 2, none, .q (.mv (.t 4))⟩] [] [2] [1004]) .ret))
theorem mc39 : ofCode Tryz.prog [] Tryz.f39.ntmps [(0, ⟨[0], [], [], 0, [], none⟩),
  (1, ⟨[2], [1004], [], 0, [], none⟩)] (Tryz.f39.body.getD .skip) = some M39 := by kernel_rfl
theorem Run39 {args : List PV} {v : AV} {rs : List (Nat × List PV)} (ids : List Bool) (h : args.length ≤ 5) (hv : run Tryz.prog (retK [RV.tmp 2] ids v rs) M39 [] ⟨entry 0 args, []⟩) : Fn Tryz.prog 39 args v rs :=
 Fn_run ids (by kernel_rfl) Tryz.func39 (by decide) rfl mc39 (by kernel_rfl) (by rw [Tryz.ntmps39]; exact h) (by rw [Tryz.ntmps39]; decide) hv
def M41 : MC := (.seq (.reg [⟨some 2, none, .q (.mv .nil)⟩] [] [0] []) (.seq (.seq (.reg [⟨some 3, none, .q (.mv (.t 0))⟩, ⟨some 4, none, .call (.f 39) [.t 3]⟩, ⟨some 5, none,
 .q (.not (.t 4))⟩] [] [0, 5] [1004]) (.cond (.t 5) (.seq (.reg [⟨some 2, none, .q (.mv .nil)⟩] [] [2] [1007]) .ret) .skip)) (.seq (.reg [⟨some 6, none, .q (.mv (.t 0))⟩, ⟨some 7, none,
 .call (.f 63) [.t 6, .c (.string ⟨#[46]⟩)]⟩, ⟨some 2, none, .q (.mv (.t 7))⟩] [] [2] [1007]) .ret)))
theorem mc41 : ofCode Tryz.prog [] Tryz.f41.ntmps [(0, ⟨[0], [], [], 0, [], none⟩),
  (1, ⟨[0, 5], [1004], [], 0, [], none⟩),
  (2, ⟨[2], [1007], [], 0, [], none⟩),
  (3, ⟨[2], [1007], [], 0, [], none⟩)] (Tryz.f41.body.getD .skip) = some M41 := by kernel_rfl
theorem Run41 {args : List PV} {v : AV} {rs : List (Nat × List PV)} (ids : List Bool) (h : args.length ≤ 8) (hv : run Tryz.prog (retK [RV.tmp 2] ids v rs) M41 [] ⟨entry 0 args, []⟩) : Fn Tryz.prog 41 args v rs :=
 Fn_run ids (by kernel_rfl) Tryz.func41 (by decide) rfl mc41 (by kernel_rfl) (by rw [Tryz.ntmps41]; exact h) (by rw [Tryz.ntmps41]; decide) hv
def M63 : MC := (.seq (.reg [⟨some 4, none, .q (.mv .nil)⟩] [] [0, 1] []) (.seq (.reg [⟨some 5, none, .q (.mv (.t 0))⟩, ⟨some 6, none, .q (.mv (.t 1))⟩, ⟨some 7, none, .call (.f 91)
 [.t 5, .t 6, .c (.int .i64 0), .c (.int .i64 (-1))]⟩, ⟨some 4, none, .q (.mv (.t 7))⟩] [] [4] [1007]) .ret))
theorem mc63 : ofCode Tryz.prog [] Tryz.f63.ntmps [(0, ⟨[0, 1], [], [], 0, [], none⟩),
  (1, ⟨[4], [1007], [], 0, [], none⟩)] (Tryz.f63.body.getD .skip) = some M63 := by kernel_rfl
theorem Run63 {args : List PV} {v : AV} {rs : List (Nat × List PV)} (ids : List Bool) (h : args.length ≤ 8) (hv : run Tryz.prog (retK [RV.tmp 4] ids v rs) M63 [] ⟨entry 0 args, []⟩) : Fn Tryz.prog 63 args v rs :=
 Fn_run ids (by kernel_rfl) Tryz.func63 (by decide) rfl mc63 (by kernel_rfl) (by rw [Tryz.ntmps63]; exact h) (by rw [Tryz.ntmps63]; decide) hv
def B72_0 : MC := (.seq (.reg [⟨some 12, none, .q (.bin .lss (.t 11) (.c (.int .i64 8)))⟩] [] [0, 1, 11, 12] [1015]) (.seq (.cond (.t 12) .skip (.exit 0)) (.seq (.block 1 (.seq (.reg [⟨some 14,
 none, .q (.mv (.t 0))⟩, ⟨some 15, none, .call (.f 102) [.t 14, .c (.string ⟨#[46]⟩)]⟩, ⟨some 13, none, .q (.mv (.t 15))⟩, ⟨some 16, none, .q (.ext (.t 13) 0)⟩, ⟨some 17, none,
 .q (.ext (.t 13) 1)⟩, ⟨some 18, none, .q (.ext (.t 13) 2)⟩, ⟨some 5, none, .q (.mv (.t 16))⟩, ⟨some 6, none, .q (.mv (.t 17))⟩, ⟨some 7, none, .q (.mv (.t 18))⟩] [] [1, 5, 6, 7,
 11] [1015]) (.seq (.seq (.reg [⟨some 19, none, .q (.mv (.t 1))⟩, ⟨some 20, none, .q (.mv (.t 5))⟩, ⟨some 21, none, .call (.t 19) [.t 20]⟩, ⟨some 22, none,
 .q (.not (.t 21))⟩] [] [1, 6, 7, 11, 22] [1015, 1021]) (.cond (.t 22) (.seq (.reg [⟨some 4, none, .q (.mv (.c (.bool false)))⟩] [] [4] []) .ret) .skip)) (.seq (.seq (.reg [⟨some 23, none,
 .q (.mv (.t 7))⟩, ⟨some 24, none, .q (.not (.t 23))⟩] [] [1, 6, 11, 24] [1015]) (.cond (.t 24) (.seq (.reg [⟨some 4, none, .q (.mv (.c (.bool true)))⟩] [] [4] []) .ret) .skip))
 (.reg [⟨some 25, none, .q (.mv (.t 6))⟩, ⟨some 0, none, .q (.mv (.t 25))⟩] [] [0, 1, 11] [1015]))))) (.reg [⟨some 26, none, .q (.bin .add (.t 11) (.c (.int .i64 1)))⟩, ⟨some 11, none,
 .q (.mv (.t 26))⟩] [] [0, 1, 11] [1015]))))
def R72_0 : MC := (.seq (.reg [⟨some 4, none, .q (.mv (.c (.bool false)))⟩] [] [4] []) .ret)
def M72 : MC := (.seq (.reg [⟨some 4, none, .q (.mv (.c (.bool false)))⟩] [] [0, 1] [1015]) (.seq (.seq (.reg [⟨some 8, none, .q (.mv (.t 0))⟩, ⟨some 9, none, .q (.len (.t 8) true)⟩,
 ⟨some 10, none, .q (.bin .gtr (.t 9) (.c (.int .i64 40)))⟩] [] [0, 1, 10] [1015]) (.cond (.t 10) (.seq (.reg [⟨some 4, none, .q (.mv (.c (.bool false)))⟩] [] [4] []) .ret) .skip))
 (.seq (.seq (.reg [⟨some 11, none, .q (.mv (.c (.int .i64 0)))⟩] [] [0, 1, 11] [1015]) (.block 0 (.loop B72_0))) R72_0)))
theorem mc72 : ofCode Tryz.prog [] Tryz.f72.ntmps [(0, ⟨[0, 1], [1015], [], 0, [], none⟩),
  (1, ⟨[0, 1, 10], [1015], [], 0, [], none⟩),
  (2, ⟨[4], [], [], 0, [], none⟩),
  (3, ⟨[0, 1, 11], [1015], [], 0, [], none⟩),
  (4, ⟨[0, 1, 11, 12], [1015], [], 0, [], none⟩),
  (5, ⟨[1, 5, 6, 7, 11], [1015], [], 0, [], none⟩),
  (6, ⟨[1, 6, 7, 11, 22], [1015, 1021], [], 0, [], none⟩),
  (7, ⟨[4], [], [], 0, [], none⟩),
  (8, ⟨[1, 6, 11, 24], [1015], [], 0, [], none⟩),
  (9, ⟨[4], [], [], 0, [], none⟩),
  (10, ⟨[0, 1, 11], [1015], [], 0, [], none⟩),
  (11, ⟨[0, 1, 11], [1015], [], 0, [], none⟩),
  (12, ⟨[4], [], [], 0, [], none⟩)] (Tryz.f72.body.getD .skip) = some M72 := by kernel_rfl
theorem Run72 {args : List PV} {v : AV} {rs : List (Nat × List PV)} (ids : List Bool) (h : args.length ≤ 27) (hv : run Tryz.prog (retK [RV.tmp 4] ids v rs) M72 [] ⟨entry 0 args, []⟩) : Fn Tryz.prog 72 args v rs :=
 Fn_run ids (by kernel_rfl) Tryz.func72 (by decide) rfl mc72 (by kernel_rfl) (by rw [Tryz.ntmps72]; exact h) (by rw [Tryz.ntmps72]; decide) hv
def B74_0 : MC := (.seq (.reg [⟨some 8, none, .nxts (.t 7)⟩, ⟨some 9, none, .q (.ext (.t 8) 0)⟩] [] [0, 3, 7, 8, 9] [7]) (.seq (.cond (.t 9) .skip (.exit 0)) (.block 1 (.seq (.reg [⟨some 10,
 none, .q (.ext (.t 8) 2)⟩, ⟨some 5, none, .q (.mv (.t 10))⟩] [] [0, 3, 5, 7] [7]) (.seq (.reg [⟨some 11, none, .q (.mv (.t 3))⟩, ⟨some 12, none, .q (.mv (.t 5))⟩, ⟨some 13, none,
 .call (.t 11) [.t 12]⟩, ⟨some 14, none, .q (.not (.t 13))⟩] [] [0, 3, 7, 14] [7, 1013]) (.cond (.t 14) (.seq (.reg [⟨some 2, none, .q (.mv (.c (.bool false)))⟩] [] [2] []) .ret)
 .skip))))))
def R74_0 : MC := (.seq (.reg [⟨some 15, none, .q (.mv (.t 0))⟩, ⟨some 16, none, .q (.bin .neq (.t 15) (.c (.string ⟨#[]⟩)))⟩, ⟨some 2, none, .q (.mv (.t 16))⟩] [] [2] []) .ret)
def M74 : MC := (.seq (.reg [⟨some 2, none, .q (.mv (.c (.bool false)))⟩] [] [0] []) (.seq (.reg [⟨some 3, none, .q (.mv (.f 103))⟩] [] [0, 3] []) (.seq (.seq (.reg [⟨some 6, none,
 .q (.mv (.t 0))⟩, ⟨some 7, none, .rngs (.t 6)⟩] [] [0, 3, 7] [7]) (.block 0 (.loop B74_0))) R74_0)))
theorem mc74 : ofCode Tryz.prog [] Tryz.f74.ntmps [(0, ⟨[0], [], [], 0, [], none⟩),
  (1, ⟨[0, 3], [], [], 0, [], none⟩),
  (2, ⟨[0, 3, 7], [7], [], 0, [], none⟩),
  (3, ⟨[0, 3, 7, 8, 9], [7], [], 0, [], none⟩),
  (4, ⟨[0, 3, 5, 7], [7], [], 0, [], none⟩),
  (5, ⟨[0, 3, 7, 14], [7, 1013], [], 0, [], none⟩),
  (6, ⟨[2], [], [], 0, [], none⟩),
  (7, ⟨[2], [], [], 0, [], none⟩)] (Tryz.f74.body.getD .skip) = some M74 := by kernel_rfl
theorem Run74 {args : List PV} {v : AV} {rs : List (Nat × List PV)} (ids : List Bool) (h : args.length ≤ 17) (hv : run Tryz.prog (retK [RV.tmp 2] ids v rs) M74 [] ⟨entry 0 args, []⟩) : Fn Tryz.prog 74 args v rs :=
 Fn_run ids (by kernel_rfl) Tryz.func74 (by decide) rfl mc74 (by kernel_rfl) (by rw [Tryz.ntmps74]; exact h) (by rw [Tryz.ntmps74]; decide) hv
def M73 : MC := (.seq (.reg [⟨some 2, none, .q (.mv (.c (.bool false)))⟩] [] [0] []) (.seq (.reg [⟨some 3, none, .q (.mv (.t 0))⟩, ⟨some 4, none, .q (.bin .eql (.t 3)
 (.c (.string ⟨#[42]⟩)))⟩, ⟨some 5, none, .q (.mv (.t 4))⟩, ⟨some 6, some (5, false), .q (.mv (.t 0))⟩, ⟨some 7, some (5, false), .q (.bin .eql (.t 6) (.c (.string ⟨#[42, 42]⟩)))⟩,
 ⟨some 8, none, .q (.pick (.t 5) (.c (.bool true)) (.t 7))⟩, ⟨some 9, none, .q (.mv (.t 8))⟩, ⟨some 10, some (9, false), .q (.mv (.t 0))⟩, ⟨some 11, some (9, false), .call (.f 74)
 [.t 10]⟩, ⟨some 12, none, .q (.pick (.t 9) (.c (.bool true)) (.t 11))⟩, ⟨some 2, none, .q (.mv (.t 12))⟩] [] [2] [1011]) .ret))
theorem mc73 : ofCode Tryz.prog [] Tryz.f73.ntmps [(0, ⟨[0], [], [], 0, [], none⟩),
  (1, ⟨[2], [1011], [], 0, [], none⟩)] (Tryz.f73.body.getD .skip) = some M73 := by kernel_rfl
theorem Run73 {args : List PV} {v : AV} {rs : List (Nat × List PV)} (ids : List Bool) (h : args.length ≤ 13) (hv : run Tryz.prog (retK [RV.tmp 2] ids v rs) M73 [] ⟨entry 0 args, []⟩) : Fn Tryz.prog 73 args v rs :=
 Fn_run ids (by kernel_rfl) Tryz.func73 (by decide) rfl mc73 (by kernel_rfl) (by rw [Tryz.ntmps73]; exact h) (by rw [Tryz.ntmps73]; decide) hv
def B91_0 : MC := (.seq (.seq (.reg [⟨some 34, none, .q (.mv (.t 10))⟩, ⟨some 35, none, .q (.mv (.t 3))⟩, ⟨some 36, none, .q (.bin .lss (.t 34) (.t 35))⟩] [] [0, 1, 2, 3, 9, 10, 36] [31,
 1023, 1039]) (.cond (.t 36) .skip (.exit 0))) (.block 1 (.seq (.reg [⟨some 37, none, .q (.mv (.t 0))⟩, ⟨some 38, none, .q (.mv (.t 1))⟩, ⟨some 39, none, .call (.f 111) [.t 37,
 .t 38]⟩, ⟨some 11, none, .q (.mv (.t 39))⟩] [] [0, 1, 2, 3, 9, 10, 11] [31, 1023, 1039]) (.seq (.seq (.reg [⟨some 40, none, .q (.mv (.t 11))⟩, ⟨some 41, none, .q (.bin .lss (.t 40)
 (.c (.int .i64 0)))⟩] [] [0, 1, 2, 3, 9, 10, 11, 41] [31, 1023, 1039]) (.cond (.t 41) (.exit 0) .skip)) (.seq (.reg [⟨some 42, none, .q (.mv (.t 9))⟩, ⟨some 43, none, .q (.mv (.t 10))⟩,
 ⟨some 44, none, .q (.mv (.t 0))⟩, ⟨some 45, none, .q (.mv (.t 11))⟩, ⟨some 46, none, .q (.mv (.t 2))⟩, ⟨some 47, none, .q (.bin .add (.t 45) (.t 46))⟩, ⟨some 48, none,
 .q (.slc (.t 44) none (some (.t 47)) 0 true)⟩, ⟨some 49, none, .q (.ia (.t 42) (.t 43) 1)⟩, ⟨none, none, .st (.t 49) (.t 48) 1⟩] [] [0, 1, 2, 3, 9, 10, 11] [31, 1023, 1039])
 (.seq (.reg [⟨some 50, none, .q (.mv (.t 0))⟩, ⟨some 51, none, .q (.mv (.t 11))⟩, ⟨some 52, none, .q (.mv (.t 1))⟩, ⟨some 53, none, .q (.len (.t 52) true)⟩, ⟨some 54, none,
 .q (.bin .add (.t 51) (.t 53))⟩, ⟨some 55, none, .q (.slc (.t 50) (some (.t 54)) none 0 true)⟩, ⟨some 0, none, .q (.mv (.t 55))⟩] [] [0, 1, 2, 3, 9, 10] [31, 1023, 1039])
 (.reg [⟨some 56, none, .q (.mv (.t 10))⟩, ⟨some 57, none, .q (.bin .add (.t 56) (.c (.int .i64 1)))⟩, ⟨some 10, none, .q (.mv (.t 57))⟩] [] [0, 1, 2, 3, 9, 10] [31, 1023, 1039])))))))
def R91_0 : MC := (.seq (.reg [⟨some 58, none, .q (.mv (.t 9))⟩, ⟨some 59, none, .q (.mv (.t 10))⟩, ⟨some 60, none, .q (.mv (.t 0))⟩, ⟨some 61, none, .q (.ia (.t 58) (.t 59) 1)⟩,
 ⟨none, none, .st (.t 61) (.t 60) 1⟩] [] [9, 10] [31, 1039]) (.seq (.reg [⟨some 62, none, .q (.mv (.t 9))⟩, ⟨some 63, none, .q (.mv (.t 10))⟩, ⟨some 64, none, .q (.bin .add (.t 63)
 (.c (.int .i64 1)))⟩, ⟨some 65, none, .q (.slc (.t 62) none (some (.t 64)) 1 false)⟩, ⟨some 8, none, .q (.mv (.t 65))⟩] [] [8] [31, 1018, 1039]) .ret))
def M91 : MC := (.seq (.reg [⟨some 8, none, .q (.mv .nil)⟩] [] [0, 1, 2, 3] [1023, 1039]) (.seq (.seq (.reg [⟨some 12, none, .q (.mv (.t 3))⟩, ⟨some 13, none, .q (.bin .eql (.t 12)
 (.c (.int .i64 0)))⟩] [] [0, 1, 2, 3, 13] [1023, 1039]) (.cond (.t 13) (.seq (.reg [⟨some 8, none, .q (.mv .nil)⟩] [] [8] [31, 1018, 1039]) .ret) .skip)) (.seq (.seq (.reg [⟨some 14, none,
 .q (.mv (.t 1))⟩, ⟨some 15, none, .q (.bin .eql (.t 14) (.c (.string ⟨#[]⟩)))⟩] [] [0, 1, 2, 3, 15] [1023, 1039]) (.cond (.t 15) (.seq (.reg [⟨some 16, none, .q (.mv (.t 0))⟩, ⟨some 17,
 none, .q (.mv (.t 3))⟩, ⟨some 18, none, .call (.f 112) [.t 16, .t 17]⟩, ⟨some 8, none, .q (.mv (.t 18))⟩] [] [8] [31, 1018, 1039]) .ret) .skip)) (.seq (.seq (.reg [⟨some 19, none,
 .q (.mv (.t 3))⟩, ⟨some 20, none, .q (.bin .lss (.t 19) (.c (.int .i64 0)))⟩] [] [0, 1, 2, 3, 20] [1023, 1039]) (.cond (.t 20) (.reg [⟨some 21, none, .q (.mv (.t 0))⟩, ⟨some 22, none,
 .q (.mv (.t 1))⟩, ⟨some 23, none, .call (.f 113) [.t 21, .t 22]⟩, ⟨some 24, none, .q (.bin .add (.t 23) (.c (.int .i64 1)))⟩, ⟨some 3, none, .q (.mv (.t 24))⟩] [] [0, 1, 2,
 3] [1023, 1039]) .skip)) (.seq (.reg [⟨some 25, none, .q (.mv (.t 3))⟩, ⟨some 26, none, .q (.mv (.t 0))⟩, ⟨some 27, none, .q (.len (.t 26) true)⟩, ⟨some 28, none,
 .q (.bin .add (.t 27) (.c (.int .i64 1)))⟩, ⟨some 29, none, .q (.mm false (.t 25) (.t 28))⟩, ⟨some 3, none, .q (.mv (.t 29))⟩] [] [0, 1, 2, 3] [1023, 1039]) (.seq (.reg [⟨some 30, none,
 .q (.mv (.t 3))⟩, ⟨some 31, none, .mks (.t 30) (.t 30) 1 16 (.sc (.string ⟨#[]⟩))⟩, ⟨some 9, none, .q (.mv (.t 31))⟩] [] [0, 1, 2, 3, 9] [31, 1023, 1039]) (.seq (.reg [⟨some 32, none,
 .q (.mv (.t 3))⟩, ⟨some 33, none, .q (.bin .sub (.t 32) (.c (.int .i64 1)))⟩, ⟨some 3, none, .q (.mv (.t 33))⟩] [] [0, 1, 2, 3, 9] [31, 1023, 1039]) (.seq (.reg [⟨some 10, none,
 .q (.mv (.c (.int .i64 0)))⟩] [] [0, 1, 2, 3, 9, 10] [31, 1023, 1039]) (.seq (.block 0 (.loop B91_0)) R91_0)))))))))
theorem mc91 : ofCode Tryz.prog [] Tryz.f91.ntmps [(0, ⟨[0, 1, 2, 3], [1023, 1039], [], 0, [], none⟩),
  (1, ⟨[0, 1, 2, 3, 13], [1023, 1039], [], 0, [], none⟩),
  (2, ⟨[8], [31, 1018, 1039], [], 0, [], none⟩),
  (3, ⟨[0, 1, 2, 3, 15], [1023, 1039], [], 0, [], none⟩),
  (4, ⟨[8], [31, 1018, 1039], [], 0, [], none⟩),
  (5, ⟨[0, 1, 2, 3, 20], [1023, 1039], [], 0, [], none⟩),
  (6, ⟨[0, 1, 2, 3], [1023, 1039], [], 0, [], none⟩),
  (7, ⟨[0, 1, 2, 3], [1023, 1039], [], 0, [], none⟩),
  (8, ⟨[0, 1, 2, 3, 9], [31, 1023, 1039], [], 0, [], none⟩),
  (9, ⟨[0, 1, 2, 3, 9], [31, 1023, 1039], [], 0, [], none⟩),
  (10, ⟨[0, 1, 2, 3, 9, 10], [31, 1023, 1039], [], 0, [], none⟩),
  (11, ⟨[0, 1, 2, 3, 9, 10, 36], [31, 1023, 1039], [], 0, [], none⟩),
  (12, ⟨[0, 1, 2, 3, 9, 10, 11], [31, 1023, 1039], [], 0, [], none⟩),
  (13, ⟨[0, 1, 2, 3, 9, 10, 11, 41], [31, 1023, 1039], [], 0, [], none⟩),
  (14, ⟨[0, 1, 2, 3, 9, 10, 11], [31, 1023, 1039], [], 0, [], none⟩),
  (15, ⟨[0, 1, 2, 3, 9, 10], [31, 1023, 1039], [], 0, [], none⟩),
  (16, ⟨[0, 1, 2, 3, 9, 10], [31, 1023, 1039], [], 0, [], none⟩),
  (17, ⟨[9, 10], [31, 1039], [], 0, [], none⟩),
  (18, ⟨[8], [31, 1018, 1039], [], 0, [], none⟩)] (Tryz.f91.body.getD .skip) = some M91 := by kernel_rfl
theorem Run91 {args : List PV} {v : AV} {rs : List (Nat × List PV)} (ids : List Bool) (h : args.length ≤ 66) (hv : run Tryz.prog (retK [RV.tmp 8] ids v rs) M91 [] ⟨entry 0 args, []⟩) : Fn Tryz.prog 91 args v rs :=
 Fn_run ids (by kernel_rfl) Tryz.func91 (by decide) rfl mc91 (by kernel_rfl) (by rw [Tryz.ntmps91]; exact h) (by rw [Tryz.ntmps91]; decide) hv
def M102 : MC := (.seq (.reg [⟨some 4, none, .q (.mv (.c (.string ⟨#[]⟩)))⟩, ⟨some 5, none, .q (.mv (.c (.string ⟨#[]⟩)))⟩, ⟨some 6, none, .q (.mv (.c (.bool false)))⟩] [] [0, 1] [])
 (.seq (.reg [⟨some 7, none, .q (.mv (.t 0))⟩, ⟨some 8, none, .q (.mv (.t 1))⟩, ⟨some 9, none, .call (.f 118) [.t 7, .t 8]⟩, ⟨some 10, none, .q (.ext (.t 9) 0)⟩, ⟨some 11, none,
 .q (.ext (.t 9) 1)⟩, ⟨some 12, none, .q (.ext (.t 9) 2)⟩, ⟨some 4, none, .q (.mv (.t 10))⟩, ⟨some 5, none, .q (.mv (.t 11))⟩, ⟨some 6, none, .q (.mv (.t 12))⟩] [] [4, 5, 6] [1009])
 .ret))
theorem mc102 : ofCode Tryz.prog [] Tryz.f102.ntmps [(0, ⟨[0, 1], [], [], 0, [], none⟩),
  (1, ⟨[4, 5, 6], [1009], [], 0, [], none⟩)] (Tryz.f102.body.getD .skip) = some M102 := by kernel_rfl
theorem Run102 {args : List PV} {v : AV} {rs : List (Nat × List PV)} (ids : List Bool) (h : args.length ≤ 13) (hv : run Tryz.prog (retK [RV.tmp 4, RV.tmp 5, RV.tmp 6] ids v rs) M102 [] ⟨entry 0 args, []⟩) : Fn Tryz.prog 102 args v rs :=
 Fn_run ids (by kernel_rfl) Tryz.func102 (by decide) rfl mc102 (by kernel_rfl) (by rw [Tryz.ntmps102]; exact h) (by rw [Tryz.ntmps102]; decide) hv
def M103 : MC := (.seq (.reg [⟨some 2, none, .q (.mv (.c (.bool false)))⟩] [] [0] []) (.seq (.reg [⟨some 3, none, .q (.mv (.t 0))⟩, ⟨some 4, none, .q (.bin .geq (.t 3)
 (.c (.int .i32 97)))⟩, ⟨some 5, none, .q (.mv (.t 4))⟩, ⟨some 6, some (5, true), .q (.mv (.t 0))⟩, ⟨some 7, some (5, true), .q (.bin .leq (.t 6) (.c (.int .i32 122)))⟩, ⟨some 8,
 none, .q (.pick (.t 5) (.t 7) (.c (.bool false)))⟩, ⟨some 9, none, .q (.mv (.t 8))⟩, ⟨some 10, some (9, false), .q (.mv (.t 0))⟩, ⟨some 11, some (9, false), .q (.bin .geq (.t 10)
 (.c (.int .i32 48)))⟩, ⟨some 12, some (9, false), .q (.mv (.t 11))⟩, ⟨some 13, some (12, true), .q (.mv (.t 0))⟩, ⟨some 14, some (12, true), .q (.bin .leq (.t 13)
 (.c (.int .i32 57)))⟩, ⟨some 15, some (9, false), .q (.pick (.t 12) (.t 14) (.c (.bool false)))⟩, ⟨some 16, none, .q (.pick (.t 9) (.c (.bool true)) (.t 15))⟩, ⟨some 17, none,
 .q (.mv (.t 16))⟩, ⟨some 18, some (17, false), .q (.mv (.t 0))⟩, ⟨some 19, some (17, false), .q (.bin .eql (.t 18) (.c (.int .i32 95)))⟩, ⟨some 20, none, .q (.pick (.t 17)
 (.c (.bool true)) (.t 19))⟩, ⟨some 2, none, .q (.mv (.t 20))⟩] [] [2] []) .ret))
theorem mc103 : ofCode Tryz.prog [] Tryz.f103.ntmps [(0, ⟨[0], [], [], 0, [], none⟩),
  (1, ⟨[2], [], [], 0, [], none⟩)] (Tryz.f103.body.getD .skip) = some M103 := by kernel_rfl
theorem Run103 {args : List PV} {v : AV} {rs : List (Nat × List PV)} (ids : List Bool) (h : args.length ≤ 21) (hv : run Tryz.prog (retK [RV.tmp 2] ids v rs) M103 [] ⟨entry 0 args, []⟩) : Fn Tryz.prog 103 args v rs :=
 Fn_run ids (by kernel_rfl) Tryz.func103 (by decide) rfl mc103 (by kernel_rfl) (by rw [Tryz.ntmps103]; exact h) (by rw [Tryz.ntmps103]; decide) hv
def M111 : MC := (.seq (.reg [⟨some 4, none, .q (.mv (.c (.int .i64 0)))⟩] [] [0, 1] []) (.seq (.reg [⟨some 5, none, .q (.mv (.t 0))⟩, ⟨some 6, none, .q (.mv (.t 1))⟩, ⟨some 7, none,
 .call (.f 144) [.t 5, .t 6]⟩, ⟨some 4, none, .q (.mv (.t 7))⟩] [] [4] [1007]) .ret))
theorem mc111 : ofCode Tryz.prog [] Tryz.f111.ntmps [(0, ⟨[0, 1], [], [], 0, [], none⟩),
  (1, ⟨[4], [1007], [], 0, [], none⟩)] (Tryz.f111.body.getD .skip) = some M111 := by kernel_rfl
theorem Run111 {args : List PV} {v : AV} {rs : List (Nat × List PV)} (ids : List Bool) (h : args.length ≤ 8) (hv : run Tryz.prog (retK [RV.tmp 4] ids v rs) M111 [] ⟨entry 0 args, []⟩) : Fn Tryz.prog 111 args v rs :=
 Fn_run ids (by kernel_rfl) Tryz.func111 (by decide) rfl mc111 (by kernel_rfl) (by rw [Tryz.ntmps111]; exact h) (by rw [Tryz.ntmps111]; decide) hv
def M118 : MC := (.seq (.reg [⟨some 4, none, .q (.mv (.c (.string ⟨#[]⟩)))⟩, ⟨some 5, none, .q (.mv (.c (.string ⟨#[]⟩)))⟩, ⟨some 6, none, .q (.mv (.c (.bool false)))⟩] [] [0, 1] [])
 (.seq (.seq (.reg [⟨some 8, none, .q (.mv (.t 0))⟩, ⟨some 9, none, .q (.mv (.t 1))⟩, ⟨some 10, none, .call (.f 144) [.t 8, .t 9]⟩, ⟨some 7, none, .q (.mv (.t 10))⟩] [] [0, 1,
 7] [1010]) (.seq (.reg [⟨some 11, none, .q (.mv (.t 7))⟩, ⟨some 12, none, .q (.bin .geq (.t 11) (.c (.int .i64 0)))⟩] [] [0, 1, 7, 12] [1010]) (.cond (.t 12) (.seq (.reg [⟨some 13, none,
 .q (.mv (.t 0))⟩, ⟨some 14, none, .q (.mv (.t 7))⟩, ⟨some 15, none, .q (.slc (.t 13) none (some (.t 14)) 0 true)⟩, ⟨some 16, none, .q (.mv (.t 0))⟩, ⟨some 17, none,
 .q (.mv (.t 7))⟩, ⟨some 18, none, .q (.mv (.t 1))⟩, ⟨some 19, none, .q (.len (.t 18) true)⟩, ⟨some 20, none, .q (.bin .add (.t 17) (.t 19))⟩, ⟨some 21, none, .q (.slc (.t 16)
 (some (.t 20)) none 0 true)⟩, ⟨some 4, none, .q (.mv (.t 15))⟩, ⟨some 5, none, .q (.mv (.t 21))⟩, ⟨some 6, none, .q (.mv (.c (.bool true)))⟩] [] [4, 5, 6] [1010]) .ret) .skip)))
 (.seq (.reg [⟨some 22, none, .q (.mv (.t 0))⟩, ⟨some 4, none, .q (.mv (.t 22))⟩, ⟨some 5, none, .q (.mv (.c (.string ⟨#[]⟩)))⟩, ⟨some 6, none, .q (.mv (.c (.bool false)))⟩] [] [4, 5,
 6] [1010]) .ret)))
theorem mc118 : ofCode Tryz.prog [] Tryz.f118.ntmps [(0, ⟨[0, 1], [], [], 0, [], none⟩),
  (1, ⟨[0, 1, 7], [1010], [], 0, [], none⟩),
  (2, ⟨[0, 1, 7, 12], [1010], [], 0, [], none⟩),
  (3, ⟨[4, 5, 6], [1010], [(0, 3589), (1, 3590), (2, 3588), (3, 3336), (4, 3472), (5, 3552), (6, 3520), (7, 3456), (8, 3328), (9, 3584), (10, 3072), (11, 2048)], 4095, [], none⟩),
  (4, ⟨[4, 5, 6], [1010], [], 0, [], none⟩)] (Tryz.f118.body.getD .skip) = some M118 := by kernel_rfl
theorem Run118 {args : List PV} {v : AV} {rs : List (Nat × List PV)} (ids : List Bool) (h : args.length ≤ 23) (hv : run Tryz.prog (retK [RV.tmp 4, RV.tmp 5, RV.tmp 6] ids v rs) M118 [] ⟨entry 0 args, []⟩) : Fn Tryz.prog 118 args v rs :=
 Fn_run ids (by kernel_rfl) Tryz.func118 (by decide) rfl mc118 (by kernel_rfl) (by rw [Tryz.ntmps118]; exact h) (by rw [Tryz.ntmps118]; decide) hv
end Go.Vc

namespace Go.Vc
open Go.Proofs Go.Shelf Go.RowKit
set_option linter.unusedSimpArgs false
set_option linter.unusedVariables false
def ren219 : Ren := ⟨fun n => if n = 219 then 144 else if n = 217 then 165 else if n = 225 then 166 else if n = 224 then 167 else if n = 267 then 168 else if n = 266 then 177 else if n = 314 then 178 else n,
 fun t => if t = 46 then 130 else if t = 146 then 199 else if t = 51 then 161 else t,
 fun g => if g = 1 then 2 else g⟩
def ren138 : Ren := ⟨fun n => if n = 138 then 113 else if n = 195 then 145 else if n = 218 then 147 else if n = 143 then 111 else if n = 219 then 144 else if n = 217 then 165 else if n = 225 then 166 else if n = 224 then 167 else if n = 267 then 168 else if n = 266 then 177 else if n = 314 then 178 else n,
 fun t => if t = 46 then 130 else if t = 146 then 199 else if t = 51 then 161 else t,
 fun g => if g = 1 then 2 else g⟩
theorem lays219 : Lays.n219 Tryz.prog ren219 where
 mixed := by kernel_rfl
 f217 := by kernel_rfl
 f219 := by kernel_rfl
 f224 := by kernel_rfl
 f225 := by kernel_rfl
 f266 := by kernel_rfl
 f267 := by kernel_rfl
 f314 := by kernel_rfl
 t3 := by kernel_rfl
 a3 := fun w => by kernel_rfl
 z3 := fun w => by kernel_rfl
 v3 := fun w => by kernel_rfl
 t4 := by kernel_rfl
 a4 := fun w => by kernel_rfl
 z4 := fun w => by kernel_rfl
 v4 := fun w => by kernel_rfl
 t5 := by kernel_rfl
 a5 := fun w => by kernel_rfl
 z5 := fun w => by kernel_rfl
 v5 := fun w => by kernel_rfl
 t9 := by kernel_rfl
 a9 := fun w => by kernel_rfl
 z9 := fun w => by kernel_rfl
 v9 := fun w => by kernel_rfl
 t46 := by kernel_rfl
 a46 := fun w => by kernel_rfl
 z46 := fun w => by kernel_rfl
 v46 := fun w => by kernel_rfl
 t51 := by kernel_rfl
 a51 := fun w => by kernel_rfl
 z51 := fun w => by kernel_rfl
 v51 := fun w => by kernel_rfl
 t146 := by kernel_rfl
 a146 := fun w => by kernel_rfl
 z146 := fun w => by kernel_rfl
 v146 := fun w => by kernel_rfl
 g1 := by kernel_rfl
theorem lays138 : Lays.n138 Tryz.prog ren138 where
 mixed := by kernel_rfl
 f138 := by kernel_rfl
 f143 := by kernel_rfl
 f195 := by kernel_rfl
 f217 := by kernel_rfl
 f218 := by kernel_rfl
 f219 := by kernel_rfl
 f224 := by kernel_rfl
 f225 := by kernel_rfl
 f266 := by kernel_rfl
 f267 := by kernel_rfl
 f314 := by kernel_rfl
 t0 := by kernel_rfl
 a0 := fun w => by kernel_rfl
 z0 := fun w => by kernel_rfl
 v0 := fun w => by kernel_rfl
 t3 := by kernel_rfl
 a3 := fun w => by kernel_rfl
 z3 := fun w => by kernel_rfl
 v3 := fun w => by kernel_rfl
 t4 := by kernel_rfl
 a4 := fun w => by kernel_rfl
 z4 := fun w => by kernel_rfl
 v4 := fun w => by kernel_rfl
 t5 := by kernel_rfl
 a5 := fun w => by kernel_rfl
 z5 := fun w => by kernel_rfl
 v5 := fun w => by kernel_rfl
 t9 := by kernel_rfl
 a9 := fun w => by kernel_rfl
 z9 := fun w => by kernel_rfl
 v9 := fun w => by kernel_rfl
 t46 := by kernel_rfl
 a46 := fun w => by kernel_rfl
 z46 := fun w => by kernel_rfl
 v46 := fun w => by kernel_rfl
 t51 := by kernel_rfl
 a51 := fun w => by kernel_rfl
 z51 := fun w => by kernel_rfl
 v51 := fun w => by kernel_rfl
 t146 := by kernel_rfl
 a146 := fun w => by kernel_rfl
 z146 := fun w => by kernel_rfl
 v146 := fun w => by kernel_rfl
 g1 := by kernel_rfl
theorem fn144 (s : ByteArray) : Fn Tryz.prog 144 [pS s, pS sDot] (.pv (pI (dotAt s))) [] := by
 refine ⟨enters_of (fn := Tryz.f144) Tryz.func144 (by decide) rfl, fun w F vs hF htb hv => ?_⟩
 simp only [PRels, PRel] at hv
 obtain ⟨u, r, rfl, rfl, u', r', rfl, rfl, rfl⟩ := hv
 have := Any.stringslite_Index_one lays219 s 46 w
 refine this.mono fun en w' ⟨e1, e2⟩ => ?_
 subst e1; subst e2
 refine ⟨_, ⟨w', F, fun _ => default⟩, rfl, rfl, ⟨Below.refl _ _, by simp [VRel, PRel, dotAt], fun i s xs h => by simp at h, fun i j hi => by simp at hi, fun i hi => by simp at hi, fun b => by simp⟩⟩
def dotsIn (s : ByteArray) : Nat := Lib.countByte s.data.toList 46
theorem fn113 (s : ByteArray) : Fn Tryz.prog 113 [pS s, pS sDot] (.pv (pI (dotsIn s))) [] := by
 refine ⟨enters_of (fn := Tryz.f113) Tryz.func113 (by decide) rfl, fun w F vs hF htb hv => ?_⟩
 simp only [PRels, PRel] at hv
 obtain ⟨u, r, rfl, rfl, u', r', rfl, rfl, rfl⟩ := hv
 have := Any.strings_Count_one lays138 s 46 w
 refine this.mono fun en w' ⟨e1, e2⟩ => ?_
 subst e1; subst e2
 refine ⟨_, ⟨w', F, fun _ => default⟩, rfl, rfl, ⟨Below.refl _ _, by simp [VRel, PRel, dotsIn], fun i s xs h => by simp at h, fun i j hi => by simp at hi, fun i hi => by simp at hi, fun b => by simp⟩⟩
theorem fn111 (s : ByteArray) : Fn Tryz.prog 111 [pS s, pS sDot] (.pv (pI (dotAt s))) [] := by
 refine Run111 [] (by simp) ?_
 simp only [go_sem, Nat.reduceEqDiff, reduceCtorEq, and_self, M111]
 refine runR_callf (by simp only [go_sem, Nat.reduceEqDiff, reduceCtorEq, and_self]) (by simp only [go_sem, Nat.reduceEqDiff, reduceCtorEq] <;> rfl) (fn144 s) ⟨rfl, trivial⟩ trivial ?_
 simp only [go_sem, Nat.reduceEqDiff, reduceCtorEq, and_self]
theorem fn118 (s : ByteArray) (hs : s.size ≤ 1000) : Fn Tryz.prog 118 [pS s, pS sDot] (.pv (.tup [pS (cutB s), pS (cutA s), pB (decide (0 ≤ dotAt s))])) [] := by
 refine Run118 [] (by simp) ?_
 simp only [go_sem, Nat.reduceEqDiff, reduceCtorEq, and_self, M118]
 refine runR_callf (by simp only [go_sem, Nat.reduceEqDiff, reduceCtorEq, and_self]) (by simp only [go_sem, Nat.reduceEqDiff, reduceCtorEq] <;> rfl) (fn144 s) ⟨rfl, trivial⟩ trivial ?_
 have hd := dotAt_lt s
 have e1 : sDot.size = 1 := rfl
 simp only [go_sem, Nat.reduceEqDiff, reduceCtorEq, Int.reduceToNat, Int.reduceLE, Int.reduceNeg, and_self, Int.cast_ofNat_Int, e1]
 refine ⟨fun h => ⟨⟨h, by omega⟩, ⟨by omega, by omega⟩, ⟨by omega, by omega, by omega⟩, ?_⟩, fun h => ?_⟩
 ·have e2 : (dotAt s + ((1 : Nat) : Int)).toNat = (dotAt s).toNat + 1 := by omega
  have e3 : (dotAt s + 1).toNat = (dotAt s).toNat + 1 := by omega
  simp [e3, cutB, cutA, h]
 ·simp [cutB, cutA, h]
theorem fn102 (s : ByteArray) (hs : s.size ≤ 1000) : Fn Tryz.prog 102 [pS s, pS sDot] (.pv (.tup [pS (cutB s), pS (cutA s), pB (decide (0 ≤ dotAt s))])) [] := by
 refine Run102 [] (by simp) ?_
 simp only [go_sem, Nat.reduceEqDiff, reduceCtorEq, and_self, M102]
 refine runR_callf (by simp only [go_sem, Nat.reduceEqDiff, reduceCtorEq, and_self]) (by simp only [go_sem, Nat.reduceEqDiff, reduceCtorEq] <;> rfl) (fn118 s hs) ⟨rfl, trivial⟩ trivial ?_
 simp only [go_sem, Nat.reduceEqDiff, Nat.reduceAdd, Nat.reduceLT, reduceCtorEq, and_self]
theorem cutL_count : ∀ l : List UInt8, (cutL l).length = Lib.countByte l 46 + 1
 | [] => rfl
 | c :: l => by
  have ih := cutL_count l
  unfold Lib.countByte at *
  simp only [cutL]
  split
  ·rename_i h; subst h; simp [ih]
  ·rename_i h
   rw [List.count_cons_of_ne h]
   cases h2 : cutL l with
   | nil => exact absurd h2 (cutL_ne l)
   | cons p ps => rw [h2] at ih; simpa [consH] using ih
theorem cutS_count (s : ByteArray) : (cutS s).length = dotsIn s + 1 := by unfold cutS dotsIn; rw [List.length_map, cutL_count]
theorem dots_le (s : ByteArray) : dotsIn s ≤ s.size := by
 have : dotsIn s ≤ s.data.toList.length := List.count_le_length
 simpa using this
abbrev ss (l : List ByteArray) : PV := .lst (l.map pS)
theorem wf_ss (l : List ByteArray) : WfL 1 (l.map pS) := wf_map (f := pS) (s := 1) (fun a => ⟨rfl, fun c hc => by simp only [PV.cells, List.mem_cons, List.not_mem_nil, or_false] at hc; subst hc; rfl⟩) l
theorem fill_set {α : Type} {f : α → PV} {A : List α} {z p : PV} {k : Nat} : (A.map f ++ List.replicate (k + 1) z).set A.length p = A.map f ++ p :: List.replicate k z := by
 rw [List.set_append_right _ _ (by simp)]
 simp [List.replicate_succ]
theorem fill_get {α : Type} {f : α → PV} {A : List α} {z : PV} {k : Nat} : (A.map f ++ List.replicate (k + 1) z).getD A.length default = z := by
 simp [List.getD_eq_getElem?_getD, List.replicate_succ]
theorem fn91 (s : ByteArray) (hs : s.size ≤ 1000) : Fn Tryz.prog 91 [pS s, pS sDot, pI 0, pI (-1)] (.pv (ss (cutS s))) [] := by
 refine Run91 [false] (by simp) ?_
 simp only [go_sem, Nat.reduceEqDiff, Nat.reduceAdd, reduceCtorEq, Int.reduceLT, Int.reduceNeg, and_self, Int.cast_ofNat_Int, M91]
 have hd := dots_le s
 have hc := cutS_count s
 have e1 : sDot.size = 1 := rfl
 refine ⟨fun h => absurd h (by decide), fun _ => ?_⟩
 refine runR_callf (by simp only [go_sem, Nat.reduceEqDiff, reduceCtorEq, Int.reduceNeg, and_self]) (by simp only [go_sem, Nat.reduceEqDiff, reduceCtorEq, Int.reduceNeg] <;> rfl) (fn113 s) ⟨rfl, trivial⟩ trivial ?_
 simp only [go_sem, Nat.reduceEqDiff, reduceCtorEq, Int.reduceNeg, and_self, Int.cast_ofNat_Int]
 refine ⟨⟨by omega, by omega⟩, ⟨by omega, by omega⟩, ?_⟩
 have hmin : (if (s.size : Int) + 1 < (dotsIn s : Int) + 1 then (s.size : Int) + 1 else (dotsIn s : Int) + 1) = (dotsIn s : Int) + 1 := by rw [if_neg (by omega)]
 simp only [go_sem, Int.reduceNeg, hmin]
 obtain ⟨N, hN⟩ : ∃ N, N = (cutS s).length := ⟨_, rfl⟩
 have hN2 : ((dotsIn s : Int) + 1).toNat = N := by omega
 rw [hN2]
 refine ⟨⟨by omega, by omega, by omega, by omega⟩, ⟨by omega, by omega⟩, ?_⟩
 refine run_loop (T := Nat × ByteArray) (fun t => ⟨[(0, .pv (pS t.2)), (1, .pv (pS sDot)), (2, .pv (pI 0)), (3, .pv (pI (dotsIn s + 1 - 1))), (9, .row 31 0 N), (10, .pv (pI t.1))], [(31, .sl 1 (((cutS s).take t.1).map pS ++ List.replicate (N - t.1) (pS ⟨#[]⟩)))]⟩) (fun t => t.1 < N ∧ cutS s = (cutS s).take t.1 ++ cutS t.2 ∧ t.2.size ≤ s.size) (fun t => N - t.1) ⟨0, s⟩ (by simp) ⟨by omega, by simp, Nat.le_refl _⟩ ?_
 rintro ⟨i, u⟩ ⟨hi, hq, hu⟩
 simp only at hi hq hu
 have hlen : ((cutS s).take i).length = i := by simp; omega
 have hul : (cutS u).length = N - i := by
  have := congrArg List.length hq
  rw [List.length_append, hlen] at this; omega
 obtain ⟨k, hk⟩ : ∃ k, N - i = k + 1 := ⟨N - i - 1, by omega⟩
 have hset := fill_set (f := pS) (A := (cutS s).take i) (z := pS ⟨#[]⟩) (p := pS (cutB u)) (k := k)
 have hset2 := fill_set (f := pS) (A := (cutS s).take i) (z := pS ⟨#[]⟩) (p := pS u) (k := k)
 have hget := fill_get (f := pS) (A := (cutS s).take i) (z := pS ⟨#[]⟩) (k := k)
 rw [hlen] at hset hset2 hget
 have hdl := dotAt_lt u
 by_cases hdt : 0 ≤ dotAt u
 ·have hcu := cutS_some hdt
  have hca := cutS_pos (cutA u)
  have hnext : (cutS s).take (i + 1) = (cutS s).take i ++ [cutB u] := by
   conv => lhs; rw [hq, hcu]
   rw [List.take_append, hlen, show i + 1 - i = 1 by omega, List.take_of_length_le (by omega)]; rfl
  rw [hcu, List.length_cons] at hul
  rw [hk]
  simp only [go_sem, Nat.reduceEqDiff, reduceCtorEq, and_self, B91_0, show (i : Int) < (dotsIn s : Int) + 1 - 1 by omega]
  refine runR_callf (by simp only [go_sem, Nat.reduceEqDiff, reduceCtorEq, and_self]) (by simp only [go_sem, Nat.reduceEqDiff, reduceCtorEq] <;> rfl) (fn111 u) ⟨rfl, trivial⟩ trivial ?_
  have hB : u.extract 0 (dotAt u + 0).toNat = cutB u := by unfold cutB; rw [if_pos hdt, Int.add_zero]
  have hA : u.extract (dotAt u + 1).toNat u.size = cutA u := by unfold cutA; rw [if_pos hdt, show (dotAt u + 1).toNat = (dotAt u).toNat + 1 by omega]
  have hcl := cutA_size u
  simp only [go_sem, Nat.reduceEqDiff, Nat.reduceLT, reduceCtorEq, Int.reduceToNat, Int.reduceLE, Int.reduceNeg, and_self, Int.cast_ofNat_Int, e1, show ¬ dotAt u < 0 by omega, hget, hB, hA, hset]
  refine ⟨⟨by omega, by omega⟩, ⟨by omega, by omega⟩, by omega, by simp; omega, ⟨by omega, by omega⟩, ⟨by omega, by omega, by omega⟩, ⟨by omega, by omega⟩, ⟨i + 1, cutA u⟩, ?_, ⟨by simp only; omega, ?_, by simp only; omega⟩, by simp only; omega⟩
  ·rw [hnext, List.map_append, show N - (i + 1) = k by omega, List.append_assoc]; rfl
  ·simp only
   rw [hnext, List.append_assoc, hq, hcu]
   simp [hlen]
 ·have hcu := cutS_none hdt
  rw [hcu, List.length_singleton] at hul
  rw [hk]
  simp only [go_sem, Nat.reduceEqDiff, Nat.reduceLT, reduceCtorEq, Int.reduceToNat, Int.reduceLE, Int.reduceNeg, and_self, B91_0, R91_0, show ¬ (i : Int) < (dotsIn s : Int) + 1 - 1 by omega, hget, hset2]
  refine ⟨by omega, by simp; omega, ⟨by omega, by omega⟩, ⟨by omega, by omega⟩, ?_⟩
  have hk0 : k = 0 := by omega
  subst hk0
  rw [show ((i : Int) + 1).toNat - 0 = i + 1 by omega, List.replicate_zero, ← List.map_singleton, ← List.map_append, ← hcu, ← hq, List.take_of_length_le (by simp; omega)]
end Go.Vc
