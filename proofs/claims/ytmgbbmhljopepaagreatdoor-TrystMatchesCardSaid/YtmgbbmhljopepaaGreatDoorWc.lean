/- A part of the proofs of the seat YtmgbbmhljopepaaGreatDoor: the contracts of functions, each proved out of its code. -/
import Derived.Test.YtmgbbmhljopepaaGreatDoorVe
import Derived.Test.YtmgbbmhljopepaaGreatDoorProg
import Derived.Test.YtmgbbmhljopepaaGreatDoorWb
import Derived.Test.YtmgbbmhljopepaaGreatDoorWa
import Derived.Shelf.Strings.Search2
import Derived.Shelf.Strings.Count
import Derived.Shelf.Small.Strs
namespace Go.Vc
open Go.Proofs
set_option maxRecDepth 100000
def M56 : MC := (.seq (.reg [qi 2 (.mv (.c (.bool false)))] [] [0] []) (.seq (.reg [mi 3 0,⟨some 4,none,.call (.f 72) [.t 3,.f 74]⟩,mi 2 4] [] [2] [1004]) .ret))
theorem mc56 : ofCode Tryz.prog [] Tryz.f56.ntmps [(0, ⟨[0], [], [], 0, [], none⟩),
  (1, ⟨[2], [1004], [], 0, [], none⟩)] (Tryz.f56.body.getD .skip) = some M56 := by kernel_rfl
theorem Run56 {args : List PV} {v : AV} {rs : List (Nat × List PV)} (ids : List Bool) (h : args.length ≤ 5) (hv : run Tryz.prog (retK [RV.tmp 2] ids v rs) M56 [] ⟨entry 0 args, []⟩) : Fn Tryz.prog 56 args v rs :=
 Fn_run ids (by kernel_rfl) Tryz.func56 (by decide) rfl mc56 (by kernel_rfl) (by rw [Tryz.ntmps56]; exact h) (by rw [Tryz.ntmps56]; decide) hv
def M39 : MC := (.seq (.reg [qi 2 (.mv (.c (.bool false)))] [] [0] []) (.seq (.reg [mi 3 0,⟨some 4,none,.call (.f 72) [.t 3,.f 73]⟩,mi 2 4] [] [2] [1004]) .ret))
theorem mc39 : ofCode Tryz.prog [] Tryz.f39.ntmps [(0, ⟨[0], [], [], 0, [], none⟩),
  (1, ⟨[2], [1004], [], 0, [], none⟩)] (Tryz.f39.body.getD .skip) = some M39 := by kernel_rfl
theorem Run39 {args : List PV} {v : AV} {rs : List (Nat × List PV)} (ids : List Bool) (h : args.length ≤ 5) (hv : run Tryz.prog (retK [RV.tmp 2] ids v rs) M39 [] ⟨entry 0 args, []⟩) : Fn Tryz.prog 39 args v rs :=
 Fn_run ids (by kernel_rfl) Tryz.func39 (by decide) rfl mc39 (by kernel_rfl) (by rw [Tryz.ntmps39]; exact h) (by rw [Tryz.ntmps39]; decide) hv
def M41 : MC := (.seq (.reg [qi 2 (.mv .nil)] [] [0] []) (.seq (.seq (.reg [mi 3 0,⟨some 4,none,.call (.f 39) [.t 3]⟩,qi 5 (.not (.t 4))] [] [0,5] [1004]) (.cond (.t 5) (.seq (.reg [qi 2 (.mv .nil)] [] [2] [1007]) .ret) .skip)) (.seq (.reg [mi 6 0,⟨some 7,none,.call (.f 63) [.t 6,.c (.string ⟨#[46]⟩)]⟩,mi 2 7] [] [2] [1007]) .ret)))
theorem mc41 : ofCode Tryz.prog [] Tryz.f41.ntmps [(0, ⟨[0], [], [], 0, [], none⟩),
  (1, ⟨[0, 5], [1004], [], 0, [], none⟩),
  (2, ⟨[2], [1007], [], 0, [], none⟩),
  (3, ⟨[2], [1007], [], 0, [], none⟩)] (Tryz.f41.body.getD .skip) = some M41 := by kernel_rfl
theorem Run41 {args : List PV} {v : AV} {rs : List (Nat × List PV)} (ids : List Bool) (h : args.length ≤ 8) (hv : run Tryz.prog (retK [RV.tmp 2] ids v rs) M41 [] ⟨entry 0 args, []⟩) : Fn Tryz.prog 41 args v rs :=
 Fn_run ids (by kernel_rfl) Tryz.func41 (by decide) rfl mc41 (by kernel_rfl) (by rw [Tryz.ntmps41]; exact h) (by rw [Tryz.ntmps41]; decide) hv
def M63 : MC := (.seq (.reg [qi 4 (.mv .nil)] [] [0,1] []) (.seq (.reg [mi 5 0,mi 6 1,⟨some 7,none,.call (.f 91) [.t 5,.t 6,.c (.int .i64 0),.c (.int .i64 (-1))]⟩,mi 4 7] [] [4] [1007]) .ret))
theorem mc63 : ofCode Tryz.prog [] Tryz.f63.ntmps [(0, ⟨[0, 1], [], [], 0, [], none⟩),
  (1, ⟨[4], [1007], [], 0, [], none⟩)] (Tryz.f63.body.getD .skip) = some M63 := by kernel_rfl
theorem Run63 {args : List PV} {v : AV} {rs : List (Nat × List PV)} (ids : List Bool) (h : args.length ≤ 8) (hv : run Tryz.prog (retK [RV.tmp 4] ids v rs) M63 [] ⟨entry 0 args, []⟩) : Fn Tryz.prog 63 args v rs :=
 Fn_run ids (by kernel_rfl) Tryz.func63 (by decide) rfl mc63 (by kernel_rfl) (by rw [Tryz.ntmps63]; exact h) (by rw [Tryz.ntmps63]; decide) hv
def B72_0 : MC := (.seq (.reg [qi 12 (.bin .lss (.t 11) (ic 8))] [] [0,1,11,12] [1015]) (.seq (.cond (.t 12) .skip (.exit 0)) (.seq (.block 1 (.seq (.reg [mi 14 0,⟨some 15,none,.call (.f 102) [.t 14,.c (.string ⟨#[46]⟩)]⟩,mi 13 15,qi 16 (.ext (.t 13) 0),qi 17 (.ext (.t 13) 1),qi 18 (.ext (.t 13) 2),mi 5 16,mi 6 17,mi 7 18] [] [1,5,6,7,11] [1015]) (.seq (.seq (.reg [mi 19 1,mi 20 5,⟨some 21,none,.call (.t 19) [.t 20]⟩,qi 22 (.not (.t 21))] [] [1,6,7,11,22] [1015,1021]) (.cond (.t 22) (.seq (.reg [qi 4 (.mv (.c (.bool false)))] [] [4] []) .ret) .skip)) (.seq (.seq (.reg [mi 23 7,qi 24 (.not (.t 23))] [] [1,6,11,24] [1015]) (.cond (.t 24) (.seq (.reg [qi 4 (.mv (.c (.bool true)))] [] [4] []) .ret) .skip)) (.reg [mi 25 6,mi 0 25] [] [0,1,11] [1015]))))) (.reg [qi 26 (.bin .add (.t 11) (ic 1)),mi 11 26] [] [0,1,11] [1015]))))
def R72_0 : MC := (.seq (.reg [qi 4 (.mv (.c (.bool false)))] [] [4] []) .ret)
def M72 : MC := (.seq (.reg [qi 4 (.mv (.c (.bool false)))] [] [0,1] [1015]) (.seq (.seq (.reg [mi 8 0,qi 9 (.len (.t 8) true),qi 10 (.bin .gtr (.t 9) (ic 40))] [] [0,1,10] [1015]) (.cond (.t 10) (.seq (.reg [qi 4 (.mv (.c (.bool false)))] [] [4] []) .ret) .skip)) (.seq (.seq (.reg [qi 11 (.mv (ic 0))] [] [0,1,11] [1015]) (.block 0 (.loop B72_0))) R72_0)))
theorem mc72 : ofCode Tryz.prog [] Tryz.f72.ntmps [(0, ⟨[0, 1], [1015], [], 0, [], none⟩),
  (1, ⟨[0, 1, 10], [1015], [], 0, [], none⟩),
  (2, ⟨[4], [], [], 0, [], none⟩),
  (3, ⟨[0, 1, 11], [1015], [], 0, [], none⟩),
  (4, ⟨[0, 1, 11, 12], [1015], [], 0, [], none⟩),
  (5, ⟨[1, 5, 6, 7, 11], [1015], [], 0, [], none⟩),
  (6, ⟨[1, 6, 7, 11, 22], [1015, 1021], [], 0, [], none⟩),
  (7, ⟨[4], [], [], 0, [], none⟩),
  (8, ⟨[1, 6, 11, 24], [1015], [], 0, [], none⟩),
  (9, ⟨[4], [], [], 0, [], none⟩),
  (10, ⟨[0, 1, 11], [1015], [], 0, [], none⟩),
  (11, ⟨[0, 1, 11], [1015], [], 0, [], none⟩),
  (12, ⟨[4], [], [], 0, [], none⟩)] (Tryz.f72.body.getD .skip) = some M72 := by kernel_rfl
theorem Run72 {args : List PV} {v : AV} {rs : List (Nat × List PV)} (ids : List Bool) (h : args.length ≤ 27) (hv : run Tryz.prog (retK [RV.tmp 4] ids v rs) M72 [] ⟨entry 0 args, []⟩) : Fn Tryz.prog 72 args v rs :=
 Fn_run ids (by kernel_rfl) Tryz.func72 (by decide) rfl mc72 (by kernel_rfl) (by rw [Tryz.ntmps72]; exact h) (by rw [Tryz.ntmps72]; decide) hv
def B74_0 : MC := (.seq (.reg [⟨some 8,none,.nxts (.t 7)⟩,qi 9 (.ext (.t 8) 0)] [] [0,3,7,8,9] [7]) (.seq (.cond (.t 9) .skip (.exit 0)) (.block 1 (.seq (.reg [qi 10 (.ext (.t 8) 2),mi 5 10] [] [0,3,5,7] [7]) (.seq (.reg [mi 11 3,mi 12 5,⟨some 13,none,.call (.t 11) [.t 12]⟩,qi 14 (.not (.t 13))] [] [0,3,7,14] [7,1013]) (.cond (.t 14) (.seq (.reg [qi 2 (.mv (.c (.bool false)))] [] [2] []) .ret) .skip))))))
def R74_0 : MC := (.seq (.reg [mi 15 0,qi 16 (.bin .neq (.t 15) (.c (.string ⟨#[]⟩))),mi 2 16] [] [2] []) .ret)
def M74 : MC := (.seq (.reg [qi 2 (.mv (.c (.bool false)))] [] [0] []) (.seq (.reg [qi 3 (.mv (.f 103))] [] [0,3] []) (.seq (.seq (.reg [mi 6 0,⟨some 7,none,.rngs (.t 6)⟩] [] [0,3,7] [7]) (.block 0 (.loop B74_0))) R74_0)))
theorem mc74 : ofCode Tryz.prog [] Tryz.f74.ntmps [(0, ⟨[0], [], [], 0, [], none⟩),
  (1, ⟨[0, 3], [], [], 0, [], none⟩),
  (2, ⟨[0, 3, 7], [7], [], 0, [], none⟩),
  (3, ⟨[0, 3, 7, 8, 9], [7], [], 0, [], none⟩),
  (4, ⟨[0, 3, 5, 7], [7], [], 0, [], none⟩),
  (5, ⟨[0, 3, 7, 14], [7, 1013], [], 0, [], none⟩),
  (6, ⟨[2], [], [], 0, [], none⟩),
  (7, ⟨[2], [], [], 0, [], none⟩)] (Tryz.f74.body.getD .skip) = some M74 := by kernel_rfl
theorem Run74 {args : List PV} {v : AV} {rs : List (Nat × List PV)} (ids : List Bool) (h : args.length ≤ 17) (hv : run Tryz.prog (retK [RV.tmp 2] ids v rs) M74 [] ⟨entry 0 args, []⟩) : Fn Tryz.prog 74 args v rs :=
 Fn_run ids (by kernel_rfl) Tryz.func74 (by decide) rfl mc74 (by kernel_rfl) (by rw [Tryz.ntmps74]; exact h) (by rw [Tryz.ntmps74]; decide) hv
def M73 : MC := (.seq (.reg [qi 2 (.mv (.c (.bool false)))] [] [0] []) (.seq (.reg [mi 3 0,qi 4 (.bin .eql (.t 3) (.c (.string ⟨#[42]⟩))),mi 5 4,gi 6 5 false (.mv (.t 0)),gi 7 5 false (.bin .eql (.t 6) (.c (.string ⟨#[42,42]⟩))),qi 8 (.pick (.t 5) (.c (.bool true)) (.t 7)),mi 9 8,gi 10 9 false (.mv (.t 0)),⟨some 11,some (9,false),.call (.f 74) [.t 10]⟩,qi 12 (.pick (.t 9) (.c (.bool true)) (.t 11)),mi 2 12] [] [2] [1011]) .ret))
theorem mc73 : ofCode Tryz.prog [] Tryz.f73.ntmps [(0, ⟨[0], [], [], 0, [], none⟩),
  (1, ⟨[2], [1011], [], 0, [], none⟩)] (Tryz.f73.body.getD .skip) = some M73 := by kernel_rfl
theorem Run73 {args : List PV} {v : AV} {rs : List (Nat × List PV)} (ids : List Bool) (h : args.length ≤ 13) (hv : run Tryz.prog (retK [RV.tmp 2] ids v rs) M73 [] ⟨entry 0 args, []⟩) : Fn Tryz.prog 73 args v rs :=
 Fn_run ids (by kernel_rfl) Tryz.func73 (by decide) rfl mc73 (by kernel_rfl) (by rw [Tryz.ntmps73]; exact h) (by rw [Tryz.ntmps73]; decide) hv
def B91_0 : MC := (.seq (.seq (.reg [mi 34 10,mi 35 3,qi 36 (.bin .lss (.t 34) (.t 35))] [] [0,1,2,3,9,10,36] [31,1023,1039]) (.cond (.t 36) .skip (.exit 0))) (.block 1 (.seq (.reg [mi 37 0,mi 38 1,⟨some 39,none,.call (.f 111) [.t 37,.t 38]⟩,mi 11 39] [] [0,1,2,3,9,10,11] [31,1023,1039]) (.seq (.seq (.reg [mi 40 11,qi 41 (.bin .lss (.t 40) (ic 0))] [] [0,1,2,3,9,10,11,41] [31,1023,1039]) (.cond (.t 41) (.exit 0) .skip)) (.seq (.reg [mi 42 9,mi 43 10,mi 44 0,mi 45 11,mi 46 2,qi 47 (.bin .add (.t 45) (.t 46)),qi 48 (.slc (.t 44) none (some (.t 47)) 0 true),qi 49 (.ia (.t 42) (.t 43) 1),⟨none,none,.st (.t 49) (.t 48) 1⟩] [] [0,1,2,3,9,10,11] [31,1023,1039]) (.seq (.reg [mi 50 0,mi 51 11,mi 52 1,qi 53 (.len (.t 52) true),qi 54 (.bin .add (.t 51) (.t 53)),qi 55 (.slc (.t 50) (some (.t 54)) none 0 true),mi 0 55] [] [0,1,2,3,9,10] [31,1023,1039]) (.reg [mi 56 10,qi 57 (.bin .add (.t 56) (ic 1)),mi 10 57] [] [0,1,2,3,9,10] [31,1023,1039])))))))
def R91_0 : MC := (.seq (.reg [mi 58 9,mi 59 10,mi 60 0,qi 61 (.ia (.t 58) (.t 59) 1),⟨none,none,.st (.t 61) (.t 60) 1⟩] [] [9,10] [31,1039]) (.seq (.reg [mi 62 9,mi 63 10,qi 64 (.bin .add (.t 63) (ic 1)),qi 65 (.slc (.t 62) none (some (.t 64)) 1 false),mi 8 65] [] [8] [31,1018,1039]) .ret))
def M91 : MC := (.seq (.reg [qi 8 (.mv .nil)] [] [0,1,2,3] [1023,1039]) (.seq (.seq (.reg [mi 12 3,qi 13 (.bin .eql (.t 12) (ic 0))] [] [0,1,2,3,13] [1023,1039]) (.cond (.t 13) (.seq (.reg [qi 8 (.mv .nil)] [] [8] [31,1018,1039]) .ret) .skip)) (.seq (.seq (.reg [mi 14 1,qi 15 (.bin .eql (.t 14) (.c (.string ⟨#[]⟩)))] [] [0,1,2,3,15] [1023,1039]) (.cond (.t 15) (.seq (.reg [mi 16 0,mi 17 3,⟨some 18,none,.call (.f 112) [.t 16,.t 17]⟩,mi 8 18] [] [8] [31,1018,1039]) .ret) .skip)) (.seq (.seq (.reg [mi 19 3,qi 20 (.bin .lss (.t 19) (ic 0))] [] [0,1,2,3,20] [1023,1039]) (.cond (.t 20) (.reg [mi 21 0,mi 22 1,⟨some 23,none,.call (.f 113) [.t 21,.t 22]⟩,qi 24 (.bin .add (.t 23) (ic 1)),mi 3 24] [] [0,1,2,3] [1023,1039]) .skip)) (.seq (.reg [mi 25 3,mi 26 0,qi 27 (.len (.t 26) true),qi 28 (.bin .add (.t 27) (ic 1)),qi 29 (.mm false (.t 25) (.t 28)),mi 3 29] [] [0,1,2,3] [1023,1039]) (.seq (.reg [mi 30 3,⟨some 31,none,.mks (.t 30) (.t 30) 1 16 (.sc (.string ⟨#[]⟩))⟩,mi 9 31] [] [0,1,2,3,9] [31,1023,1039]) (.seq (.reg [mi 32 3,qi 33 (.bin .sub (.t 32) (ic 1)),mi 3 33] [] [0,1,2,3,9] [31,1023,1039]) (.seq (.reg [qi 10 (.mv (ic 0))] [] [0,1,2,3,9,10] [31,1023,1039]) (.seq (.block 0 (.loop B91_0)) R91_0)))))))))
theorem mc91 : ofCode Tryz.prog [] Tryz.f91.ntmps [(0, ⟨[0, 1, 2, 3], [1023, 1039], [], 0, [], none⟩),
  (1, ⟨[0, 1, 2, 3, 13], [1023, 1039], [], 0, [], none⟩),
  (2, ⟨[8], [31, 1018, 1039], [], 0, [], none⟩),
  (3, ⟨[0, 1, 2, 3, 15], [1023, 1039], [], 0, [], none⟩),
  (4, ⟨[8], [31, 1018, 1039], [], 0, [], none⟩),
  (5, ⟨[0, 1, 2, 3, 20], [1023, 1039], [], 0, [], none⟩),
  (6, ⟨[0, 1, 2, 3], [1023, 1039], [], 0, [], none⟩),
  (7, ⟨[0, 1, 2, 3], [1023, 1039], [], 0, [], none⟩),
  (8, ⟨[0, 1, 2, 3, 9], [31, 1023, 1039], [], 0, [], none⟩),
  (9, ⟨[0, 1, 2, 3, 9], [31, 1023, 1039], [], 0, [], none⟩),
  (10, ⟨[0, 1, 2, 3, 9, 10], [31, 1023, 1039], [], 0, [], none⟩),
  (11, ⟨[0, 1, 2, 3, 9, 10, 36], [31, 1023, 1039], [], 0, [], none⟩),
  (12, ⟨[0, 1, 2, 3, 9, 10, 11], [31, 1023, 1039], [], 0, [], none⟩),
  (13, ⟨[0, 1, 2, 3, 9, 10, 11, 41], [31, 1023, 1039], [], 0, [], none⟩),
  (14, ⟨[0, 1, 2, 3, 9, 10, 11], [31, 1023, 1039], [], 0, [], none⟩),
  (15, ⟨[0, 1, 2, 3, 9, 10], [31, 1023, 1039], [], 0, [], none⟩),
  (16, ⟨[0, 1, 2, 3, 9, 10], [31, 1023, 1039], [], 0, [], none⟩),
  (17, ⟨[9, 10], [31, 1039], [], 0, [], none⟩),
  (18, ⟨[8], [31, 1018, 1039], [], 0, [], none⟩)] (Tryz.f91.body.getD .skip) = some M91 := by kernel_rfl
theorem Run91 {args : List PV} {v : AV} {rs : List (Nat × List PV)} (ids : List Bool) (h : args.length ≤ 66) (hv : run Tryz.prog (retK [RV.tmp 8] ids v rs) M91 [] ⟨entry 0 args, []⟩) : Fn Tryz.prog 91 args v rs :=
 Fn_run ids (by kernel_rfl) Tryz.func91 (by decide) rfl mc91 (by kernel_rfl) (by rw [Tryz.ntmps91]; exact h) (by rw [Tryz.ntmps91]; decide) hv
def M102 : MC := (.seq (.reg [qi 4 (.mv (.c (.string ⟨#[]⟩))),qi 5 (.mv (.c (.string ⟨#[]⟩))),qi 6 (.mv (.c (.bool false)))] [] [0,1] []) (.seq (.reg [mi 7 0,mi 8 1,⟨some 9,none,.call (.f 118) [.t 7,.t 8]⟩,qi 10 (.ext (.t 9) 0),qi 11 (.ext (.t 9) 1),qi 12 (.ext (.t 9) 2),mi 4 10,mi 5 11,mi 6 12] [] [4,5,6] [1009]) .ret))
theorem mc102 : ofCode Tryz.prog [] Tryz.f102.ntmps [(0, ⟨[0, 1], [], [], 0, [], none⟩),
  (1, ⟨[4, 5, 6], [1009], [], 0, [], none⟩)] (Tryz.f102.body.getD .skip) = some M102 := by kernel_rfl
theorem Run102 {args : List PV} {v : AV} {rs : List (Nat × List PV)} (ids : List Bool) (h : args.length ≤ 13) (hv : run Tryz.prog (retK [RV.tmp 4, RV.tmp 5, RV.tmp 6] ids v rs) M102 [] ⟨entry 0 args, []⟩) : Fn Tryz.prog 102 args v rs :=
 Fn_run ids (by kernel_rfl) Tryz.func102 (by decide) rfl mc102 (by kernel_rfl) (by rw [Tryz.ntmps102]; exact h) (by rw [Tryz.ntmps102]; decide) hv
def M103 : MC := (.seq (.reg [qi 2 (.mv (.c (.bool false)))] [] [0] []) (.seq (.reg [mi 3 0,qi 4 (.bin .geq (.t 3) (.c (.int .i32 97))),mi 5 4,gi 6 5 true (.mv (.t 0)),gi 7 5 true (.bin .leq (.t 6) (.c (.int .i32 122))),qi 8 (.pick (.t 5) (.t 7) (.c (.bool false))),mi 9 8,gi 10 9 false (.mv (.t 0)),gi 11 9 false (.bin .geq (.t 10) (.c (.int .i32 48))),gi 12 9 false (.mv (.t 11)),gi 13 12 true (.mv (.t 0)),gi 14 12 true (.bin .leq (.t 13) (.c (.int .i32 57))),gi 15 9 false (.pick (.t 12) (.t 14) (.c (.bool false))),qi 16 (.pick (.t 9) (.c (.bool true)) (.t 15)),mi 17 16,gi 18 17 false (.mv (.t 0)),gi 19 17 false (.bin .eql (.t 18) (.c (.int .i32 95))),qi 20 (.pick (.t 17) (.c (.bool true)) (.t 19)),mi 2 20] [] [2] []) .ret))
theorem mc103 : ofCode Tryz.prog [] Tryz.f103.ntmps [(0, ⟨[0], [], [], 0, [], none⟩),
  (1, ⟨[2], [], [], 0, [], none⟩)] (Tryz.f103.body.getD .skip) = some M103 := by kernel_rfl
theorem Run103 {args : List PV} {v : AV} {rs : List (Nat × List PV)} (ids : List Bool) (h : args.length ≤ 21) (hv : run Tryz.prog (retK [RV.tmp 2] ids v rs) M103 [] ⟨entry 0 args, []⟩) : Fn Tryz.prog 103 args v rs :=
 Fn_run ids (by kernel_rfl) Tryz.func103 (by decide) rfl mc103 (by kernel_rfl) (by rw [Tryz.ntmps103]; exact h) (by rw [Tryz.ntmps103]; decide) hv
def M111 : MC := (.seq (.reg [qi 4 (.mv (ic 0))] [] [0,1] []) (.seq (.reg [mi 5 0,mi 6 1,⟨some 7,none,.call (.f 144) [.t 5,.t 6]⟩,mi 4 7] [] [4] [1007]) .ret))
theorem mc111 : ofCode Tryz.prog [] Tryz.f111.ntmps [(0, ⟨[0, 1], [], [], 0, [], none⟩),
  (1, ⟨[4], [1007], [], 0, [], none⟩)] (Tryz.f111.body.getD .skip) = some M111 := by kernel_rfl
theorem Run111 {args : List PV} {v : AV} {rs : List (Nat × List PV)} (ids : List Bool) (h : args.length ≤ 8) (hv : run Tryz.prog (retK [RV.tmp 4] ids v rs) M111 [] ⟨entry 0 args, []⟩) : Fn Tryz.prog 111 args v rs :=
 Fn_run ids (by kernel_rfl) Tryz.func111 (by decide) rfl mc111 (by kernel_rfl) (by rw [Tryz.ntmps111]; exact h) (by rw [Tryz.ntmps111]; decide) hv
def M118 : MC := (.seq (.reg [qi 4 (.mv (.c (.string ⟨#[]⟩))),qi 5 (.mv (.c (.string ⟨#[]⟩))),qi 6 (.mv (.c (.bool false)))] [] [0,1] []) (.seq (.seq (.reg [mi 8 0,mi 9 1,⟨some 10,none,.call (.f 144) [.t 8,.t 9]⟩,mi 7 10] [] [0,1,7] [1010]) (.seq (.reg [mi 11 7,qi 12 (.bin .geq (.t 11) (ic 0))] [] [0,1,7,12] [1010]) (.cond (.t 12) (.seq (.reg [mi 13 0,mi 14 7,qi 15 (.slc (.t 13) none (some (.t 14)) 0 true),mi 16 0,mi 17 7,mi 18 1,qi 19 (.len (.t 18) true),qi 20 (.bin .add (.t 17) (.t 19)),qi 21 (.slc (.t 16) (some (.t 20)) none 0 true),mi 4 15,mi 5 21,qi 6 (.mv (.c (.bool true)))] [] [4,5,6] [1010]) .ret) .skip))) (.seq (.reg [mi 22 0,mi 4 22,qi 5 (.mv (.c (.string ⟨#[]⟩))),qi 6 (.mv (.c (.bool false)))] [] [4,5,6] [1010]) .ret)))
theorem mc118 : ofCode Tryz.prog [] Tryz.f118.ntmps [(0, ⟨[0, 1], [], [], 0, [], none⟩),
  (1, ⟨[0, 1, 7], [1010], [], 0, [], none⟩),
  (2, ⟨[0, 1, 7, 12], [1010], [], 0, [], none⟩),
  (3, ⟨[4, 5, 6], [1010], [(0, 3589), (1, 3590), (2, 3588), (3, 3336), (4, 3472), (5, 3552), (6, 3520), (7, 3456), (8, 3328), (9, 3584), (10, 3072), (11, 2048)], 4095, [], none⟩),
  (4, ⟨[4, 5, 6], [1010], [], 0, [], none⟩)] (Tryz.f118.body.getD .skip) = some M118 := by kernel_rfl
theorem Run118 {args : List PV} {v : AV} {rs : List (Nat × List PV)} (ids : List Bool) (h : args.length ≤ 23) (hv : run Tryz.prog (retK [RV.tmp 4, RV.tmp 5, RV.tmp 6] ids v rs) M118 [] ⟨entry 0 args, []⟩) : Fn Tryz.prog 118 args v rs :=
 Fn_run ids (by kernel_rfl) Tryz.func118 (by decide) rfl mc118 (by kernel_rfl) (by rw [Tryz.ntmps118]; exact h) (by rw [Tryz.ntmps118]; decide) hv
end Go.Vc

namespace Go.Vc
open Go Go.Proofs Go.Shelf Go.RowKit Go.Sort Go.Lib
set_option linter.unusedSimpArgs false
set_option linter.unusedVariables false
set_option maxRecDepth 100000
def ren176 : Ren := ⟨fun n => if n = 176 then 107 else if n = 249 then 138 else if n = 288 then 160 else if n = 283 then 140 else if n = 284 then 141 else if n = 285 then 142 else if n = 286 then 143 else if n = 129 then 128 else if n = 317 then 161 else if n = 318 then 162 else if n = 319 then 163 else if n = 320 then 164 else if n = 337 then 176 else if n = 338 then 79 else n,
 fun t => if t = 37 then 123 else if t = 53 then 56 else if t = 171 then 168 else if t = 173 then 170 else if t = 212 then 190 else if t = 51 then 161 else if t = 213 then 191 else if t = 46 then 130 else if t = 232 then 205 else if t = 233 then 143 else t,
 fun g => if g = 17 then 1 else if g = 18 then 5 else if g = 19 then 0 else g⟩
theorem lays176 : Lays.n176 Tryz.prog ren176 where
 mixed := by kernel_rfl
 f129 := by kernel_rfl
 f176 := by kernel_rfl
 f249 := by kernel_rfl
 f283 := by kernel_rfl
 f284 := by kernel_rfl
 f285 := by kernel_rfl
 f286 := by kernel_rfl
 f288 := by kernel_rfl
 f317 := by kernel_rfl
 f318 := by kernel_rfl
 f319 := by kernel_rfl
 f320 := by kernel_rfl
 f337 := by kernel_rfl
 f338 := by kernel_rfl
 t0 := by kernel_rfl
 a0 := fun w => by kernel_rfl
 z0 := fun w => by kernel_rfl
 v0 := fun w => by kernel_rfl
 t2 := by kernel_rfl
 a2 := fun w => by kernel_rfl
 z2 := fun w => by kernel_rfl
 v2 := fun w => by kernel_rfl
 t3 := by kernel_rfl
 a3 := fun w => by kernel_rfl
 z3 := fun w => by kernel_rfl
 v3 := fun w => by kernel_rfl
 t4 := by kernel_rfl
 a4 := fun w => by kernel_rfl
 z4 := fun w => by kernel_rfl
 v4 := fun w => by kernel_rfl
 t5 := by kernel_rfl
 a5 := fun w => by kernel_rfl
 z5 := fun w => by kernel_rfl
 v5 := fun w => by kernel_rfl
 t9 := by kernel_rfl
 a9 := fun w => by kernel_rfl
 z9 := fun w => by kernel_rfl
 v9 := fun w => by kernel_rfl
 t20 := by kernel_rfl
 a20 := fun w => by kernel_rfl
 z20 := fun w => by kernel_rfl
 v20 := fun w => by kernel_rfl
 t37 := by kernel_rfl
 a37 := fun w => by kernel_rfl
 z37 := fun w => by kernel_rfl
 v37 := fun w => by kernel_rfl
 t46 := by kernel_rfl
 a46 := fun w => by kernel_rfl
 z46 := fun w => by kernel_rfl
 v46 := fun w => by kernel_rfl
 t51 := by kernel_rfl
 a51 := fun w => by kernel_rfl
 z51 := fun w => by kernel_rfl
 v51 := fun w => by kernel_rfl
 t53 := by kernel_rfl
 a53 := fun w => by kernel_rfl
 z53 := fun w => by kernel_rfl
 v53 := fun w => by kernel_rfl
 t171 := by kernel_rfl
 a171 := fun w => by kernel_rfl
 z171 := fun w => by kernel_rfl
 v171 := fun w => by kernel_rfl
 t173 := by kernel_rfl
 a173 := fun w => by kernel_rfl
 z173 := fun w => by kernel_rfl
 v173 := fun w => by kernel_rfl
 t212 := by kernel_rfl
 a212 := fun w => by kernel_rfl
 z212 := fun w => by kernel_rfl
 v212 := fun w => by kernel_rfl
 t213 := by kernel_rfl
 a213 := fun w => by kernel_rfl
 z213 := fun w => by kernel_rfl
 t232 := by kernel_rfl
 a232 := fun w => by kernel_rfl
 z232 := fun w => by kernel_rfl
 v232 := fun w => by kernel_rfl
 t233 := by kernel_rfl
 a233 := fun w => by kernel_rfl
 z233 := fun w => by kernel_rfl
 v233 := fun w => by kernel_rfl
 g17 := by kernel_rfl
 g18 := by kernel_rfl
 g19 := by kernel_rfl
theorem laysM176 : LaysM.n176 Tryz.prog ren176 where
 ton176 := lays176
 i0 := by kernel_rfl
 i2 := by kernel_rfl
 i3 := by kernel_rfl
 i4 := by kernel_rfl
 i5 := by kernel_rfl
 i9 := by kernel_rfl
 i20 := by kernel_rfl
 i37 := by kernel_rfl
 i46 := by kernel_rfl
 i51 := by kernel_rfl
 i53 := by kernel_rfl
 i171 := by kernel_rfl
 i173 := by kernel_rfl
 i212 := by kernel_rfl
 i232 := by kernel_rfl
 i233 := by kernel_rfl
 m17 := by kernel_rfl
 m18 := by kernel_rfl
 m19 := by kernel_rfl
abbrev pO (b : UInt8) : PV := .sc (.int .u8 (b.toNat : Int))
abbrev pOs (l : List UInt8) : List PV := l.map pO
theorem flat_pO (l : List UInt8) : flat (pOs l) = (Lib.byteCells l).map .sc := by
 induction l with
 | nil => rfl
 | cons b l ih => simp only [pOs, List.map_cons, flat, PV.cells, Lib.byteCells] at ih ⊢; rw [ih]; rfl
theorem rels_scb {w : World} {F : Nat → Prop} : ∀ {L : List Value} {vs : List Value}, PRels w F (L.map .sc) vs → vs = L
 | [], _, h => by simpa [PRels] using h
 | v :: L, _, h => by
  simp only [List.map_cons, PRels, PRel] at h
  obtain ⟨u, r, rfl, rfl, h⟩ := h
  rw [rels_scb h]
theorem rels_scc {w : World} {F : Nat → Prop} : ∀ L : List Value, PRels w F (L.map .sc) L
 | [] => rfl
 | v :: L => by simp only [List.map_cons, PRels, PRel]; exact ⟨v, L, rfl, rfl, rels_scc L⟩
theorem wf_pO (l : List UInt8) : WfL 1 (pOs l) := fun p hp => by
 obtain ⟨b, _, rfl⟩ := List.mem_map.1 hp
 exact ⟨rfl, fun c hc => by simp only [PV.cells, List.mem_cons, List.not_mem_nil, or_false] at hc; subst hc; rfl⟩
theorem itoa_ne_nil (i : Int) : 0 < (Lib.itoa i).length := by
 have hd : ∀ u, 0 < (Lib.decDigits u).length := fun u => by rw [Lib.decDigits]; split <;> simp
 unfold Lib.itoa
 split
 ·simp
 ·exact hd _
theorem fnS107 (bs : List UInt8) (xs : List PV) (i : Int) (hx : xs.take bs.length = pOs bs) (h0 : -9223372036854775808 ≤ i) (h1 : i ≤ 9223372036854775807) (hl : bs.length ≤ 100000000) :
  FnS Tryz.prog 107 [.row 150000 0 bs.length, .pv (.sc (.int .i64 i)), .pv (.sc (.int .i64 10))] [(150000, .sl 1 xs)] (.row 150000 0 (bs.length + (Lib.itoa i).length)) [(150000, .sl 1 (pOs (bs ++ Lib.itoa i)))] := by
 refine ⟨enters_of (fn := Tryz.f107) Tryz.func107 (by decide) rfl, fun x vs hF htb hlent hv => ?_⟩
 simp only [VRels, VRel] at hv
 obtain ⟨u, _, rfl, hu, _, _, rfl, hi, _, _, rfl, h10, rfl⟩ := hv
 simp only [PRel] at hi h10
 subst hi; subst h10
 have hrow := hlent.st 150000 (.sl 1 xs) (by simp)
 have own0 : ∀ b, Own [(150000, Row.sl 1 xs)] x.ρ b ↔ (x.ρ 150000).ok = true ∧ (x.ρ 150000).blk = b := fun b => by
  constructor
  ·rintro ⟨r, row, h1, h2, h3⟩
   simp only [List.mem_singleton, Prod.mk.injEq] at h1
   obtain ⟨rfl, _⟩ := h1
   exact ⟨h2, h3⟩
  ·exact fun h => ⟨150000, .sl 1 xs, by simp, h.1, h.2⟩
 simp only [Row.rel] at hrow
 obtain ⟨o, hb, ho⟩ : ∃ o, Buf x.w o u bs.length (Lib.byteCells bs) ∧ (∀ b, o = some b → (x.ρ 150000).ok = true ∧ (x.ρ 150000).blk = b) := by
  rcases hu with ⟨hn, _, ad, e1⟩ | ⟨c, hok, e1, hnc, hcap, hlen⟩
  ·have : bs = [] := List.eq_nil_of_length_eq_zero hn
   subst this
   exact ⟨none, .inl ⟨rfl, ⟨ad, e1⟩, rfl, rfl⟩, fun b hb => by cases hb⟩
  ·rcases hrow with ⟨h0, _⟩ | ⟨hls, _, ⟨hln, hxc⟩, hwf, ⟨⟨L⟩, tb, hh, harr, hao⟩, hE⟩
   ·rw [h0] at hok; cases hok
   have hE2 := hE.take bs.length
   rw [hx, PElems.flat_iff, flat_pO] at hE2
   obtain ⟨cvs, k1, k2⟩ := hE2.list
   rw [rels_scb k1] at k2
   rw [hls] at harr e1
   simp only [Nat.zero_mul, Nat.add_zero] at e1
   refine ⟨some (x.ρ 150000).blk, .inr ⟨_, _, c, L, tb, rfl, e1, hh, hnc, ?_, hao, by simp [Lib.byteCells], k2⟩, fun b hb => ⟨hok, by injection hb⟩⟩
   simp only [List.size_toArray] at harr
   omega
 have htab : ∀ w', BelowL (fun b => o = some b) x.w w' → Lib.TabIs Tryz.prog w' "internal/strconv.uint64pow10" .u64 Lib.pow10Tab := fun w' hw => by
  have hg : Tryz.prog.globalNamed "internal/strconv.uint64pow10" = some 1 := by kernel_rfl
  obtain ⟨t1, t2, t3⟩ := htb ("internal/strconv.uint64pow10", .u64, Lib.pow10Tab) (by simp [tabList]) 1 hg
  unfold Lib.TabIs World.var? at t3 ⊢
  simp only [hg, Option.bind_some] at t3 ⊢
  rw [hw.block 1 t2 fun he => t1 (by obtain ⟨q1, q2⟩ := ho 1 he; rw [← q2]; exact hlent.F 150000 (.sl 1 xs) (by simp) q1)]
  exact t3
 have hcall := appendInt_buf laysM176 bs.length i h0 h1 hb (by omega) htab
 refine Calls.mono (R := BufOut x.w o bs.length (Lib.byteCells bs) (Lib.byteCells (Lib.itoa i))) hcall ?_
 rintro en w' ⟨v', o', rfl, hb', hlw, hnx⟩
 rw [show Lib.byteCells bs ++ Lib.byteCells (Lib.itoa i) = Lib.byteCells (bs ++ Lib.itoa i) by simp [Lib.byteCells]] at hb'
 have hpos := itoa_ne_nil i
 rcases hb' with ⟨_, _, h9, _⟩ | ⟨g, b, c, L, tb, ho', hv', hh', hnc', hcl', hone', hbl', hcs'⟩
 ·rw [Lib.byteCells_length] at h9; omega
 have hlen' : bs.length + (Lib.byteCells (Lib.itoa i)).length = bs.length + (Lib.itoa i).length := by simp [Lib.byteCells]
 rw [hlen'] at hv' hnc'
 have hl2 : (pOs (bs ++ Lib.itoa i)).length = bs.length + (Lib.itoa i).length := by simp [pOs]
 let l : Loc := ⟨g, b, c, 1, true, bs.length + (Lib.itoa i).length⟩
 let ρ' : Nat → Loc := updρ x.ρ 150000 l
 have e1 : ρ' 150000 = l := by simp [ρ', updρ]
 refine ⟨v', ⟨w', fun b => (x.F b ∧ ¬ Own [(150000, Row.sl 1 xs)] x.ρ b) ∨ Own [(150000, Row.sl 1 (pOs (bs ++ Lib.itoa i)))] ρ' b, ρ'⟩, rfl, rfl, {
  below := ⟨hlw.os, hlw.tape, hlw.output, hlw.size, fun k hk hne => hlw.block k hk fun he => hne ((own0 k).2 (ho k he)), hlw.drawn⟩
  val := ?_
  st := fun r row hm => ?_
  keys := by simp
  inj := fun r row r' row' hm hm' hne => by
   simp only [List.mem_singleton, Prod.mk.injEq] at hm hm'
   exact absurd (hm.1.trans hm'.1.symm) hne
  own := fun r row hm hok => ?_
  F := fun b => Iff.rfl
  stay := fun r hr => by
   show updρ x.ρ 150000 l r = x.ρ r
   unfold updρ
   rw [if_neg (by omega)] }⟩
 ·simp only [VRel]
  refine .inr ⟨c, by rw [e1], ?_, hnc', by rw [e1]; simp [l], by rw [e1]; simp [l]⟩
  rw [hv', e1]
  simp [l]
 ·simp only [List.mem_singleton, Prod.mk.injEq] at hm
  obtain ⟨rfl, rfl⟩ := hm
  simp only [Row.rel]
  rw [e1]
  refine .inr ⟨rfl, rfl, ⟨hl2.symm, by rw [hl2]; exact hnc'⟩, wf_pO _, ⟨⟨L⟩, tb, hh', by simpa [l] using hcl', hone'⟩, ?_⟩
  rw [PElems.flat_iff, flat_pO]
  exact PCells.of (rels_scc _) hcs'
 ·simp only [List.mem_singleton, Prod.mk.injEq] at hm
  obtain ⟨rfl, rfl⟩ := hm
  show x.w.heap.size ≤ (ρ' 150000).blk ∨ _
  rw [e1]
  rcases hnx with h | ⟨q, h, hq⟩
  ·right
   show Own _ x.ρ (ρ' 150000).blk
   rw [e1]
   exact (own0 _).2 (ho g (by rw [← h]; exact ho'))
  ·rw [ho'] at h; injection h with h
   left
   show x.w.heap.size ≤ g
   omega
end Go.Vc

namespace Go.Vc
open Go.Proofs
set_option maxRecDepth 100000
def B84_0 : MC := (.seq (.reg [qi 10 (.bin .lss (.t 9) (.t 8))] [] [0,7,8,9,10] [17,1015,150000]) (.seq (.cond (.t 10) .skip (.exit 0)) (.seq (.block 1 (.seq (.reg [qi 11 (.ia (.t 7) (.t 9) 1),qi 12 (.ld (.t 11) 1 false),mi 6 12] [] [0,6,7,8,9] [17,1015,150000]) (.reg [mi 13 0,mi 14 6,⟨some 15,none,.calls (.f 107) [.t 13,.t 14,.c (.int .i64 10)]⟩,⟨some 16,none,.lits [.c (.int .u8 32)] 1⟩,⟨some 17,none,.app (.t 15) (.t 16) 1 1⟩,mi 0 17] [] [0,7,8,9] [17,1015,150000]))) (.reg [qi 18 (.bin .add (.t 9) (ic 1)),mi 9 18] [] [0,7,8,9] [17,1015,150000]))))
def R84_0 : MC := (.seq (.reg [mi 19 0,mi 4 19] [] [4] [17,1015,150000]) .ret)
def M84 : MC := (.seq (.reg [qi 4 (.mv .nil)] [] [0,1] [17,1015,150000]) (.seq (.seq (.reg [mi 7 1,qi 8 (.len (.t 7) false),qi 9 (.mv (ic 0))] [] [0,7,8,9] [17,1015,150000]) (.block 0 (.loop B84_0))) R84_0))
theorem mc84 : ofCode Tryz.prog [15] Tryz.f84.ntmps [(0, ⟨[0, 1], [17, 1015, 150000], [], 0, [], none⟩),
  (1, ⟨[0, 7, 8, 9], [17, 1015, 150000], [], 0, [], none⟩),
  (2, ⟨[0, 7, 8, 9, 10], [17, 1015, 150000], [], 0, [], none⟩),
  (3, ⟨[0, 6, 7, 8, 9], [17, 1015, 150000], [], 0, [], none⟩),
  (4, ⟨[0, 7, 8, 9], [17, 1015, 150000], [], 0, [], none⟩),
  (5, ⟨[0, 7, 8, 9], [17, 1015, 150000], [], 0, [], none⟩),
  (6, ⟨[4], [17, 1015, 150000], [], 0, [], none⟩)] (Tryz.f84.body.getD .skip) = some M84 := by kernel_rfl
theorem RunS84 {args : List AV} {st st' : List (Nat × Row)} {v : AV} (h : args.length ≤ 20) (hk : (st'.map (·.1)).Nodup) (hv : run Tryz.prog (retS [RV.tmp 4] v st') M84 [] ⟨entryA 0 args, st⟩) : FnS Tryz.prog 84 args st v st' :=
 FnS_run (by kernel_rfl) Tryz.func84 (by decide) rfl mc84 (by kernel_rfl) (by rw [Tryz.ntmps84]; exact h) (by rw [Tryz.ntmps84]; decide) hk hv
end Go.Vc

namespace Go.Vc
open Go.Proofs
set_option maxRecDepth 100000
def M83 : MC := (.seq (.reg [qi 4 (.mv (.c (.string ⟨#[]⟩)))] [] [0,1,2] [1012,150000,200000,200001]) (.seq (.reg [qi 5 (.ld (.t 1) 1 false),qi 6 (.slc (.t 5) none (some (ic 0)) 1 false),qi 7 (.fa (.t 2) 2),qi 8 (.ld (.t 7) 1 false),mi 9 0,qi 10 (.ia (.t 8) (.t 9) 1),qi 11 (.ld (.t 10) 1 false),⟨some 12,none,.calls (.f 84) [.t 6,.t 11]⟩,⟨none,none,.st (.t 1) (.t 12) 1⟩] [] [1] [1012,150000,200000,200001]) (.seq (.reg [qi 13 (.ld (.t 1) 1 false),qi 14 (.sob (.t 13)),mi 4 14] [] [4] [1012,150000,200000,200001]) .ret)))
theorem mc83 : ofCode Tryz.prog [12] Tryz.f83.ntmps [(0, ⟨[0, 1, 2], [1012, 150000, 200000, 200001], [], 0, [], none⟩),
  (1, ⟨[1], [1012, 150000, 200000, 200001], [(0, 387), (1, 386), (2, 492), (3, 488), (4, 496), (5, 480), (6, 448), (7, 0), (8, 0)], 127, [], none⟩),
  (2, ⟨[4], [1012, 150000, 200000, 200001], [], 0, [], none⟩)] (Tryz.f83.body.getD .skip) = some M83 := by kernel_rfl
theorem RunS83 {args : List AV} {st st' : List (Nat × Row)} {v : AV} (h : args.length ≤ 15) (hk : (st'.map (·.1)).Nodup) (hv : run Tryz.prog (retS [RV.tmp 4] v st') M83 [] ⟨entryA 0 args, st⟩) : FnS Tryz.prog 83 args st v st' :=
 FnS_run (by kernel_rfl) Tryz.func83 (by decide) rfl mc83 (by kernel_rfl) (by rw [Tryz.ntmps83]; exact h) (by rw [Tryz.ntmps83]; decide) hk hv
def B85_0 : MC := (.seq (.reg [qi 24 (.bin .lss (.t 23) (.t 22))] [] [1,2,4,21,22,23,24] [1016,1038,1045,150000,200000,200001,200002,200003]) (.seq (.cond (.t 24) .skip (.exit 0)) (.seq (.block 1 (.seq (.reg [qi 25 (.ia (.t 21) (.t 23) 1),qi 26 (.ld (.t 25) 1 false),mi 8 26] [] [1,2,4,8,21,22,23] [1016,1038,1045,150000,200000,200001,200002,200003]) (.seq (.reg [mi 27 8,qi 28 (.bin .eql (.t 27) (.c (.int .i64 (-1)))),mi 29 28,gi 30 29 false (.ld (.t 4) 1 false),gi 31 29 false (.mv (.t 8)),gi 32 29 false (.ia (.t 30) (.t 31) 1),gi 33 29 false (.ld (.t 32) 1 false),gi 34 29 false (.not (.t 33)),qi 35 (.pick (.t 29) (.c (.bool true)) (.t 34))] [] [1,2,4,8,21,22,23,35] [1016,1038,1045,150000,200000,200001,200002,200003]) (.cond (.t 35) (.reg [qi 36 (.ld (.t 1) 1 false),⟨some 37,none,.lits [.c (.int .i64 (-1))] 1⟩,⟨some 38,none,.calls (.f 84) [.t 36,.t 37]⟩,⟨none,none,.st (.t 1) (.t 38) 1⟩] [] [1,2,4,21,22,23] [1016,1038,1045,150000,200000,200001,200002,200003]) (.reg [qi 39 (.ld (.t 1) 1 false),qi 40 (.ld (.t 2) 1 false),mi 41 8,qi 42 (.ia (.t 40) (.t 41) 1),qi 43 (.ld (.t 42) 1 false),⟨some 44,none,.lits [.t 43] 1⟩,⟨some 45,none,.calls (.f 84) [.t 39,.t 44]⟩,⟨none,none,.st (.t 1) (.t 45) 1⟩] [] [1,2,4,21,22,23] [1016,1038,1045,150000,200000,200001,200002,200003]))))) (.reg [qi 46 (.bin .add (.t 23) (ic 1)),mi 23 46] [] [1,2,4,21,22,23] [1016,1038,1045,150000,200000,200001,200002,200003]))))
def R85_0 : MC := (.seq (.reg [qi 47 (.ld (.t 1) 1 false),qi 48 (.sob (.t 47)),mi 6 48] [] [6] [1016,1038,1045,150000,200000,200001,200002,200003]) .ret)
def M85 : MC := (.seq (.reg [qi 6 (.mv (.c (.string ⟨#[]⟩)))] [] [0,1,2,3,4] [1016,1038,1045,150000,200000,200001,200002,200003]) (.seq (.reg [qi 9 (.ld (.t 1) 1 false),qi 10 (.slc (.t 9) none (some (ic 0)) 1 false),qi 11 (.ld (.t 2) 1 false),mi 12 0,qi 13 (.ia (.t 11) (.t 12) 1),qi 14 (.ld (.t 13) 1 false),⟨some 15,none,.lits [.t 14] 1⟩,⟨some 16,none,.calls (.f 84) [.t 10,.t 15]⟩,⟨none,none,.st (.t 1) (.t 16) 1⟩] [] [0,1,2,3,4] [1016,1038,1045,150000,200000,200001,200002,200003]) (.seq (.seq (.reg [qi 17 (.fa (.t 3) 1),qi 18 (.ld (.t 17) 1 false),mi 19 0,qi 20 (.ia (.t 18) (.t 19) 1),qi 21 (.ld (.t 20) 1 false),qi 22 (.len (.t 21) false),qi 23 (.mv (ic 0))] [] [1,2,4,21,22,23] [1016,1038,1045,150000,200000,200001,200002,200003]) (.block 0 (.loop B85_0))) R85_0)))
theorem mc85 : ofCode Tryz.prog [16, 38, 45] Tryz.f85.ntmps [(0, ⟨[0, 1, 2, 3, 4], [1016, 1038, 1045, 150000, 200000, 200001, 200002, 200003], [], 0, [], none⟩),
  (1, ⟨[0, 1, 2, 3, 4], [1016, 1038, 1045, 150000, 200000, 200001, 200002, 200003], [(0, 387), (1, 386), (2, 500), (3, 504), (4, 496), (5, 480), (6, 0), (7, 0), (8, 0)], 127, [], none⟩),
  (2, ⟨[1, 2, 4, 21, 22, 23], [1016, 1038, 1045, 150000, 200000, 200001, 200002, 200003], [], 0, [], none⟩),
  (3, ⟨[1, 2, 4, 21, 22, 23, 24], [1016, 1038, 1045, 150000, 200000, 200001, 200002, 200003], [], 0, [], none⟩),
  (4, ⟨[1, 2, 4, 8, 21, 22, 23], [1016, 1038, 1045, 150000, 200000, 200001, 200002, 200003], [], 0, [], none⟩),
  (5, ⟨[1, 2, 4, 8, 21, 22, 23, 35], [1016, 1038, 1045, 150000, 200000, 200001, 200002, 200003], [], 0, [], none⟩),
  (6, ⟨[1, 2, 4, 21, 22, 23], [1016, 1038, 1045, 150000, 200000, 200001, 200002, 200003], [], 0, [], none⟩),
  (7, ⟨[1, 2, 4, 21, 22, 23], [1016, 1038, 1045, 150000, 200000, 200001, 200002, 200003], [(0, 193), (1, 250), (2, 252), (3, 248), (4, 240), (5, 0), (6, 0), (7, 0)], 63, [], none⟩),
  (8, ⟨[1, 2, 4, 21, 22, 23], [1016, 1038, 1045, 150000, 200000, 200001, 200002, 200003], [], 0, [], none⟩),
  (9, ⟨[6], [1016, 1038, 1045, 150000, 200000, 200001, 200002, 200003], [], 0, [], none⟩)] (Tryz.f85.body.getD .skip) = some M85 := by kernel_rfl
theorem RunS85 {args : List AV} {st st' : List (Nat × Row)} {v : AV} (h : args.length ≤ 49) (hk : (st'.map (·.1)).Nodup) (hv : run Tryz.prog (retS [RV.tmp 6] v st') M85 [] ⟨entryA 0 args, st⟩) : FnS Tryz.prog 85 args st v st' :=
 FnS_run (by kernel_rfl) Tryz.func85 (by decide) rfl mc85 (by kernel_rfl) (by rw [Tryz.ntmps85]; exact h) (by rw [Tryz.ntmps85]; decide) hk hv
end Go.Vc

namespace Go.Vc
open Go.Proofs Go.Shelf Go.RowKit
set_option linter.unusedSimpArgs false
set_option linter.unusedVariables false
def ren219 : Ren := ⟨fun n => if n = 219 then 144 else if n = 217 then 165 else if n = 225 then 166 else if n = 224 then 167 else if n = 267 then 168 else if n = 266 then 177 else if n = 314 then 178 else n,
 fun t => if t = 46 then 130 else if t = 146 then 199 else if t = 51 then 161 else t,
 fun g => if g = 1 then 2 else g⟩
def ren138 : Ren := ⟨fun n => if n = 138 then 113 else if n = 195 then 145 else if n = 218 then 147 else if n = 143 then 111 else if n = 219 then 144 else if n = 217 then 165 else if n = 225 then 166 else if n = 224 then 167 else if n = 267 then 168 else if n = 266 then 177 else if n = 314 then 178 else n,
 fun t => if t = 46 then 130 else if t = 146 then 199 else if t = 51 then 161 else t,
 fun g => if g = 1 then 2 else g⟩
theorem lays219 : Lays.n219 Tryz.prog ren219 where
 mixed := by kernel_rfl
 f217 := by kernel_rfl
 f219 := by kernel_rfl
 f224 := by kernel_rfl
 f225 := by kernel_rfl
 f266 := by kernel_rfl
 f267 := by kernel_rfl
 f314 := by kernel_rfl
 t3 := by kernel_rfl
 a3 := fun w => by kernel_rfl
 z3 := fun w => by kernel_rfl
 v3 := fun w => by kernel_rfl
 t4 := by kernel_rfl
 a4 := fun w => by kernel_rfl
 z4 := fun w => by kernel_rfl
 v4 := fun w => by kernel_rfl
 t5 := by kernel_rfl
 a5 := fun w => by kernel_rfl
 z5 := fun w => by kernel_rfl
 v5 := fun w => by kernel_rfl
 t9 := by kernel_rfl
 a9 := fun w => by kernel_rfl
 z9 := fun w => by kernel_rfl
 v9 := fun w => by kernel_rfl
 t46 := by kernel_rfl
 a46 := fun w => by kernel_rfl
 z46 := fun w => by kernel_rfl
 v46 := fun w => by kernel_rfl
 t51 := by kernel_rfl
 a51 := fun w => by kernel_rfl
 z51 := fun w => by kernel_rfl
 v51 := fun w => by kernel_rfl
 t146 := by kernel_rfl
 a146 := fun w => by kernel_rfl
 z146 := fun w => by kernel_rfl
 v146 := fun w => by kernel_rfl
 g1 := by kernel_rfl
theorem lays138 : Lays.n138 Tryz.prog ren138 where
 mixed := by kernel_rfl
 f138 := by kernel_rfl
 f143 := by kernel_rfl
 f195 := by kernel_rfl
 f217 := by kernel_rfl
 f218 := by kernel_rfl
 f219 := by kernel_rfl
 f224 := by kernel_rfl
 f225 := by kernel_rfl
 f266 := by kernel_rfl
 f267 := by kernel_rfl
 f314 := by kernel_rfl
 t0 := by kernel_rfl
 a0 := fun w => by kernel_rfl
 z0 := fun w => by kernel_rfl
 v0 := fun w => by kernel_rfl
 t3 := by kernel_rfl
 a3 := fun w => by kernel_rfl
 z3 := fun w => by kernel_rfl
 v3 := fun w => by kernel_rfl
 t4 := by kernel_rfl
 a4 := fun w => by kernel_rfl
 z4 := fun w => by kernel_rfl
 v4 := fun w => by kernel_rfl
 t5 := by kernel_rfl
 a5 := fun w => by kernel_rfl
 z5 := fun w => by kernel_rfl
 v5 := fun w => by kernel_rfl
 t9 := by kernel_rfl
 a9 := fun w => by kernel_rfl
 z9 := fun w => by kernel_rfl
 v9 := fun w => by kernel_rfl
 t46 := by kernel_rfl
 a46 := fun w => by kernel_rfl
 z46 := fun w => by kernel_rfl
 v46 := fun w => by kernel_rfl
 t51 := by kernel_rfl
 a51 := fun w => by kernel_rfl
 z51 := fun w => by kernel_rfl
 v51 := fun w => by kernel_rfl
 t146 := by kernel_rfl
 a146 := fun w => by kernel_rfl
 z146 := fun w => by kernel_rfl
 v146 := fun w => by kernel_rfl
 g1 := by kernel_rfl
theorem fn144 (s : ByteArray) : Fn Tryz.prog 144 [pS s, pS sDot] (.pv (pI (dotAt s))) [] := by
 refine ⟨enters_of (fn := Tryz.f144) Tryz.func144 (by decide) rfl, fun w F vs hF htb hv => ?_⟩
 simp only [PRels, PRel] at hv
 obtain ⟨u, r, rfl, rfl, u', r', rfl, rfl, rfl⟩ := hv
 have := Any.stringslite_Index_one lays219 s 46 w
 refine this.mono fun en w' ⟨e1, e2⟩ => ?_
 subst e1; subst e2
 refine ⟨_, ⟨w', F, fun _ => default⟩, rfl, rfl, ⟨Below.refl _ _, by simp [VRel, PRel, dotAt], fun i s xs h => by simp at h, fun i j hi => by simp at hi, fun i hi => by simp at hi, fun b => by simp⟩⟩
def dotsIn (s : ByteArray) : Nat := Lib.countByte s.data.toList 46
theorem fn113 (s : ByteArray) : Fn Tryz.prog 113 [pS s, pS sDot] (.pv (pI (dotsIn s))) [] := by
 refine ⟨enters_of (fn := Tryz.f113) Tryz.func113 (by decide) rfl, fun w F vs hF htb hv => ?_⟩
 simp only [PRels, PRel] at hv
 obtain ⟨u, r, rfl, rfl, u', r', rfl, rfl, rfl⟩ := hv
 have := Any.strings_Count_one lays138 s 46 w
 refine this.mono fun en w' ⟨e1, e2⟩ => ?_
 subst e1; subst e2
 refine ⟨_, ⟨w', F, fun _ => default⟩, rfl, rfl, ⟨Below.refl _ _, by simp [VRel, PRel, dotsIn], fun i s xs h => by simp at h, fun i j hi => by simp at hi, fun i hi => by simp at hi, fun b => by simp⟩⟩
theorem fn111 (s : ByteArray) : Fn Tryz.prog 111 [pS s, pS sDot] (.pv (pI (dotAt s))) [] := by
 refine Run111 [] (by simp) ?_
 simp only [go_sem, M111]
 refine runR_callf (by simp only [go_sem]) (by simp only [go_sem] <;> rfl) (fn144 s) ⟨rfl, trivial⟩ trivial ?_
 simp only [go_sem]
theorem fn118 (s : ByteArray) (hs : s.size ≤ 1000) : Fn Tryz.prog 118 [pS s, pS sDot] (.pv (.tup [pS (cutB s), pS (cutA s), pB (decide (0 ≤ dotAt s))])) [] := by
 refine Run118 [] (by simp) ?_
 simp only [go_sem, M118]
 refine runR_callf (by simp only [go_sem]) (by simp only [go_sem] <;> rfl) (fn144 s) ⟨rfl, trivial⟩ trivial ?_
 have hd := dotAt_lt s
 have e1 : sDot.size = 1 := rfl
 simp only [go_sem, e1]
 refine ⟨fun h => ⟨⟨h, by omega⟩, ⟨by omega, by omega⟩, ⟨by omega, by omega, by omega⟩, ?_⟩, fun h => ?_⟩
 ·have e2 : (dotAt s + ((1 : Nat) : Int)).toNat = (dotAt s).toNat + 1 := by omega
  have e3 : (dotAt s + 1).toNat = (dotAt s).toNat + 1 := by omega
  simp [e3, cutB, cutA, h]
 ·simp [cutB, cutA, h]
theorem fn102 (s : ByteArray) (hs : s.size ≤ 1000) : Fn Tryz.prog 102 [pS s, pS sDot] (.pv (.tup [pS (cutB s), pS (cutA s), pB (decide (0 ≤ dotAt s))])) [] := by
 refine Run102 [] (by simp) ?_
 simp only [go_sem, M102]
 refine runR_callf (by simp only [go_sem]) (by simp only [go_sem] <;> rfl) (fn118 s hs) ⟨rfl, trivial⟩ trivial ?_
 simp only [go_sem]
theorem cutL_count : ∀ l : List UInt8, (cutL l).length = Lib.countByte l 46 + 1
 | [] => rfl
 | c :: l => by
  have ih := cutL_count l
  unfold Lib.countByte at *
  simp only [cutL]
  split
  ·rename_i h; subst h; simp [ih]
  ·rename_i h
   rw [List.count_cons_of_ne h]
   cases h2 : cutL l with
   | nil => exact absurd h2 (cutL_ne l)
   | cons p ps => rw [h2] at ih; simpa [consH] using ih
theorem cutS_count (s : ByteArray) : (cutS s).length = dotsIn s + 1 := by unfold cutS dotsIn; rw [List.length_map, cutL_count]
theorem dots_le (s : ByteArray) : dotsIn s ≤ s.size := by
 have : dotsIn s ≤ s.data.toList.length := List.count_le_length
 simpa using this
abbrev ss (l : List ByteArray) : PV := .lst (l.map pS)
theorem wf_ss (l : List ByteArray) : WfL 1 (l.map pS) := wf_map (f := pS) (s := 1) (fun a => ⟨rfl, fun c hc => by simp only [PV.cells, List.mem_cons, List.not_mem_nil, or_false] at hc; subst hc; rfl⟩) l
theorem fill_set {α : Type} {f : α → PV} {A : List α} {z p : PV} {k : Nat} : (A.map f ++ List.replicate (k + 1) z).set A.length p = A.map f ++ p :: List.replicate k z := by
 rw [List.set_append_right _ _ (by simp)]
 simp [List.replicate_succ]
theorem fill_get {α : Type} {f : α → PV} {A : List α} {z : PV} {k : Nat} : (A.map f ++ List.replicate (k + 1) z).getD A.length default = z := by
 simp [List.getD_eq_getElem?_getD, List.replicate_succ]
theorem fn91 (s : ByteArray) (hs : s.size ≤ 1000) : Fn Tryz.prog 91 [pS s, pS sDot, pI 0, pI (-1)] (.pv (ss (cutS s))) [] := by
 refine Run91 [false] (by simp) ?_
 simp only [go_sem, M91]
 have hd := dots_le s
 have hc := cutS_count s
 have e1 : sDot.size = 1 := rfl
 refine ⟨fun h => absurd h (by decide), fun _ => ?_⟩
 refine runR_callf (by simp only [go_sem]) (by simp only [go_sem] <;> rfl) (fn113 s) ⟨rfl, trivial⟩ trivial ?_
 simp only [go_sem]
 refine ⟨⟨by omega, by omega⟩, ⟨by omega, by omega⟩, ?_⟩
 have hmin : (if (s.size : Int) + 1 < (dotsIn s : Int) + 1 then (s.size : Int) + 1 else (dotsIn s : Int) + 1) = (dotsIn s : Int) + 1 := by rw [if_neg (by omega)]
 simp only [go_sem, hmin]
 obtain ⟨N, hN⟩ : ∃ N, N = (cutS s).length := ⟨_, rfl⟩
 have hN2 : ((dotsIn s : Int) + 1).toNat = N := by omega
 rw [hN2]
 refine ⟨⟨by omega, by omega, by omega, by omega⟩, ⟨by omega, by omega⟩, ?_⟩
 refine run_loop (T := Nat × ByteArray) (fun t => ⟨[(0, .pv (pS t.2)), (1, .pv (pS sDot)), (2, .pv (pI 0)), (3, .pv (pI (dotsIn s + 1 - 1))), (9, .row 31 0 N), (10, .pv (pI t.1))], [(31, .sl 1 (((cutS s).take t.1).map pS ++ List.replicate (N - t.1) (pS ⟨#[]⟩)))]⟩) (fun t => t.1 < N ∧ cutS s = (cutS s).take t.1 ++ cutS t.2 ∧ t.2.size ≤ s.size) (fun t => N - t.1) ⟨0, s⟩ (by simp) ⟨by omega, by simp, Nat.le_refl _⟩ ?_
 rintro ⟨i, u⟩ ⟨hi, hq, hu⟩
 simp only at hi hq hu
 have hlen : ((cutS s).take i).length = i := by simp; omega
 have hul : (cutS u).length = N - i := by
  have := congrArg List.length hq
  rw [List.length_append, hlen] at this; omega
 obtain ⟨k, hk⟩ : ∃ k, N - i = k + 1 := ⟨N - i - 1, by omega⟩
 have hset := fill_set (f := pS) (A := (cutS s).take i) (z := pS ⟨#[]⟩) (p := pS (cutB u)) (k := k)
 have hset2 := fill_set (f := pS) (A := (cutS s).take i) (z := pS ⟨#[]⟩) (p := pS u) (k := k)
 have hget := fill_get (f := pS) (A := (cutS s).take i) (z := pS ⟨#[]⟩) (k := k)
 rw [hlen] at hset hset2 hget
 have hdl := dotAt_lt u
 by_cases hdt : 0 ≤ dotAt u
 ·have hcu := cutS_some hdt
  have hca := cutS_pos (cutA u)
  have hnext : (cutS s).take (i + 1) = (cutS s).take i ++ [cutB u] := by
   conv => lhs; rw [hq, hcu]
   rw [List.take_append, hlen, show i + 1 - i = 1 by omega, List.take_of_length_le (by omega)]; rfl
  rw [hcu, List.length_cons] at hul
  rw [hk]
  simp only [go_sem, B91_0, show (i : Int) < (dotsIn s : Int) + 1 - 1 by omega]
  refine runR_callf (by simp only [go_sem]) (by simp only [go_sem] <;> rfl) (fn111 u) ⟨rfl, trivial⟩ trivial ?_
  have hB : u.extract 0 (dotAt u + 0).toNat = cutB u := by unfold cutB; rw [if_pos hdt, Int.add_zero]
  have hA : u.extract (dotAt u + 1).toNat u.size = cutA u := by unfold cutA; rw [if_pos hdt, show (dotAt u + 1).toNat = (dotAt u).toNat + 1 by omega]
  have hcl := cutA_size u
  simp only [go_sem, e1, show ¬ dotAt u < 0 by omega, hget, hB, hA, hset]
  refine ⟨⟨by omega, by omega⟩, ⟨by omega, by omega⟩, by omega, by simp; omega, ⟨by omega, by omega⟩, ⟨by omega, by omega, by omega⟩, ⟨by omega, by omega⟩, ⟨i + 1, cutA u⟩, ?_, ⟨by simp only; omega, ?_, by simp only; omega⟩, by simp only; omega⟩
  ·rw [hnext, List.map_append, show N - (i + 1) = k by omega, List.append_assoc]; rfl
  ·simp only
   rw [hnext, List.append_assoc, hq, hcu]
   simp [hlen]
 ·have hcu := cutS_none hdt
  rw [hcu, List.length_singleton] at hul
  rw [hk]
  simp only [go_sem, B91_0, R91_0, show ¬ (i : Int) < (dotsIn s : Int) + 1 - 1 by omega, hget, hset2]
  refine ⟨by omega, by simp; omega, ⟨by omega, by omega⟩, ⟨by omega, by omega⟩, ?_⟩
  have hk0 : k = 0 := by omega
  subst hk0
  rw [show ((i : Int) + 1).toNat - 0 = i + 1 by omega, List.replicate_zero, ← List.map_singleton, ← List.map_append, ← hcu, ← hq, List.take_of_length_le (by simp; omega)]
end Go.Vc

namespace Go.Vc
open Go.Proofs
set_option maxRecDepth 100000
end Go.Vc

namespace Go.Vc
open Go.Proofs
set_option linter.unusedSimpArgs false
set_option linter.unusedVariables false
theorem fn63 (s : ByteArray) (hs : s.size ≤ 1000) : Fn Tryz.prog 63 [pS s, pS sDot] (.pv (ss (cutS s))) [] := by
 refine Run63 [] (by simp) ?_
 simp only [go_sem, M63]
 refine runR_call (by simp only [go_sem]) rfl (fn91 s hs) (.inl rfl) trivial ?_
 simp only [go_sem]
theorem fn103 (r : Int) : Fn Tryz.prog 103 [.sc (.int .i32 r)] (.pv (pB (okR r))) [] := by
 refine Run103 [] (by simp) ?_
 simp only [go_sem, M103]
 unfold okR
 by_cases h1 : 97 ≤ r <;> by_cases h2 : r ≤ 122 <;> by_cases h3 : 48 ≤ r <;> by_cases h4 : r ≤ 57 <;> by_cases h5 : r = 95 <;> simp [h1, h2, h3, h4, h5]
theorem decode_small {s : ByteArray} {i : Nat} (h : (s.get! i).toNat < 128) : Utf8.decode s i = ((s.get! i).toNat, 1) := by
 simp [Utf8.decode, h]
theorem decode_big {s : ByteArray} {i : Nat} (h : 128 ≤ (s.get! i).toNat) : 128 ≤ (Utf8.decode s i).1 := by
 unfold Utf8.decode
 simp only [Nat.add_zero]
 rw [if_neg (by omega)]
 repeat' split
 all_goals simp only [Utf8.runeError, Bool.and_eq_true, decide_eq_true_eq, ge_iff_le] at * <;> omega
theorem get_list {s : ByteArray} {i : Nat} (h : i < s.size) : s.get! i = s.data.toList[i]'(by simpa using h) := by
 obtain ⟨a⟩ := s
 have h' : i < a.size := h
 simp [ByteArray.get!, h']
theorem fn74 (s : ByteArray) : Fn Tryz.prog 74 [pS s] (.pv (pB (partB s))) [] := by
 refine Run74 [] (by simp) ?_
 simp only [go_sem, M74]
 refine run_loop (T := Nat × List (Nat × AV)) (fun t => ⟨[(0, .pv (pS s)), (3, .fn 103 []), (7, .it 7)] ++ t.2, [(7, .sit s t.1)]⟩) (fun t => t.1 ≤ s.size ∧ ∀ j (h : j < s.data.toList.length), j < t.1 → okR s.data.toList[j].toNat = true) (fun t => s.size - t.1) ⟨0, []⟩ rfl ⟨Nat.zero_le _, fun j _ h => absurd h (by omega)⟩ ?_
 rintro ⟨i, ex⟩ ⟨hi, hq⟩
 simp only at hi hq
 have hsz : s.data.toList.length = s.size := by simp
 by_cases hlt : i < s.size
 ·have hg := get_list hlt
  have hmem : s.data.toList[i]'(by omega) ∈ s.data.toList := List.getElem_mem _
  have no : okR (s.get! i).toNat = false → partB s = false := fun h => by
   unfold partB
   rw [Bool.and_eq_false_iff, List.all_eq_false]
   right
   exact ⟨_, hmem, by rw [← hg, h]; simp⟩
  by_cases hb : (s.get! i).toNat < 128
  ·simp only [go_sem, B74_0, hlt, decode_small hb]
   refine runR_callf (by simp only [go_sem]) (by simp only [go_sem] <;> rfl) (fn103 (((s.get! i).toNat : Nat) : Int)) ⟨rfl, trivial⟩ trivial ?_
   simp only [go_sem]
   refine ⟨fun h => ?_, fun h => ⟨⟨i + 1, [(14, .pv (pB false))]⟩, by rw [h]; rfl, ⟨hlt, fun j hj hji => ?_⟩, by simp only; omega⟩⟩
   ·rw [no h]
   ·by_cases hji2 : j = i
    ·subst hji2; rw [← hg]; exact h
    ·exact hq j hj (by simp only at hji; omega)
  ·have hbig := decode_big (s := s) (i := i) (by omega)
   have h1 : okR (s.get! i).toNat = false := by simp [okR]; omega
   have h2 : okR (((Utf8.decode s i).1 : Nat) : Int) = false := by simp [okR]; omega
   simp only [go_sem, B74_0, hlt]
   refine runR_callf (by simp only [go_sem]) (by simp only [go_sem] <;> rfl) (fn103 (((Utf8.decode s i).1 : Nat) : Int)) ⟨rfl, trivial⟩ trivial ?_
   simp only [go_sem, h2]
   rw [no h1]
 ·simp only [go_sem, B74_0, R74_0, hlt]
  have : s.data.toList.all (fun b => okR b.toNat) = true := List.all_eq_true.2 fun b hb => by
   obtain ⟨j, hj, rfl⟩ := List.mem_iff_getElem.1 hb
   exact hq j hj (by omega)
  unfold partB
  rw [this]
  simp
theorem fn73 (s : ByteArray) : Fn Tryz.prog 73 [pS s] (.pv (pB (globP s))) [] := by
 refine Run73 [] (by simp) ?_
 simp only [go_sem, M73]
 refine runR_callgf (by simp only [go_sem]) (by simp only [go_sem]) (by simp only [go_sem] <;> rfl) (fun _ => fn74 s) rfl ?_
 simp only [go_sem]
 unfold globP
 by_cases h1 : s = sAny <;> by_cases h2 : s = sAll <;> simp [h1, h2]
theorem fn72 (g : Nat) (may : ByteArray → Bool) (hg : ∀ u, Fn Tryz.prog g [pS u] (.pv (pB (may u))) []) (s : ByteArray) : Fn Tryz.prog 72 [pS s, .fn g []] (.pv (pB (nameB may s))) [] := by
 have e : nameB may s = (decide (s.size ≤ 40) && allN may 8 s) := by unfold nameB; rw [allN_cut]
 rw [e]
 refine Run72 [] (by simp) ?_
 simp only [go_sem, M72]
 refine ⟨fun h => ?_, fun h => ?_⟩
 ·simp [show ¬ s.size ≤ 40 by omega]
 ·have h40 : s.size ≤ 40 := by omega
  simp only [h40, decide_true, Bool.true_and]
  obtain ⟨R, hR⟩ : ∃ R, allN may 8 s = R := ⟨_, rfl⟩
  rw [hR]
  refine run_loop (T := Nat × ByteArray × List (Nat × AV)) (fun t => ⟨[(0, .pv (pS t.2.1)), (1, .pv (.fn g [])), (11, .pv (pI t.1))] ++ t.2.2, []⟩) (fun t => t.1 ≤ 8 ∧ t.2.1.size ≤ 40 ∧ allN may (8 - t.1) t.2.1 = R) (fun t => 8 - t.1) ⟨0, s, []⟩ rfl ⟨Nat.zero_le _, h40, hR⟩ ?_
  rintro ⟨i, u, ex⟩ ⟨hi, hu, hq⟩
  simp only at hi hu hq
  by_cases hlt : i < 8
  ·obtain ⟨n, hn⟩ : ∃ n, 8 - i = n + 1 := ⟨7 - i, by omega⟩
   have hn2 : 8 - (i + 1) = n := by omega
   rw [hn] at hq
   simp only [allN] at hq
   have hca := cutA_size u
   simp only [go_sem, B72_0, show (i : Int) < 8 by omega]
   refine runR_callf (by simp only [go_sem]) (by simp only [go_sem] <;> rfl) (fn102 u (by omega)) ⟨rfl, trivial⟩ trivial ?_
   simp only [go_sem]
   refine runR_callf (by simp only [go_sem]) (by simp only [go_sem] <;> rfl) (hg (cutB u)) ⟨rfl, trivial⟩ trivial ?_
   simp only [go_sem]
   refine ⟨fun h => ?_, fun h => ⟨fun hd => ?_, fun hd => ⟨⟨by omega, by omega⟩, ⟨i + 1, cutA u, []⟩, rfl, ⟨by simp only; omega, by simp only; omega, ?_⟩, by simp only; omega⟩⟩⟩
   ·rw [← hq, h]; rfl
   ·rw [← hq, h]; simp [hd]
   ·simp only [hn2]
    rw [← hq, h]; simp [hd]
  ·simp only [go_sem, B72_0, R72_0, show ¬ (i : Int) < 8 by omega]
   rw [show 8 - i = 0 by omega] at hq
   simpa [allN] using hq
theorem fn56 (s : ByteArray) : Fn Tryz.prog 56 [pS s] (.pv (pB (topicB s))) [] := by
 refine Run56 [] (by simp) ?_
 simp only [go_sem, M56]
 refine runR_callf (by simp only [go_sem]) (by simp only [go_sem] <;> rfl) (fn72 74 partB fn74 s) ⟨rfl, trivial⟩ trivial ?_
 simp only [go_sem]
 rfl
theorem fn39 (s : ByteArray) : Fn Tryz.prog 39 [pS s] (.pv (pB (globB s))) [] := by
 refine Run39 [] (by simp) ?_
 simp only [go_sem, M39]
 refine runR_callf (by simp only [go_sem]) (by simp only [go_sem] <;> rfl) (fn72 73 globP fn73 s) ⟨rfl, trivial⟩ trivial ?_
 simp only [go_sem]
 rfl
theorem fn41 (s : ByteArray) (hs : s.size ≤ 1000) : Fn Tryz.prog 41 [pS s] (.pv (ss (partsB s))) [] := by
 refine Run41 [] (by simp) ?_
 simp only [go_sem, M41]
 refine runR_callf (by simp only [go_sem]) (by simp only [go_sem] <;> rfl) (fn39 s) ⟨rfl, trivial⟩ trivial ?_
 simp only [go_sem]
 unfold partsB
 refine ⟨fun h => by rw [if_neg (by rw [h]; simp)]; rfl, fun h => ?_⟩
 rw [if_pos h]
 refine runR_call (by simp only [go_sem]) rfl (fn63 s hs) (.inl rfl) trivial ?_
 simp only [go_sem]
end Go.Vc
