/- A part of the proofs of the seat YtokkhebhjijnhaaDoor: the contracts of functions, each proved out of its code. -/
import Derived.Test.YtokkhebhjijnhaaDoorVh
import Derived.Test.YtokkhebhjijnhaaDoorProg
import Derived.Test.YtokkhebhjijnhaaDoorNa
import Derived.Shelf.Strings.Search2
import Derived.Shelf.Strings.Count
import Derived.Shelf.Small.Strs
namespace Go.Vc
open Go.Proofs
set_option maxRecDepth 100000

/-- 'trystlaw02.Few' -/
def M10 : MC := (.seq (.reg [⟨(some 2), none, (.q (.mv (.c (.string ⟨#[]⟩))))⟩] [] [0] []) (.seq (.seq (.reg [⟨(some 3), none, (.q (.mv (.t 0)))⟩, ⟨(some 4), none, (.q (.len (.t 3) true))⟩, ⟨(some 5),
  none, (.q (.bin .gtr (.t 4) (.c (.int .i64 60))))⟩] [] [0, 5] []) (.cond (.t 5) (.seq (.reg [⟨(some 6), none, (.q (.mv (.t 0)))⟩, ⟨(some 7), none, (.q (.slc (.t 6) none (some (.c (.int .i64 60)))
  0 true))⟩, ⟨(some 2), none, (.q (.mv (.t 7)))⟩] [] [2] []) .ret) .skip)) (.seq (.reg [⟨(some 8), none, (.q (.mv (.t 0)))⟩, ⟨(some 2), none, (.q (.mv (.t 8)))⟩] [] [2] []) .ret)))
theorem mc10 : ofCode Tryd.prog [] Tryd.f10.ntmps [(0, ⟨[0], [], [], 0, [], none⟩),
    (1, ⟨[0, 5], [], [], 0, [], none⟩),
    (2, ⟨[2], [], [], 0, [], none⟩),
    (3, ⟨[2], [], [], 0, [], none⟩)] (Tryd.f10.body.getD .skip) = some M10 := by kernel_rfl
theorem Run10 {args : List PV} {v : AV} {rs : List (Nat × List PV)} (ids : List Bool) (h : args.length ≤ 9) (hv : run Tryd.prog (retK [RV.tmp 2] ids v rs) M10 [] ⟨entry 0 args, []⟩) : Fn Tryd.prog 10 args v rs :=
  Fn_run ids (by kernel_rfl) Tryd.func10 (by decide) rfl mc10 (by kernel_rfl) (by rw [Tryd.ntmps10]; exact h) (by rw [Tryd.ntmps10]; decide) hv

/-- 'name.Topic' -/
def M36 : MC := (.seq (.reg [⟨(some 2), none, (.q (.mv (.c (.bool false))))⟩] [] [0] []) (.seq (.reg [⟨(some 3), none, (.q (.mv (.t 0)))⟩, ⟨(some 4), none, (.call (.f 40) [(.t 3), (.f 42)])⟩,
  ⟨(some 2), none, (.q (.mv (.t 4)))⟩] [] [2] [1004]) .ret))
theorem mc36 : ofCode Tryd.prog [] Tryd.f36.ntmps [(0, ⟨[0], [], [], 0, [], none⟩),
    (1, ⟨[2], [1004], [], 0, [], none⟩)] (Tryd.f36.body.getD .skip) = some M36 := by kernel_rfl
theorem Run36 {args : List PV} {v : AV} {rs : List (Nat × List PV)} (ids : List Bool) (h : args.length ≤ 5) (hv : run Tryd.prog (retK [RV.tmp 2] ids v rs) M36 [] ⟨entry 0 args, []⟩) : Fn Tryd.prog 36 args v rs :=
  Fn_run ids (by kernel_rfl) Tryd.func36 (by decide) rfl mc36 (by kernel_rfl) (by rw [Tryd.ntmps36]; exact h) (by rw [Tryd.ntmps36]; decide) hv

/-- 'name.Glob' -/
def M25 : MC := (.seq (.reg [⟨(some 2), none, (.q (.mv (.c (.bool false))))⟩] [] [0] []) (.seq (.reg [⟨(some 3), none, (.q (.mv (.t 0)))⟩, ⟨(some 4), none, (.call (.f 40) [(.t 3), (.f 41)])⟩,
  ⟨(some 2), none, (.q (.mv (.t 4)))⟩] [] [2] [1004]) .ret))
theorem mc25 : ofCode Tryd.prog [] Tryd.f25.ntmps [(0, ⟨[0], [], [], 0, [], none⟩),
    (1, ⟨[2], [1004], [], 0, [], none⟩)] (Tryd.f25.body.getD .skip) = some M25 := by kernel_rfl
theorem Run25 {args : List PV} {v : AV} {rs : List (Nat × List PV)} (ids : List Bool) (h : args.length ≤ 5) (hv : run Tryd.prog (retK [RV.tmp 2] ids v rs) M25 [] ⟨entry 0 args, []⟩) : Fn Tryd.prog 25 args v rs :=
  Fn_run ids (by kernel_rfl) Tryd.func25 (by decide) rfl mc25 (by kernel_rfl) (by rw [Tryd.ntmps25]; exact h) (by rw [Tryd.ntmps25]; decide) hv

/-- 'name.Parts' -/
def M27 : MC := (.seq (.reg [⟨(some 2), none, (.q (.mv .nil))⟩] [] [0] []) (.seq (.seq (.reg [⟨(some 3), none, (.q (.mv (.t 0)))⟩, ⟨(some 4), none, (.call (.f 25) [(.t 3)])⟩, ⟨(some 5), none,
  (.q (.not (.t 4)))⟩] [] [0, 5] [1004]) (.cond (.t 5) (.seq (.reg [⟨(some 2), none, (.q (.mv .nil))⟩] [] [2] [1007]) .ret) .skip)) (.seq (.reg [⟨(some 6), none, (.q (.mv (.t 0)))⟩, ⟨(some 7), none,
  (.call (.f 45) [(.t 6), (.c (.string ⟨#[46]⟩))])⟩, ⟨(some 2), none, (.q (.mv (.t 7)))⟩] [] [2] [1007]) .ret)))
theorem mc27 : ofCode Tryd.prog [] Tryd.f27.ntmps [(0, ⟨[0], [], [], 0, [], none⟩),
    (1, ⟨[0, 5], [1004], [], 0, [], none⟩),
    (2, ⟨[2], [1007], [], 0, [], none⟩),
    (3, ⟨[2], [1007], [], 0, [], none⟩)] (Tryd.f27.body.getD .skip) = some M27 := by kernel_rfl
theorem Run27 {args : List PV} {v : AV} {rs : List (Nat × List PV)} (ids : List Bool) (h : args.length ≤ 8) (hv : run Tryd.prog (retK [RV.tmp 2] ids v rs) M27 [] ⟨entry 0 args, []⟩) : Fn Tryd.prog 27 args v rs :=
  Fn_run ids (by kernel_rfl) Tryd.func27 (by decide) rfl mc27 (by kernel_rfl) (by rw [Tryd.ntmps27]; exact h) (by rw [Tryd.ntmps27]; decide) hv

/-- 'strings.Split' -/
def M45 : MC := (.seq (.reg [⟨(some 4), none, (.q (.mv .nil))⟩] [] [0, 1] []) (.seq (.reg [⟨(some 5), none, (.q (.mv (.t 0)))⟩, ⟨(some 6), none, (.q (.mv (.t 1)))⟩, ⟨(some 7), none, (.call (.f 55)
  [(.t 5), (.t 6), (.c (.int .i64 0)), (.c (.int .i64 (-1)))])⟩, ⟨(some 4), none, (.q (.mv (.t 7)))⟩] [] [4] [1007]) .ret))
theorem mc45 : ofCode Tryd.prog [] Tryd.f45.ntmps [(0, ⟨[0, 1], [], [], 0, [], none⟩),
    (1, ⟨[4], [1007], [], 0, [], none⟩)] (Tryd.f45.body.getD .skip) = some M45 := by kernel_rfl
theorem Run45 {args : List PV} {v : AV} {rs : List (Nat × List PV)} (ids : List Bool) (h : args.length ≤ 8) (hv : run Tryd.prog (retK [RV.tmp 4] ids v rs) M45 [] ⟨entry 0 args, []⟩) : Fn Tryd.prog 45 args v rs :=
  Fn_run ids (by kernel_rfl) Tryd.func45 (by decide) rfl mc45 (by kernel_rfl) (by rw [Tryd.ntmps45]; exact h) (by rw [Tryd.ntmps45]; decide) hv

/-- 'name.all' -/
def B40_0 : MC := (.seq (.reg [⟨(some 12), none, (.q (.bin .lss (.t 11) (.c (.int .i64 8))))⟩] [] [0, 1, 11, 12] [1015]) (.seq (.cond (.t 12) .skip (.exit 0)) (.seq (.block 1 (.seq (.reg [⟨(some 14),
  none, (.q (.mv (.t 0)))⟩, ⟨(some 15), none, (.call (.f 51) [(.t 14), (.c (.string ⟨#[46]⟩))])⟩, ⟨(some 13), none, (.q (.mv (.t 15)))⟩, ⟨(some 16), none, (.q (.ext (.t 13) 0))⟩, ⟨(some 17), none,
  (.q (.ext (.t 13) 1))⟩, ⟨(some 18), none, (.q (.ext (.t 13) 2))⟩, ⟨(some 5), none, (.q (.mv (.t 16)))⟩, ⟨(some 6), none, (.q (.mv (.t 17)))⟩, ⟨(some 7), none, (.q (.mv (.t 18)))⟩] [] [1, 5, 6, 7,
  11] [1015]) (.seq (.seq (.reg [⟨(some 19), none, (.q (.mv (.t 1)))⟩, ⟨(some 20), none, (.q (.mv (.t 5)))⟩, ⟨(some 21), none, (.call (.t 19) [(.t 20)])⟩, ⟨(some 22), none,
  (.q (.not (.t 21)))⟩] [] [1, 6, 7, 11, 22] [1015, 1021]) (.cond (.t 22) (.seq (.reg [⟨(some 4), none, (.q (.mv (.c (.bool false))))⟩] [] [4] []) .ret) .skip)) (.seq (.seq (.reg [⟨(some 23), none,
  (.q (.mv (.t 7)))⟩, ⟨(some 24), none, (.q (.not (.t 23)))⟩] [] [1, 6, 11, 24] [1015]) (.cond (.t 24) (.seq (.reg [⟨(some 4), none, (.q (.mv (.c (.bool true))))⟩] [] [4] []) .ret) .skip))
  (.reg [⟨(some 25), none, (.q (.mv (.t 6)))⟩, ⟨(some 0), none, (.q (.mv (.t 25)))⟩] [] [0, 1, 11] [1015]))))) (.reg [⟨(some 26), none, (.q (.bin .add (.t 11) (.c (.int .i64 1))))⟩, ⟨(some 11), none,
  (.q (.mv (.t 26)))⟩] [] [0, 1, 11] [1015]))))
def R40_0 : MC := (.seq (.reg [⟨(some 4), none, (.q (.mv (.c (.bool false))))⟩] [] [4] []) .ret)
def M40 : MC := (.seq (.reg [⟨(some 4), none, (.q (.mv (.c (.bool false))))⟩] [] [0, 1] [1015]) (.seq (.seq (.reg [⟨(some 8), none, (.q (.mv (.t 0)))⟩, ⟨(some 9), none, (.q (.len (.t 8) true))⟩,
  ⟨(some 10), none, (.q (.bin .gtr (.t 9) (.c (.int .i64 40))))⟩] [] [0, 1, 10] [1015]) (.cond (.t 10) (.seq (.reg [⟨(some 4), none, (.q (.mv (.c (.bool false))))⟩] [] [4] []) .ret) .skip))
  (.seq (.seq (.reg [⟨(some 11), none, (.q (.mv (.c (.int .i64 0))))⟩] [] [0, 1, 11] [1015]) (.block 0 (.loop B40_0))) R40_0)))
theorem mc40 : ofCode Tryd.prog [] Tryd.f40.ntmps [(0, ⟨[0, 1], [1015], [], 0, [], none⟩),
    (1, ⟨[0, 1, 10], [1015], [], 0, [], none⟩),
    (2, ⟨[4], [], [], 0, [], none⟩),
    (3, ⟨[0, 1, 11], [1015], [], 0, [], none⟩),
    (4, ⟨[0, 1, 11, 12], [1015], [], 0, [], none⟩),
    (5, ⟨[1, 5, 6, 7, 11], [1015], [], 0, [], none⟩),
    (6, ⟨[1, 6, 7, 11, 22], [1015, 1021], [], 0, [], none⟩),
    (7, ⟨[4], [], [], 0, [], none⟩),
    (8, ⟨[1, 6, 11, 24], [1015], [], 0, [], none⟩),
    (9, ⟨[4], [], [], 0, [], none⟩),
    (10, ⟨[0, 1, 11], [1015], [], 0, [], none⟩),
    (11, ⟨[0, 1, 11], [1015], [], 0, [], none⟩),
    (12, ⟨[4], [], [], 0, [], none⟩)] (Tryd.f40.body.getD .skip) = some M40 := by kernel_rfl
theorem Run40 {args : List PV} {v : AV} {rs : List (Nat × List PV)} (ids : List Bool) (h : args.length ≤ 27) (hv : run Tryd.prog (retK [RV.tmp 4] ids v rs) M40 [] ⟨entry 0 args, []⟩) : Fn Tryd.prog 40 args v rs :=
  Fn_run ids (by kernel_rfl) Tryd.func40 (by decide) rfl mc40 (by kernel_rfl) (by rw [Tryd.ntmps40]; exact h) (by rw [Tryd.ntmps40]; decide) hv

/-- 'name.part' -/
def B42_0 : MC := (.seq (.reg [⟨(some 8), none, (.nxts (.t 7))⟩, ⟨(some 9), none, (.q (.ext (.t 8) 0))⟩] [] [0, 3, 7, 8, 9] [7]) (.seq (.cond (.t 9) .skip (.exit 0)) (.block 1 (.seq (.reg [⟨(some 10),
  none, (.q (.ext (.t 8) 2))⟩, ⟨(some 5), none, (.q (.mv (.t 10)))⟩] [] [0, 3, 5, 7] [7]) (.seq (.reg [⟨(some 11), none, (.q (.mv (.t 3)))⟩, ⟨(some 12), none, (.q (.mv (.t 5)))⟩, ⟨(some 13), none,
  (.call (.t 11) [(.t 12)])⟩, ⟨(some 14), none, (.q (.not (.t 13)))⟩] [] [0, 3, 7, 14] [7, 1013]) (.cond (.t 14) (.seq (.reg [⟨(some 2), none, (.q (.mv (.c (.bool false))))⟩] [] [2] []) .ret)
  .skip))))))
def R42_0 : MC := (.seq (.reg [⟨(some 15), none, (.q (.mv (.t 0)))⟩, ⟨(some 16), none, (.q (.bin .neq (.t 15) (.c (.string ⟨#[]⟩))))⟩, ⟨(some 2), none, (.q (.mv (.t 16)))⟩] [] [2] []) .ret)
def M42 : MC := (.seq (.reg [⟨(some 2), none, (.q (.mv (.c (.bool false))))⟩] [] [0] []) (.seq (.reg [⟨(some 3), none, (.q (.mv (.f 52)))⟩] [] [0, 3] []) (.seq (.seq (.reg [⟨(some 6), none,
  (.q (.mv (.t 0)))⟩, ⟨(some 7), none, (.rngs (.t 6))⟩] [] [0, 3, 7] [7]) (.block 0 (.loop B42_0))) R42_0)))
theorem mc42 : ofCode Tryd.prog [] Tryd.f42.ntmps [(0, ⟨[0], [], [], 0, [], none⟩),
    (1, ⟨[0, 3], [], [], 0, [], none⟩),
    (2, ⟨[0, 3, 7], [7], [], 0, [], none⟩),
    (3, ⟨[0, 3, 7, 8, 9], [7], [], 0, [], none⟩),
    (4, ⟨[0, 3, 5, 7], [7], [], 0, [], none⟩),
    (5, ⟨[0, 3, 7, 14], [7, 1013], [], 0, [], none⟩),
    (6, ⟨[2], [], [], 0, [], none⟩),
    (7, ⟨[2], [], [], 0, [], none⟩)] (Tryd.f42.body.getD .skip) = some M42 := by kernel_rfl
theorem Run42 {args : List PV} {v : AV} {rs : List (Nat × List PV)} (ids : List Bool) (h : args.length ≤ 17) (hv : run Tryd.prog (retK [RV.tmp 2] ids v rs) M42 [] ⟨entry 0 args, []⟩) : Fn Tryd.prog 42 args v rs :=
  Fn_run ids (by kernel_rfl) Tryd.func42 (by decide) rfl mc42 (by kernel_rfl) (by rw [Tryd.ntmps42]; exact h) (by rw [Tryd.ntmps42]; decide) hv

/-- 'name.Glob.1' -/
def M41 : MC := (.seq (.reg [⟨(some 2), none, (.q (.mv (.c (.bool false))))⟩] [] [0] []) (.seq (.reg [⟨(some 3), none, (.q (.mv (.t 0)))⟩, ⟨(some 4), none, (.q (.bin .eql (.t 3)
  (.c (.string ⟨#[42]⟩))))⟩, ⟨(some 5), none, (.q (.mv (.t 4)))⟩, ⟨(some 6), (some (5, false)), (.q (.mv (.t 0)))⟩, ⟨(some 7), (some (5, false)), (.q (.bin .eql (.t 6) (.c (.string ⟨#[42, 42]⟩))))⟩,
  ⟨(some 8), none, (.q (.pick (.t 5) (.c (.bool true)) (.t 7)))⟩, ⟨(some 9), none, (.q (.mv (.t 8)))⟩, ⟨(some 10), (some (9, false)), (.q (.mv (.t 0)))⟩, ⟨(some 11), (some (9, false)), (.call (.f 42)
  [(.t 10)])⟩, ⟨(some 12), none, (.q (.pick (.t 9) (.c (.bool true)) (.t 11)))⟩, ⟨(some 2), none, (.q (.mv (.t 12)))⟩] [] [2] [1011]) .ret))
theorem mc41 : ofCode Tryd.prog [] Tryd.f41.ntmps [(0, ⟨[0], [], [], 0, [], none⟩),
    (1, ⟨[2], [1011], [], 0, [], none⟩)] (Tryd.f41.body.getD .skip) = some M41 := by kernel_rfl
theorem Run41 {args : List PV} {v : AV} {rs : List (Nat × List PV)} (ids : List Bool) (h : args.length ≤ 13) (hv : run Tryd.prog (retK [RV.tmp 2] ids v rs) M41 [] ⟨entry 0 args, []⟩) : Fn Tryd.prog 41 args v rs :=
  Fn_run ids (by kernel_rfl) Tryd.func41 (by decide) rfl mc41 (by kernel_rfl) (by rw [Tryd.ntmps41]; exact h) (by rw [Tryd.ntmps41]; decide) hv

/-- 'strings.genSplit' -/
def B55_0 : MC := (.seq (.seq (.reg [⟨(some 34), none, (.q (.mv (.t 10)))⟩, ⟨(some 35), none, (.q (.mv (.t 3)))⟩, ⟨(some 36), none, (.q (.bin .lss (.t 34) (.t 35)))⟩] [] [0, 1, 2, 3, 9, 10, 36] [31,
  1023, 1039]) (.cond (.t 36) .skip (.exit 0))) (.block 1 (.seq (.reg [⟨(some 37), none, (.q (.mv (.t 0)))⟩, ⟨(some 38), none, (.q (.mv (.t 1)))⟩, ⟨(some 39), none, (.call (.f 71) [(.t 37),
  (.t 38)])⟩, ⟨(some 11), none, (.q (.mv (.t 39)))⟩] [] [0, 1, 2, 3, 9, 10, 11] [31, 1023, 1039]) (.seq (.seq (.reg [⟨(some 40), none, (.q (.mv (.t 11)))⟩, ⟨(some 41), none, (.q (.bin .lss (.t 40)
  (.c (.int .i64 0))))⟩] [] [0, 1, 2, 3, 9, 10, 11, 41] [31, 1023, 1039]) (.cond (.t 41) (.exit 0) .skip)) (.seq (.reg [⟨(some 42), none, (.q (.mv (.t 9)))⟩, ⟨(some 43), none, (.q (.mv (.t 10)))⟩,
  ⟨(some 44), none, (.q (.mv (.t 0)))⟩, ⟨(some 45), none, (.q (.mv (.t 11)))⟩, ⟨(some 46), none, (.q (.mv (.t 2)))⟩, ⟨(some 47), none, (.q (.bin .add (.t 45) (.t 46)))⟩, ⟨(some 48), none,
  (.q (.slc (.t 44) none (some (.t 47)) 0 true))⟩, ⟨(some 49), none, (.q (.ia (.t 42) (.t 43) 1))⟩, ⟨none, none, (.st (.t 49) (.t 48) 1)⟩] [] [0, 1, 2, 3, 9, 10, 11] [31, 1023, 1039])
  (.seq (.reg [⟨(some 50), none, (.q (.mv (.t 0)))⟩, ⟨(some 51), none, (.q (.mv (.t 11)))⟩, ⟨(some 52), none, (.q (.mv (.t 1)))⟩, ⟨(some 53), none, (.q (.len (.t 52) true))⟩, ⟨(some 54), none,
  (.q (.bin .add (.t 51) (.t 53)))⟩, ⟨(some 55), none, (.q (.slc (.t 50) (some (.t 54)) none 0 true))⟩, ⟨(some 0), none, (.q (.mv (.t 55)))⟩] [] [0, 1, 2, 3, 9, 10] [31, 1023, 1039])
  (.reg [⟨(some 56), none, (.q (.mv (.t 10)))⟩, ⟨(some 57), none, (.q (.bin .add (.t 56) (.c (.int .i64 1))))⟩, ⟨(some 10), none, (.q (.mv (.t 57)))⟩] [] [0, 1, 2, 3, 9, 10] [31, 1023, 1039])))))))
def R55_0 : MC := (.seq (.reg [⟨(some 58), none, (.q (.mv (.t 9)))⟩, ⟨(some 59), none, (.q (.mv (.t 10)))⟩, ⟨(some 60), none, (.q (.mv (.t 0)))⟩, ⟨(some 61), none, (.q (.ia (.t 58) (.t 59) 1))⟩,
  ⟨none, none, (.st (.t 61) (.t 60) 1)⟩] [] [9, 10] [31, 1039]) (.seq (.reg [⟨(some 62), none, (.q (.mv (.t 9)))⟩, ⟨(some 63), none, (.q (.mv (.t 10)))⟩, ⟨(some 64), none, (.q (.bin .add (.t 63)
  (.c (.int .i64 1))))⟩, ⟨(some 65), none, (.q (.slc (.t 62) none (some (.t 64)) 1 false))⟩, ⟨(some 8), none, (.q (.mv (.t 65)))⟩] [] [8] [31, 1018, 1039]) .ret))
def M55 : MC := (.seq (.reg [⟨(some 8), none, (.q (.mv .nil))⟩] [] [0, 1, 2, 3] [1023, 1039]) (.seq (.seq (.reg [⟨(some 12), none, (.q (.mv (.t 3)))⟩, ⟨(some 13), none, (.q (.bin .eql (.t 12)
  (.c (.int .i64 0))))⟩] [] [0, 1, 2, 3, 13] [1023, 1039]) (.cond (.t 13) (.seq (.reg [⟨(some 8), none, (.q (.mv .nil))⟩] [] [8] [31, 1018, 1039]) .ret) .skip)) (.seq (.seq (.reg [⟨(some 14), none,
  (.q (.mv (.t 1)))⟩, ⟨(some 15), none, (.q (.bin .eql (.t 14) (.c (.string ⟨#[]⟩))))⟩] [] [0, 1, 2, 3, 15] [1023, 1039]) (.cond (.t 15) (.seq (.reg [⟨(some 16), none, (.q (.mv (.t 0)))⟩, ⟨(some 17),
  none, (.q (.mv (.t 3)))⟩, ⟨(some 18), none, (.call (.f 69) [(.t 16), (.t 17)])⟩, ⟨(some 8), none, (.q (.mv (.t 18)))⟩] [] [8] [31, 1018, 1039]) .ret) .skip)) (.seq (.seq (.reg [⟨(some 19), none,
  (.q (.mv (.t 3)))⟩, ⟨(some 20), none, (.q (.bin .lss (.t 19) (.c (.int .i64 0))))⟩] [] [0, 1, 2, 3, 20] [1023, 1039]) (.cond (.t 20) (.reg [⟨(some 21), none, (.q (.mv (.t 0)))⟩, ⟨(some 22), none,
  (.q (.mv (.t 1)))⟩, ⟨(some 23), none, (.call (.f 70) [(.t 21), (.t 22)])⟩, ⟨(some 24), none, (.q (.bin .add (.t 23) (.c (.int .i64 1))))⟩, ⟨(some 3), none, (.q (.mv (.t 24)))⟩] [] [0, 1, 2,
  3] [1023, 1039]) .skip)) (.seq (.reg [⟨(some 25), none, (.q (.mv (.t 3)))⟩, ⟨(some 26), none, (.q (.mv (.t 0)))⟩, ⟨(some 27), none, (.q (.len (.t 26) true))⟩, ⟨(some 28), none,
  (.q (.bin .add (.t 27) (.c (.int .i64 1))))⟩, ⟨(some 29), none, (.q (.mm false (.t 25) (.t 28)))⟩, ⟨(some 3), none, (.q (.mv (.t 29)))⟩] [] [0, 1, 2, 3] [1023, 1039]) (.seq (.reg [⟨(some 30), none,
  (.q (.mv (.t 3)))⟩, ⟨(some 31), none, (.mks (.t 30) (.t 30) 1 16 (.sc (.string ⟨#[]⟩)))⟩, ⟨(some 9), none, (.q (.mv (.t 31)))⟩] [] [0, 1, 2, 3, 9] [31, 1023, 1039]) (.seq (.reg [⟨(some 32), none,
  (.q (.mv (.t 3)))⟩, ⟨(some 33), none, (.q (.bin .sub (.t 32) (.c (.int .i64 1))))⟩, ⟨(some 3), none, (.q (.mv (.t 33)))⟩] [] [0, 1, 2, 3, 9] [31, 1023, 1039]) (.seq (.reg [⟨(some 10), none,
  (.q (.mv (.c (.int .i64 0))))⟩] [] [0, 1, 2, 3, 9, 10] [31, 1023, 1039]) (.seq (.block 0 (.loop B55_0)) R55_0)))))))))
theorem mc55 : ofCode Tryd.prog [] Tryd.f55.ntmps [(0, ⟨[0, 1, 2, 3], [1023, 1039], [], 0, [], none⟩),
    (1, ⟨[0, 1, 2, 3, 13], [1023, 1039], [], 0, [], none⟩),
    (2, ⟨[8], [31, 1018, 1039], [], 0, [], none⟩),
    (3, ⟨[0, 1, 2, 3, 15], [1023, 1039], [], 0, [], none⟩),
    (4, ⟨[8], [31, 1018, 1039], [], 0, [], none⟩),
    (5, ⟨[0, 1, 2, 3, 20], [1023, 1039], [], 0, [], none⟩),
    (6, ⟨[0, 1, 2, 3], [1023, 1039], [], 0, [], none⟩),
    (7, ⟨[0, 1, 2, 3], [1023, 1039], [], 0, [], none⟩),
    (8, ⟨[0, 1, 2, 3, 9], [31, 1023, 1039], [], 0, [], none⟩),
    (9, ⟨[0, 1, 2, 3, 9], [31, 1023, 1039], [], 0, [], none⟩),
    (10, ⟨[0, 1, 2, 3, 9, 10], [31, 1023, 1039], [], 0, [], none⟩),
    (11, ⟨[0, 1, 2, 3, 9, 10, 36], [31, 1023, 1039], [], 0, [], none⟩),
    (12, ⟨[0, 1, 2, 3, 9, 10, 11], [31, 1023, 1039], [], 0, [], none⟩),
    (13, ⟨[0, 1, 2, 3, 9, 10, 11, 41], [31, 1023, 1039], [], 0, [], none⟩),
    (14, ⟨[0, 1, 2, 3, 9, 10, 11], [31, 1023, 1039], [], 0, [], none⟩),
    (15, ⟨[0, 1, 2, 3, 9, 10], [31, 1023, 1039], [], 0, [], none⟩),
    (16, ⟨[0, 1, 2, 3, 9, 10], [31, 1023, 1039], [], 0, [], none⟩),
    (17, ⟨[9, 10], [31, 1039], [], 0, [], none⟩),
    (18, ⟨[8], [31, 1018, 1039], [], 0, [], none⟩)] (Tryd.f55.body.getD .skip) = some M55 := by kernel_rfl
theorem Run55 {args : List PV} {v : AV} {rs : List (Nat × List PV)} (ids : List Bool) (h : args.length ≤ 66) (hv : run Tryd.prog (retK [RV.tmp 8] ids v rs) M55 [] ⟨entry 0 args, []⟩) : Fn Tryd.prog 55 args v rs :=
  Fn_run ids (by kernel_rfl) Tryd.func55 (by decide) rfl mc55 (by kernel_rfl) (by rw [Tryd.ntmps55]; exact h) (by rw [Tryd.ntmps55]; decide) hv

/-- 'strings.Cut' -/
def M51 : MC := (.seq (.reg [⟨(some 4), none, (.q (.mv (.c (.string ⟨#[]⟩))))⟩, ⟨(some 5), none, (.q (.mv (.c (.string ⟨#[]⟩))))⟩, ⟨(some 6), none, (.q (.mv (.c (.bool false))))⟩] [] [0, 1] [])
  (.seq (.reg [⟨(some 7), none, (.q (.mv (.t 0)))⟩, ⟨(some 8), none, (.q (.mv (.t 1)))⟩, ⟨(some 9), none, (.call (.f 58) [(.t 7), (.t 8)])⟩, ⟨(some 10), none, (.q (.ext (.t 9) 0))⟩, ⟨(some 11), none,
  (.q (.ext (.t 9) 1))⟩, ⟨(some 12), none, (.q (.ext (.t 9) 2))⟩, ⟨(some 4), none, (.q (.mv (.t 10)))⟩, ⟨(some 5), none, (.q (.mv (.t 11)))⟩, ⟨(some 6), none, (.q (.mv (.t 12)))⟩] [] [4, 5, 6] [1009])
  .ret))
theorem mc51 : ofCode Tryd.prog [] Tryd.f51.ntmps [(0, ⟨[0, 1], [], [], 0, [], none⟩),
    (1, ⟨[4, 5, 6], [1009], [], 0, [], none⟩)] (Tryd.f51.body.getD .skip) = some M51 := by kernel_rfl
theorem Run51 {args : List PV} {v : AV} {rs : List (Nat × List PV)} (ids : List Bool) (h : args.length ≤ 13) (hv : run Tryd.prog (retK [RV.tmp 4, RV.tmp 5, RV.tmp 6] ids v rs) M51 [] ⟨entry 0 args, []⟩) : Fn Tryd.prog 51 args v rs :=
  Fn_run ids (by kernel_rfl) Tryd.func51 (by decide) rfl mc51 (by kernel_rfl) (by rw [Tryd.ntmps51]; exact h) (by rw [Tryd.ntmps51]; decide) hv

/-- 'name.part.1' -/
def M52 : MC := (.seq (.reg [⟨(some 2), none, (.q (.mv (.c (.bool false))))⟩] [] [0] []) (.seq (.reg [⟨(some 3), none, (.q (.mv (.t 0)))⟩, ⟨(some 4), none, (.q (.bin .geq (.t 3)
  (.c (.int .i32 97))))⟩, ⟨(some 5), none, (.q (.mv (.t 4)))⟩, ⟨(some 6), (some (5, true)), (.q (.mv (.t 0)))⟩, ⟨(some 7), (some (5, true)), (.q (.bin .leq (.t 6) (.c (.int .i32 122))))⟩, ⟨(some 8),
  none, (.q (.pick (.t 5) (.t 7) (.c (.bool false))))⟩, ⟨(some 9), none, (.q (.mv (.t 8)))⟩, ⟨(some 10), (some (9, false)), (.q (.mv (.t 0)))⟩, ⟨(some 11), (some (9, false)), (.q (.bin .geq (.t 10)
  (.c (.int .i32 48))))⟩, ⟨(some 12), (some (9, false)), (.q (.mv (.t 11)))⟩, ⟨(some 13), (some (12, true)), (.q (.mv (.t 0)))⟩, ⟨(some 14), (some (12, true)), (.q (.bin .leq (.t 13)
  (.c (.int .i32 57))))⟩, ⟨(some 15), (some (9, false)), (.q (.pick (.t 12) (.t 14) (.c (.bool false))))⟩, ⟨(some 16), none, (.q (.pick (.t 9) (.c (.bool true)) (.t 15)))⟩, ⟨(some 17), none,
  (.q (.mv (.t 16)))⟩, ⟨(some 18), (some (17, false)), (.q (.mv (.t 0)))⟩, ⟨(some 19), (some (17, false)), (.q (.bin .eql (.t 18) (.c (.int .i32 95))))⟩, ⟨(some 20), none, (.q (.pick (.t 17)
  (.c (.bool true)) (.t 19)))⟩, ⟨(some 2), none, (.q (.mv (.t 20)))⟩] [] [2] []) .ret))
theorem mc52 : ofCode Tryd.prog [] Tryd.f52.ntmps [(0, ⟨[0], [], [], 0, [], none⟩),
    (1, ⟨[2], [], [], 0, [], none⟩)] (Tryd.f52.body.getD .skip) = some M52 := by kernel_rfl
theorem Run52 {args : List PV} {v : AV} {rs : List (Nat × List PV)} (ids : List Bool) (h : args.length ≤ 21) (hv : run Tryd.prog (retK [RV.tmp 2] ids v rs) M52 [] ⟨entry 0 args, []⟩) : Fn Tryd.prog 52 args v rs :=
  Fn_run ids (by kernel_rfl) Tryd.func52 (by decide) rfl mc52 (by kernel_rfl) (by rw [Tryd.ntmps52]; exact h) (by rw [Tryd.ntmps52]; decide) hv

/-- 'strings.Count' -/
def B70_0 : MC := (.block 1 (.seq (.reg [⟨(some 20), none, (.q (.mv (.t 0)))⟩, ⟨(some 21), none, (.q (.mv (.t 1)))⟩, ⟨(some 22), none, (.call (.f 71) [(.t 20), (.t 21)])⟩, ⟨(some 6), none,
  (.q (.mv (.t 22)))⟩] [] [0, 1, 5, 6] [1022]) (.seq (.seq (.reg [⟨(some 23), none, (.q (.mv (.t 6)))⟩, ⟨(some 24), none, (.q (.bin .eql (.t 23) (.c (.int .i64 (-1)))))⟩] [] [0, 1, 5, 6, 24] [1022])
  (.cond (.t 24) (.seq (.reg [⟨(some 25), none, (.q (.mv (.t 5)))⟩, ⟨(some 4), none, (.q (.mv (.t 25)))⟩] [] [4] [1011, 1019]) .ret) .skip)) (.seq (.reg [⟨(some 26), none, (.q (.mv (.t 5)))⟩,
  ⟨(some 27), none, (.q (.bin .add (.t 26) (.c (.int .i64 1))))⟩, ⟨(some 5), none, (.q (.mv (.t 27)))⟩] [] [0, 1, 5, 6] [1022]) (.reg [⟨(some 28), none, (.q (.mv (.t 0)))⟩, ⟨(some 29), none,
  (.q (.mv (.t 6)))⟩, ⟨(some 30), none, (.q (.mv (.t 1)))⟩, ⟨(some 31), none, (.q (.len (.t 30) true))⟩, ⟨(some 32), none, (.q (.bin .add (.t 29) (.t 31)))⟩, ⟨(some 33), none, (.q (.slc (.t 28)
  (some (.t 32)) none 0 true))⟩, ⟨(some 0), none, (.q (.mv (.t 33)))⟩] [] [0, 1, 5] [1022])))))
def M70 : MC := (.seq (.reg [⟨(some 4), none, (.q (.mv (.c (.int .i64 0))))⟩] [] [0, 1] [1022]) (.seq (.seq (.reg [⟨(some 7), none, (.q (.mv (.t 1)))⟩, ⟨(some 8), none, (.q (.len (.t 7) true))⟩,
  ⟨(some 9), none, (.q (.bin .eql (.t 8) (.c (.int .i64 0))))⟩] [] [0, 1, 9] [1022]) (.cond (.t 9) (.seq (.reg [⟨(some 10), none, (.q (.mv (.t 0)))⟩, ⟨(some 11), none, (.call (.f 87) [(.t 10)])⟩,
  ⟨(some 12), none, (.q (.bin .add (.t 11) (.c (.int .i64 1))))⟩, ⟨(some 4), none, (.q (.mv (.t 12)))⟩] [] [4] [1011, 1019]) .ret) .skip)) (.seq (.seq (.reg [⟨(some 13), none, (.q (.mv (.t 1)))⟩,
  ⟨(some 14), none, (.q (.len (.t 13) true))⟩, ⟨(some 15), none, (.q (.bin .eql (.t 14) (.c (.int .i64 1))))⟩] [] [0, 1, 15] [1022]) (.cond (.t 15) (.seq (.reg [⟨(some 16), none, (.q (.mv (.t 0)))⟩,
  ⟨(some 17), none, (.q (.mv (.t 1)))⟩, ⟨(some 18), none, (.q (.idx (.t 17) (.c (.int .i64 0))))⟩, ⟨(some 19), none, (.call (.f 89) [(.t 16), (.t 18)])⟩, ⟨(some 4), none,
  (.q (.mv (.t 19)))⟩] [] [4] [1011, 1019]) .ret) .skip)) (.seq (.reg [⟨(some 5), none, (.q (.mv (.c (.int .i64 0))))⟩] [] [0, 1, 5] [1022]) (.block 0 (.loop B70_0))))))
theorem mc70 : ofCode Tryd.prog [] Tryd.f70.ntmps [(0, ⟨[0, 1], [1022], [], 0, [], none⟩),
    (1, ⟨[0, 1, 9], [1022], [], 0, [], none⟩),
    (2, ⟨[4], [1011, 1019], [], 0, [], none⟩),
    (3, ⟨[0, 1, 15], [1022], [], 0, [], none⟩),
    (4, ⟨[4], [1011, 1019], [], 0, [], none⟩),
    (5, ⟨[0, 1, 5], [1022], [], 0, [], none⟩),
    (6, ⟨[0, 1, 5, 6], [1022], [], 0, [], none⟩),
    (7, ⟨[0, 1, 5, 6, 24], [1022], [], 0, [], none⟩),
    (8, ⟨[4], [1011, 1019], [], 0, [], none⟩),
    (9, ⟨[0, 1, 5, 6], [1022], [], 0, [], none⟩),
    (10, ⟨[0, 1, 5], [1022], [], 0, [], none⟩)] (Tryd.f70.body.getD .skip) = some M70 := by kernel_rfl
theorem Run70 {args : List PV} {v : AV} {rs : List (Nat × List PV)} (ids : List Bool) (h : args.length ≤ 34) (hv : run Tryd.prog (retK [RV.tmp 4] ids v rs) M70 [] ⟨entry 0 args, []⟩) : Fn Tryd.prog 70 args v rs :=
  Fn_run ids (by kernel_rfl) Tryd.func70 (by decide) rfl mc70 (by kernel_rfl) (by rw [Tryd.ntmps70]; exact h) (by rw [Tryd.ntmps70]; decide) hv

/-- 'strings.Index' -/
def M71 : MC := (.seq (.reg [⟨(some 4), none, (.q (.mv (.c (.int .i64 0))))⟩] [] [0, 1] []) (.seq (.reg [⟨(some 5), none, (.q (.mv (.t 0)))⟩, ⟨(some 6), none, (.q (.mv (.t 1)))⟩, ⟨(some 7), none,
  (.call (.f 81) [(.t 5), (.t 6)])⟩, ⟨(some 4), none, (.q (.mv (.t 7)))⟩] [] [4] [1007]) .ret))
theorem mc71 : ofCode Tryd.prog [] Tryd.f71.ntmps [(0, ⟨[0, 1], [], [], 0, [], none⟩),
    (1, ⟨[4], [1007], [], 0, [], none⟩)] (Tryd.f71.body.getD .skip) = some M71 := by kernel_rfl
theorem Run71 {args : List PV} {v : AV} {rs : List (Nat × List PV)} (ids : List Bool) (h : args.length ≤ 8) (hv : run Tryd.prog (retK [RV.tmp 4] ids v rs) M71 [] ⟨entry 0 args, []⟩) : Fn Tryd.prog 71 args v rs :=
  Fn_run ids (by kernel_rfl) Tryd.func71 (by decide) rfl mc71 (by kernel_rfl) (by rw [Tryd.ntmps71]; exact h) (by rw [Tryd.ntmps71]; decide) hv

/-- 'stringslite.Cut' -/
def M58 : MC := (.seq (.reg [⟨(some 4), none, (.q (.mv (.c (.string ⟨#[]⟩))))⟩, ⟨(some 5), none, (.q (.mv (.c (.string ⟨#[]⟩))))⟩, ⟨(some 6), none, (.q (.mv (.c (.bool false))))⟩] [] [0, 1] [])
  (.seq (.seq (.reg [⟨(some 8), none, (.q (.mv (.t 0)))⟩, ⟨(some 9), none, (.q (.mv (.t 1)))⟩, ⟨(some 10), none, (.call (.f 81) [(.t 8), (.t 9)])⟩, ⟨(some 7), none, (.q (.mv (.t 10)))⟩] [] [0, 1,
  7] [1010]) (.seq (.reg [⟨(some 11), none, (.q (.mv (.t 7)))⟩, ⟨(some 12), none, (.q (.bin .geq (.t 11) (.c (.int .i64 0))))⟩] [] [0, 1, 7, 12] [1010]) (.cond (.t 12) (.seq (.reg [⟨(some 13), none,
  (.q (.mv (.t 0)))⟩, ⟨(some 14), none, (.q (.mv (.t 7)))⟩, ⟨(some 15), none, (.q (.slc (.t 13) none (some (.t 14)) 0 true))⟩, ⟨(some 16), none, (.q (.mv (.t 0)))⟩, ⟨(some 17), none,
  (.q (.mv (.t 7)))⟩, ⟨(some 18), none, (.q (.mv (.t 1)))⟩, ⟨(some 19), none, (.q (.len (.t 18) true))⟩, ⟨(some 20), none, (.q (.bin .add (.t 17) (.t 19)))⟩, ⟨(some 21), none, (.q (.slc (.t 16)
  (some (.t 20)) none 0 true))⟩, ⟨(some 4), none, (.q (.mv (.t 15)))⟩, ⟨(some 5), none, (.q (.mv (.t 21)))⟩, ⟨(some 6), none, (.q (.mv (.c (.bool true))))⟩] [] [4, 5, 6] [1010]) .ret) .skip)))
  (.seq (.reg [⟨(some 22), none, (.q (.mv (.t 0)))⟩, ⟨(some 4), none, (.q (.mv (.t 22)))⟩, ⟨(some 5), none, (.q (.mv (.c (.string ⟨#[]⟩))))⟩, ⟨(some 6), none, (.q (.mv (.c (.bool false))))⟩] [] [4, 5,
  6] [1010]) .ret)))
theorem mc58 : ofCode Tryd.prog [] Tryd.f58.ntmps [(0, ⟨[0, 1], [], [], 0, [], none⟩),
    (1, ⟨[0, 1, 7], [1010], [], 0, [], none⟩),
    (2, ⟨[0, 1, 7, 12], [1010], [], 0, [], none⟩),
    (3, ⟨[4, 5, 6], [1010], [(0, 3589), (1, 3590), (2, 3588), (3, 3336), (4, 3472), (5, 3552), (6, 3520), (7, 3456), (8, 3328), (9, 3584), (10, 3072), (11, 2048)], 4095, [], none⟩),
    (4, ⟨[4, 5, 6], [1010], [], 0, [], none⟩)] (Tryd.f58.body.getD .skip) = some M58 := by kernel_rfl
theorem Run58 {args : List PV} {v : AV} {rs : List (Nat × List PV)} (ids : List Bool) (h : args.length ≤ 23) (hv : run Tryd.prog (retK [RV.tmp 4, RV.tmp 5, RV.tmp 6] ids v rs) M58 [] ⟨entry 0 args, []⟩) : Fn Tryd.prog 58 args v rs :=
  Fn_run ids (by kernel_rfl) Tryd.func58 (by decide) rfl mc58 (by kernel_rfl) (by rw [Tryd.ntmps58]; exact h) (by rw [Tryd.ntmps58]; decide) hv

end Go.Vc

namespace Go.Vc
open Go.Proofs Go.Shelf Go.RowKit
set_option linter.unusedSimpArgs false
set_option linter.unusedVariables false

/-! ## Names: strings out of the shelf, split at the dot -/
def ren219 : Ren := ⟨fun n => if n = 219 then 81 else if n = 217 then 94 else if n = 225 then 95 else if n = 224 then 96 else if n = 267 then 97 else if n = 266 then 101 else if n = 314 then 102 else n,
  fun t => if t = 46 then 69 else if t = 146 then 115 else if t = 51 then 86 else t,
  fun g => if g = 1 then 0 else g⟩
def ren138 : Ren := ⟨fun n => if n = 138 then 70 else if n = 195 then 87 else if n = 218 then 89 else if n = 143 then 71 else if n = 219 then 81 else if n = 217 then 94 else if n = 225 then 95 else if n = 224 then 96 else if n = 267 then 97 else if n = 266 then 101 else if n = 314 then 102 else n,
  fun t => if t = 46 then 69 else if t = 146 then 115 else if t = 51 then 86 else t,
  fun g => if g = 1 then 0 else g⟩
theorem lays219 : Lays.n219 Tryd.prog ren219 where
  mixed := by kernel_rfl
  f217 := by kernel_rfl
  f219 := by kernel_rfl
  f224 := by kernel_rfl
  f225 := by kernel_rfl
  f266 := by kernel_rfl
  f267 := by kernel_rfl
  f314 := by kernel_rfl
  t3 := by kernel_rfl
  a3 := fun w => by kernel_rfl
  z3 := fun w => by kernel_rfl
  v3 := fun w => by kernel_rfl
  t4 := by kernel_rfl
  a4 := fun w => by kernel_rfl
  z4 := fun w => by kernel_rfl
  v4 := fun w => by kernel_rfl
  t5 := by kernel_rfl
  a5 := fun w => by kernel_rfl
  z5 := fun w => by kernel_rfl
  v5 := fun w => by kernel_rfl
  t9 := by kernel_rfl
  a9 := fun w => by kernel_rfl
  z9 := fun w => by kernel_rfl
  v9 := fun w => by kernel_rfl
  t46 := by kernel_rfl
  a46 := fun w => by kernel_rfl
  z46 := fun w => by kernel_rfl
  v46 := fun w => by kernel_rfl
  t51 := by kernel_rfl
  a51 := fun w => by kernel_rfl
  z51 := fun w => by kernel_rfl
  v51 := fun w => by kernel_rfl
  t146 := by kernel_rfl
  a146 := fun w => by kernel_rfl
  z146 := fun w => by kernel_rfl
  v146 := fun w => by kernel_rfl
  g1 := by kernel_rfl
theorem lays138 : Lays.n138 Tryd.prog ren138 where
  mixed := by kernel_rfl
  f138 := by kernel_rfl
  f143 := by kernel_rfl
  f195 := by kernel_rfl
  f217 := by kernel_rfl
  f218 := by kernel_rfl
  f219 := by kernel_rfl
  f224 := by kernel_rfl
  f225 := by kernel_rfl
  f266 := by kernel_rfl
  f267 := by kernel_rfl
  f314 := by kernel_rfl
  t0 := by kernel_rfl
  a0 := fun w => by kernel_rfl
  z0 := fun w => by kernel_rfl
  v0 := fun w => by kernel_rfl
  t3 := by kernel_rfl
  a3 := fun w => by kernel_rfl
  z3 := fun w => by kernel_rfl
  v3 := fun w => by kernel_rfl
  t4 := by kernel_rfl
  a4 := fun w => by kernel_rfl
  z4 := fun w => by kernel_rfl
  v4 := fun w => by kernel_rfl
  t5 := by kernel_rfl
  a5 := fun w => by kernel_rfl
  z5 := fun w => by kernel_rfl
  v5 := fun w => by kernel_rfl
  t9 := by kernel_rfl
  a9 := fun w => by kernel_rfl
  z9 := fun w => by kernel_rfl
  v9 := fun w => by kernel_rfl
  t46 := by kernel_rfl
  a46 := fun w => by kernel_rfl
  z46 := fun w => by kernel_rfl
  v46 := fun w => by kernel_rfl
  t51 := by kernel_rfl
  a51 := fun w => by kernel_rfl
  z51 := fun w => by kernel_rfl
  v51 := fun w => by kernel_rfl
  t146 := by kernel_rfl
  a146 := fun w => by kernel_rfl
  z146 := fun w => by kernel_rfl
  v146 := fun w => by kernel_rfl
  g1 := by kernel_rfl
theorem fn81 (s : ByteArray) : Fn Tryd.prog 81 [pS s, pS sDot] (.pv (pI (dotAt s))) [] := by
  refine ⟨enters_of (fn := Tryd.f81) Tryd.func81 (by decide) rfl, fun w F vs hF htb hv => ?_⟩
  simp only [PRels, PRel] at hv
  obtain ⟨u, r, rfl, rfl, u', r', rfl, rfl, rfl⟩ := hv
  have := Any.stringslite_Index_one lays219 s 46 w
  refine this.mono fun en w' ⟨e1, e2⟩ => ?_
  subst e1; subst e2
  refine ⟨_, ⟨w', F, fun _ => default⟩, rfl, rfl, ⟨Below.refl _ _, by simp [VRel, PRel, dotAt], fun i s xs h => by simp at h, fun i j hi => by simp at hi, fun i hi => by simp at hi, fun b => by simp⟩⟩
def dotsIn (s : ByteArray) : Nat := Lib.countByte s.data.toList 46
theorem fn70 (s : ByteArray) : Fn Tryd.prog 70 [pS s, pS sDot] (.pv (pI (dotsIn s))) [] := by
  refine ⟨enters_of (fn := Tryd.f70) Tryd.func70 (by decide) rfl, fun w F vs hF htb hv => ?_⟩
  simp only [PRels, PRel] at hv
  obtain ⟨u, r, rfl, rfl, u', r', rfl, rfl, rfl⟩ := hv
  have := Any.strings_Count_one lays138 s 46 w
  refine this.mono fun en w' ⟨e1, e2⟩ => ?_
  subst e1; subst e2
  refine ⟨_, ⟨w', F, fun _ => default⟩, rfl, rfl, ⟨Below.refl _ _, by simp [VRel, PRel, dotsIn], fun i s xs h => by simp at h, fun i j hi => by simp at hi, fun i hi => by simp at hi, fun b => by simp⟩⟩
/-! ## 'Index', 'Cut', 'Split' at the dot -/
theorem fn71 (s : ByteArray) : Fn Tryd.prog 71 [pS s, pS sDot] (.pv (pI (dotAt s))) [] := by
  refine Run71 [] (by simp) ?_
  simp only [go_sem, Nat.reduceEqDiff, Nat.reduceBEq, Nat.reduceAdd, Nat.reduceMul, Nat.reduceSub, Nat.reduceLeDiff, Nat.reduceLT, reduceIte, reduceCtorEq, Int.reduceToNat, Int.reduceLE, Int.reduceLT, Int.reduceNeg, Bool.not_not, and_self, Bool.and_eq_false_iff, Int.cast_ofNat_Int, Int.reduceAdd, Int.reduceSub, Int.reduceMul, Int.reduceEq, Int.reduceNe, M71]
  refine runR_callf (by simp only [go_sem, Nat.reduceEqDiff, Nat.reduceBEq, Nat.reduceAdd, Nat.reduceMul, Nat.reduceSub, Nat.reduceLeDiff, Nat.reduceLT, reduceIte, reduceCtorEq, Int.reduceToNat, Int.reduceLE, Int.reduceLT, Int.reduceNeg, Bool.not_not, and_self, Bool.and_eq_false_iff, Int.cast_ofNat_Int, Int.reduceAdd, Int.reduceSub, Int.reduceMul, Int.reduceEq, Int.reduceNe]) (by simp only [go_sem, Nat.reduceEqDiff, Nat.reduceBEq, Nat.reduceAdd, Nat.reduceMul, Nat.reduceSub, Nat.reduceLeDiff, Nat.reduceLT, reduceIte, reduceCtorEq, Int.reduceToNat, Int.reduceLE, Int.reduceLT, Int.reduceNeg, Bool.not_not, and_self, Bool.and_eq_false_iff, Int.cast_ofNat_Int, Int.reduceAdd, Int.reduceSub, Int.reduceMul, Int.reduceEq, Int.reduceNe] <;> rfl) (fn81 s) ⟨rfl, trivial⟩ trivial ?_
  simp only [go_sem, Nat.reduceEqDiff, Nat.reduceBEq, Nat.reduceAdd, Nat.reduceMul, Nat.reduceSub, Nat.reduceLeDiff, Nat.reduceLT, reduceIte, reduceCtorEq, Int.reduceToNat, Int.reduceLE, Int.reduceLT, Int.reduceNeg, Bool.not_not, and_self, Bool.and_eq_false_iff, Int.cast_ofNat_Int, Int.reduceAdd, Int.reduceSub, Int.reduceMul, Int.reduceEq, Int.reduceNe]
theorem fn58 (s : ByteArray) (hs : s.size ≤ 1000) : Fn Tryd.prog 58 [pS s, pS sDot] (.pv (.tup [pS (cutB s), pS (cutA s), pB (decide (0 ≤ dotAt s))])) [] := by
  refine Run58 [] (by simp) ?_
  simp only [go_sem, Nat.reduceEqDiff, Nat.reduceBEq, Nat.reduceAdd, Nat.reduceMul, Nat.reduceSub, Nat.reduceLeDiff, Nat.reduceLT, reduceIte, reduceCtorEq, Int.reduceToNat, Int.reduceLE, Int.reduceLT, Int.reduceNeg, Bool.not_not, and_self, Bool.and_eq_false_iff, Int.cast_ofNat_Int, Int.reduceAdd, Int.reduceSub, Int.reduceMul, Int.reduceEq, Int.reduceNe, M58]
  refine runR_callf (by simp only [go_sem, Nat.reduceEqDiff, Nat.reduceBEq, Nat.reduceAdd, Nat.reduceMul, Nat.reduceSub, Nat.reduceLeDiff, Nat.reduceLT, reduceIte, reduceCtorEq, Int.reduceToNat, Int.reduceLE, Int.reduceLT, Int.reduceNeg, Bool.not_not, and_self, Bool.and_eq_false_iff, Int.cast_ofNat_Int, Int.reduceAdd, Int.reduceSub, Int.reduceMul, Int.reduceEq, Int.reduceNe]) (by simp only [go_sem, Nat.reduceEqDiff, Nat.reduceBEq, Nat.reduceAdd, Nat.reduceMul, Nat.reduceSub, Nat.reduceLeDiff, Nat.reduceLT, reduceIte, reduceCtorEq, Int.reduceToNat, Int.reduceLE, Int.reduceLT, Int.reduceNeg, Bool.not_not, and_self, Bool.and_eq_false_iff, Int.cast_ofNat_Int, Int.reduceAdd, Int.reduceSub, Int.reduceMul, Int.reduceEq, Int.reduceNe] <;> rfl) (fn81 s) ⟨rfl, trivial⟩ trivial ?_
  have hd := dotAt_lt s
  have e1 : sDot.size = 1 := rfl
  simp only [go_sem, Nat.reduceEqDiff, Nat.reduceBEq, Nat.reduceAdd, Nat.reduceMul, Nat.reduceSub, Nat.reduceLeDiff, Nat.reduceLT, reduceIte, reduceCtorEq, Int.reduceToNat, Int.reduceLE, Int.reduceLT, Int.reduceNeg, Bool.not_not, and_self, Bool.and_eq_false_iff, Int.cast_ofNat_Int, Int.reduceAdd, Int.reduceSub, Int.reduceMul, Int.reduceEq, Int.reduceNe, e1]
  refine ⟨fun h => ⟨⟨h, by omega⟩, ⟨by omega, by omega⟩, ⟨by omega, by omega, by omega⟩, ?_⟩, fun h => ?_⟩
  · have e2 : (dotAt s + ((1 : Nat) : Int)).toNat = (dotAt s).toNat + 1 := by omega
    have e3 : (dotAt s + 1).toNat = (dotAt s).toNat + 1 := by omega
    simp [e2, e3, cutB, cutA, h]
  · simp [cutB, cutA, h]
theorem fn51 (s : ByteArray) (hs : s.size ≤ 1000) : Fn Tryd.prog 51 [pS s, pS sDot] (.pv (.tup [pS (cutB s), pS (cutA s), pB (decide (0 ≤ dotAt s))])) [] := by
  refine Run51 [] (by simp) ?_
  simp only [go_sem, Nat.reduceEqDiff, Nat.reduceBEq, Nat.reduceAdd, Nat.reduceMul, Nat.reduceSub, Nat.reduceLeDiff, Nat.reduceLT, reduceIte, reduceCtorEq, Int.reduceToNat, Int.reduceLE, Int.reduceLT, Int.reduceNeg, Bool.not_not, and_self, Bool.and_eq_false_iff, Int.cast_ofNat_Int, Int.reduceAdd, Int.reduceSub, Int.reduceMul, Int.reduceEq, Int.reduceNe, M51]
  refine runR_callf (by simp only [go_sem, Nat.reduceEqDiff, Nat.reduceBEq, Nat.reduceAdd, Nat.reduceMul, Nat.reduceSub, Nat.reduceLeDiff, Nat.reduceLT, reduceIte, reduceCtorEq, Int.reduceToNat, Int.reduceLE, Int.reduceLT, Int.reduceNeg, Bool.not_not, and_self, Bool.and_eq_false_iff, Int.cast_ofNat_Int, Int.reduceAdd, Int.reduceSub, Int.reduceMul, Int.reduceEq, Int.reduceNe]) (by simp only [go_sem, Nat.reduceEqDiff, Nat.reduceBEq, Nat.reduceAdd, Nat.reduceMul, Nat.reduceSub, Nat.reduceLeDiff, Nat.reduceLT, reduceIte, reduceCtorEq, Int.reduceToNat, Int.reduceLE, Int.reduceLT, Int.reduceNeg, Bool.not_not, and_self, Bool.and_eq_false_iff, Int.cast_ofNat_Int, Int.reduceAdd, Int.reduceSub, Int.reduceMul, Int.reduceEq, Int.reduceNe] <;> rfl) (fn58 s hs) ⟨rfl, trivial⟩ trivial ?_
  simp only [go_sem, Nat.reduceEqDiff, Nat.reduceBEq, Nat.reduceAdd, Nat.reduceMul, Nat.reduceSub, Nat.reduceLeDiff, Nat.reduceLT, reduceIte, reduceCtorEq, Int.reduceToNat, Int.reduceLE, Int.reduceLT, Int.reduceNeg, Bool.not_not, and_self, Bool.and_eq_false_iff, Int.cast_ofNat_Int, Int.reduceAdd, Int.reduceSub, Int.reduceMul, Int.reduceEq, Int.reduceNe]
theorem cutL_count : ∀ l : List UInt8, (cutL l).length = Lib.countByte l 46 + 1
  | [] => rfl
  | c :: l => by
    have ih := cutL_count l
    unfold Lib.countByte at *
    simp only [cutL]
    split
    · rename_i h; subst h; simp [ih]
    · rename_i h
      rw [List.count_cons_of_ne h]
      cases h2 : cutL l with
      | nil => exact absurd h2 (cutL_ne l)
      | cons p ps => rw [h2] at ih; simpa [consH] using ih
theorem cutS_count (s : ByteArray) : (cutS s).length = dotsIn s + 1 := by unfold cutS dotsIn; rw [List.length_map, cutL_count]
theorem dots_le (s : ByteArray) : dotsIn s ≤ s.size := by
  have : dotsIn s ≤ s.data.toList.length := List.count_le_length
  simpa using this
abbrev ss (l : List ByteArray) : PV := .lst (l.map pS)
theorem wf_ss (l : List ByteArray) : WfL 1 (l.map pS) := wf_map (f := pS) (s := 1) (fun a => ⟨rfl, fun c hc => by simp only [PV.cells, List.mem_cons, List.not_mem_nil, or_false] at hc; subst hc; rfl⟩) l
theorem fill_set {α : Type} {f : α → PV} {A : List α} {z p : PV} {k : Nat} : (A.map f ++ List.replicate (k + 1) z).set A.length p = A.map f ++ p :: List.replicate k z := by
  rw [List.set_append_right _ _ (by simp)]
  simp [List.replicate_succ]
theorem fill_get {α : Type} {f : α → PV} {A : List α} {z : PV} {k : Nat} : (A.map f ++ List.replicate (k + 1) z).getD A.length default = z := by
  simp [List.getD_eq_getElem?_getD, List.getElem?_append_right, List.replicate_succ]
theorem fn55 (s : ByteArray) (hs : s.size ≤ 1000) : Fn Tryd.prog 55 [pS s, pS sDot, pI 0, pI (-1)] (.pv (ss (cutS s))) [] := by
  refine Run55 [false] (by simp) ?_
  simp only [go_sem, Nat.reduceEqDiff, Nat.reduceBEq, Nat.reduceAdd, Nat.reduceMul, Nat.reduceSub, Nat.reduceLeDiff, Nat.reduceLT, reduceIte, reduceCtorEq, Int.reduceToNat, Int.reduceLE, Int.reduceLT, Int.reduceNeg, Bool.not_not, and_self, Bool.and_eq_false_iff, Int.cast_ofNat_Int, Int.reduceAdd, Int.reduceSub, Int.reduceMul, Int.reduceEq, Int.reduceNe, M55]
  have hd := dots_le s
  have hc := cutS_count s
  have e1 : sDot.size = 1 := rfl
  refine ⟨fun h => absurd h (by decide), fun _ => ?_⟩
  refine runR_callf (by simp only [go_sem, Nat.reduceEqDiff, Nat.reduceBEq, Nat.reduceAdd, Nat.reduceMul, Nat.reduceSub, Nat.reduceLeDiff, Nat.reduceLT, reduceIte, reduceCtorEq, Int.reduceToNat, Int.reduceLE, Int.reduceLT, Int.reduceNeg, Bool.not_not, and_self, Bool.and_eq_false_iff, Int.cast_ofNat_Int, Int.reduceAdd, Int.reduceSub, Int.reduceMul, Int.reduceEq, Int.reduceNe]) (by simp only [go_sem, Nat.reduceEqDiff, Nat.reduceBEq, Nat.reduceAdd, Nat.reduceMul, Nat.reduceSub, Nat.reduceLeDiff, Nat.reduceLT, reduceIte, reduceCtorEq, Int.reduceToNat, Int.reduceLE, Int.reduceLT, Int.reduceNeg, Bool.not_not, and_self, Bool.and_eq_false_iff, Int.cast_ofNat_Int, Int.reduceAdd, Int.reduceSub, Int.reduceMul, Int.reduceEq, Int.reduceNe] <;> rfl) (fn70 s) ⟨rfl, trivial⟩ trivial ?_
  simp only [go_sem, Nat.reduceEqDiff, Nat.reduceBEq, Nat.reduceAdd, Nat.reduceMul, Nat.reduceSub, Nat.reduceLeDiff, Nat.reduceLT, reduceIte, reduceCtorEq, Int.reduceToNat, Int.reduceLE, Int.reduceLT, Int.reduceNeg, Bool.not_not, and_self, Bool.and_eq_false_iff, Int.cast_ofNat_Int, Int.reduceAdd, Int.reduceSub, Int.reduceMul, Int.reduceEq, Int.reduceNe, e1]
  refine ⟨⟨by omega, by omega⟩, ⟨by omega, by omega⟩, ?_⟩
  have hmin : (if (s.size : Int) + 1 < (dotsIn s : Int) + 1 then (s.size : Int) + 1 else (dotsIn s : Int) + 1) = (dotsIn s : Int) + 1 := by rw [if_neg (by omega)]
  simp only [go_sem, Nat.reduceEqDiff, Nat.reduceBEq, Nat.reduceAdd, Nat.reduceMul, Nat.reduceSub, Nat.reduceLeDiff, Nat.reduceLT, reduceIte, reduceCtorEq, Int.reduceToNat, Int.reduceLE, Int.reduceLT, Int.reduceNeg, Bool.not_not, and_self, Bool.and_eq_false_iff, Int.cast_ofNat_Int, Int.reduceAdd, Int.reduceSub, Int.reduceMul, Int.reduceEq, Int.reduceNe, hmin]
  obtain ⟨N, hN⟩ : ∃ N, N = (cutS s).length := ⟨_, rfl⟩
  have hN2 : ((dotsIn s : Int) + 1).toNat = N := by omega
  rw [hN2]
  refine ⟨⟨by omega, by omega, by omega, by omega⟩, ⟨by omega, by omega⟩, ?_⟩
  refine run_loop (T := Nat × ByteArray) (fun t => ⟨[(0, .pv (pS t.2)), (1, .pv (pS sDot)), (2, .pv (pI 0)), (3, .pv (pI (dotsIn s + 1 - 1))), (9, .row 31 0 N), (10, .pv (pI t.1))], [(31, .sl 1 (((cutS s).take t.1).map pS ++ List.replicate (N - t.1) (pS ⟨#[]⟩)))]⟩) (fun t => t.1 < N ∧ cutS s = (cutS s).take t.1 ++ cutS t.2 ∧ t.2.size ≤ s.size) (fun t => N - t.1) ⟨0, s⟩ (by simp) ⟨by omega, by simp, Nat.le_refl _⟩ ?_
  rintro ⟨i, u⟩ ⟨hi, hq, hu⟩
  simp only at hi hq hu
  have hlen : ((cutS s).take i).length = i := by simp; omega
  have hul : (cutS u).length = N - i := by
    have := congrArg List.length hq
    rw [List.length_append, hlen] at this; omega
  obtain ⟨k, hk⟩ : ∃ k, N - i = k + 1 := ⟨N - i - 1, by omega⟩
  have hset := fill_set (f := pS) (A := (cutS s).take i) (z := pS ⟨#[]⟩) (p := pS (cutB u)) (k := k)
  have hset2 := fill_set (f := pS) (A := (cutS s).take i) (z := pS ⟨#[]⟩) (p := pS u) (k := k)
  have hget := fill_get (f := pS) (A := (cutS s).take i) (z := pS ⟨#[]⟩) (k := k)
  rw [hlen] at hset hset2 hget
  have hdl := dotAt_lt u
  by_cases hdt : 0 ≤ dotAt u
  · have hcu := cutS_some hdt
    have hca := cutS_pos (cutA u)
    have hnext : (cutS s).take (i + 1) = (cutS s).take i ++ [cutB u] := by
      conv => lhs; rw [hq, hcu]
      rw [List.take_append, hlen, show i + 1 - i = 1 by omega, List.take_of_length_le (by omega)]; rfl
    rw [hcu, List.length_cons] at hul
    rw [hk]
    simp only [go_sem, Nat.reduceEqDiff, Nat.reduceBEq, Nat.reduceAdd, Nat.reduceMul, Nat.reduceSub, Nat.reduceLeDiff, Nat.reduceLT, reduceIte, reduceCtorEq, Int.reduceToNat, Int.reduceLE, Int.reduceLT, Int.reduceNeg, Bool.not_not, and_self, Bool.and_eq_false_iff, Int.cast_ofNat_Int, Int.reduceAdd, Int.reduceSub, Int.reduceMul, Int.reduceEq, Int.reduceNe, B55_0, show (i : Int) < (dotsIn s : Int) + 1 - 1 by omega]
    refine runR_callf (by simp only [go_sem, Nat.reduceEqDiff, Nat.reduceBEq, Nat.reduceAdd, Nat.reduceMul, Nat.reduceSub, Nat.reduceLeDiff, Nat.reduceLT, reduceIte, reduceCtorEq, Int.reduceToNat, Int.reduceLE, Int.reduceLT, Int.reduceNeg, Bool.not_not, and_self, Bool.and_eq_false_iff, Int.cast_ofNat_Int, Int.reduceAdd, Int.reduceSub, Int.reduceMul, Int.reduceEq, Int.reduceNe]) (by simp only [go_sem, Nat.reduceEqDiff, Nat.reduceBEq, Nat.reduceAdd, Nat.reduceMul, Nat.reduceSub, Nat.reduceLeDiff, Nat.reduceLT, reduceIte, reduceCtorEq, Int.reduceToNat, Int.reduceLE, Int.reduceLT, Int.reduceNeg, Bool.not_not, and_self, Bool.and_eq_false_iff, Int.cast_ofNat_Int, Int.reduceAdd, Int.reduceSub, Int.reduceMul, Int.reduceEq, Int.reduceNe] <;> rfl) (fn71 u) ⟨rfl, trivial⟩ trivial ?_
    have hB : u.extract 0 (dotAt u + 0).toNat = cutB u := by unfold cutB; rw [if_pos hdt, Int.add_zero]
    have hA : u.extract (dotAt u + 1).toNat u.size = cutA u := by unfold cutA; rw [if_pos hdt, show (dotAt u + 1).toNat = (dotAt u).toNat + 1 by omega]
    have hcl := cutA_size u
    simp only [go_sem, Nat.reduceEqDiff, Nat.reduceBEq, Nat.reduceAdd, Nat.reduceMul, Nat.reduceSub, Nat.reduceLeDiff, Nat.reduceLT, reduceIte, reduceCtorEq, Int.reduceToNat, Int.reduceLE, Int.reduceLT, Int.reduceNeg, Bool.not_not, and_self, Bool.and_eq_false_iff, Int.cast_ofNat_Int, Int.reduceAdd, Int.reduceSub, Int.reduceMul, Int.reduceEq, Int.reduceNe, e1, show ¬ dotAt u < 0 by omega, hget, hB, hA, hset]
    refine ⟨⟨by omega, by omega⟩, ⟨by omega, by omega⟩, by omega, by simp; omega, ⟨by omega, by omega⟩, ⟨by omega, by omega, by omega⟩, ⟨by omega, by omega⟩, ⟨i + 1, cutA u⟩, ?_, ⟨by simp only; omega, ?_, by simp only; omega⟩, by simp only; omega⟩
    · rw [hnext, List.map_append, show N - (i + 1) = k by omega, List.append_assoc]; rfl
    · simp only
      rw [hnext, List.append_assoc, hq, hcu]
      simp [hlen]
  · have hcu := cutS_none hdt
    rw [hcu, List.length_singleton] at hul
    rw [hk]
    simp only [go_sem, Nat.reduceEqDiff, Nat.reduceBEq, Nat.reduceAdd, Nat.reduceMul, Nat.reduceSub, Nat.reduceLeDiff, Nat.reduceLT, reduceIte, reduceCtorEq, Int.reduceToNat, Int.reduceLE, Int.reduceLT, Int.reduceNeg, Bool.not_not, and_self, Bool.and_eq_false_iff, Int.cast_ofNat_Int, Int.reduceAdd, Int.reduceSub, Int.reduceMul, Int.reduceEq, Int.reduceNe, B55_0, R55_0, show ¬ (i : Int) < (dotsIn s : Int) + 1 - 1 by omega, hget, hset2]
    refine ⟨by omega, by simp; omega, ⟨by omega, by omega⟩, ⟨by omega, by omega⟩, ?_⟩
    have hk0 : k = 0 := by omega
    subst hk0
    rw [show ((i : Int) + 1).toNat - 0 = i + 1 by omega, List.replicate_zero, ← List.map_singleton, ← List.map_append, ← hcu, ← hq, List.take_of_length_le (by simp; omega)]
end Go.Vc
