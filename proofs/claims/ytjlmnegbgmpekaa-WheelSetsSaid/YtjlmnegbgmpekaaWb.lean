/- A part of the proofs of the seat Ytjlmnegbgmpekaa: the contracts of functions, each proved out of its code. -/
import Derived.Test.YtjlmnegbgmpekaaWa
import Derived.Test.YtjlmnegbgmpekaaProg
import Derived.Shelf.Strings.Search2
namespace Go.Vc
open Go.Proofs Go.Shelf Go.RowKit
set_option linter.unusedSimpArgs false
set_option linter.unusedVariables false

/-! ## Strings: 'Index' at one octet, out of the shelf -/
def renW : Ren := ⟨fun n => if n = 217 then 137 else if n = 219 then 122 else if n = 224 then 139 else if n = 225 then 138 else if n = 266 then 147 else if n = 267 then 140 else if n = 314 then 148 else n,
  fun t => if t = 46 then 143 else if t = 51 then 33 else if t = 146 then 178 else t, fun g => if g = 1 then 0 else g⟩
theorem lays219 : Lays.n219 Try.prog renW where
  mixed := by kernel_rfl
  f217 := by kernel_rfl
  f219 := by kernel_rfl
  f224 := by kernel_rfl
  f225 := by kernel_rfl
  f266 := by kernel_rfl
  f267 := by kernel_rfl
  f314 := by kernel_rfl
  t3 := by kernel_rfl
  a3 := fun w => by kernel_rfl
  z3 := fun w => by kernel_rfl
  v3 := fun w => by kernel_rfl
  t4 := by kernel_rfl
  a4 := fun w => by kernel_rfl
  z4 := fun w => by kernel_rfl
  v4 := fun w => by kernel_rfl
  t5 := by kernel_rfl
  a5 := fun w => by kernel_rfl
  z5 := fun w => by kernel_rfl
  v5 := fun w => by kernel_rfl
  t9 := by kernel_rfl
  a9 := fun w => by kernel_rfl
  z9 := fun w => by kernel_rfl
  v9 := fun w => by kernel_rfl
  t46 := by kernel_rfl
  a46 := fun w => by kernel_rfl
  z46 := fun w => by kernel_rfl
  v46 := fun w => by kernel_rfl
  t51 := by kernel_rfl
  a51 := fun w => by kernel_rfl
  z51 := fun w => by kernel_rfl
  v51 := fun w => by kernel_rfl
  t146 := by kernel_rfl
  a146 := fun w => by kernel_rfl
  z146 := fun w => by kernel_rfl
  v146 := fun w => by kernel_rfl
  g1 := by kernel_rfl
abbrev sDot : ByteArray := ⟨#[46]⟩
def dotAt (s : ByteArray) : Int := Lib.indexByte s.data.toList 46
theorem fn122 (s : ByteArray) : Fn Try.prog 122 [pS s, pS sDot] (.pv (pI (dotAt s))) [] := by
  refine ⟨enters_of (fn := Try.f122) Try.func122 (by decide) rfl, fun w F vs hF hv => ?_⟩
  simp only [PRels, PRel] at hv
  obtain ⟨u, r, rfl, rfl, u', r', rfl, rfl, rfl⟩ := hv
  have := Any.stringslite_Index_one lays219 s 46 w
  refine this.mono fun en w' ⟨e1, e2⟩ => ?_
  subst e1; subst e2
  refine ⟨_, ⟨w', F, fun _ => default⟩, rfl, rfl, ⟨Below.refl _ _, by simp [VRel, PRel, dotAt], fun i s xs h => by simp at h, fun i j hi => by simp at hi, fun i hi => by simp at hi, fun b => by simp⟩⟩
end Go.Vc

namespace Go.Vc
open Go.Proofs
set_option maxRecDepth 100000

/-- 'strings.Index' -/
def M113 : MC := (.seq (.reg [⟨(some 4), none, (.q (.mv (.c (.int .i64 0))))⟩] [] [0, 1] []) (.seq (.reg [⟨(some 5), none, (.q (.mv (.t 0)))⟩, ⟨(some 6), none, (.q (.mv (.t 1)))⟩, ⟨(some 7), none,
  (.call (.f 122) [(.t 5), (.t 6)])⟩, ⟨(some 4), none, (.q (.mv (.t 7)))⟩] [] [4] [1007]) .ret))
theorem mc113 : ofCode Try.prog [] Try.f113.ntmps [(0, ⟨[0, 1], [], [], 0, [], none⟩),
    (1, ⟨[4], [1007], [], 0, [], none⟩)] (Try.f113.body.getD .skip) = some M113 := by kernel_rfl
theorem Run113 {args : List PV} {v : AV} {rs : List (Nat × List PV)} (ids : List Bool) (h : args.length ≤ 8) (hv : run Try.prog (retK [RV.tmp 4] ids v rs) M113 [] ⟨entry 0 args, []⟩) : Fn Try.prog 113 args v rs :=
  Fn_run ids (by kernel_rfl) Try.func113 (by decide) rfl mc113 (by kernel_rfl) (by rw [Try.ntmps113]; exact h) (by rw [Try.ntmps113]; decide) hv

/-- 'strings.Contains' -/
def M101 : MC := (.seq (.reg [⟨(some 4), none, (.q (.mv (.c (.bool false))))⟩] [] [0, 1] []) (.seq (.reg [⟨(some 5), none, (.q (.mv (.t 0)))⟩, ⟨(some 6), none, (.q (.mv (.t 1)))⟩, ⟨(some 7), none,
  (.call (.f 113) [(.t 5), (.t 6)])⟩, ⟨(some 8), none, (.q (.bin .geq (.t 7) (.c (.int .i64 0))))⟩, ⟨(some 4), none, (.q (.mv (.t 8)))⟩] [] [4] [1007]) .ret))
theorem mc101 : ofCode Try.prog [] Try.f101.ntmps [(0, ⟨[0, 1], [], [], 0, [], none⟩),
    (1, ⟨[4], [1007], [], 0, [], none⟩)] (Try.f101.body.getD .skip) = some M101 := by kernel_rfl
theorem Run101 {args : List PV} {v : AV} {rs : List (Nat × List PV)} (ids : List Bool) (h : args.length ≤ 9) (hv : run Try.prog (retK [RV.tmp 4] ids v rs) M101 [] ⟨entry 0 args, []⟩) : Fn Try.prog 101 args v rs :=
  Fn_run ids (by kernel_rfl) Try.func101 (by decide) rfl mc101 (by kernel_rfl) (by rw [Try.ntmps101]; exact h) (by rw [Try.ntmps101]; decide) hv

/-- 'stringslite.Cut' -/
def M141 : MC := (.seq (.reg [⟨(some 4), none, (.q (.mv (.c (.string ⟨#[]⟩))))⟩, ⟨(some 5), none, (.q (.mv (.c (.string ⟨#[]⟩))))⟩, ⟨(some 6), none, (.q (.mv (.c (.bool false))))⟩] [] [0, 1] [])
  (.seq (.seq (.reg [⟨(some 8), none, (.q (.mv (.t 0)))⟩, ⟨(some 9), none, (.q (.mv (.t 1)))⟩, ⟨(some 10), none, (.call (.f 122) [(.t 8), (.t 9)])⟩, ⟨(some 7), none, (.q (.mv (.t 10)))⟩] [] [0, 1,
  7] [1010]) (.seq (.reg [⟨(some 11), none, (.q (.mv (.t 7)))⟩, ⟨(some 12), none, (.q (.bin .geq (.t 11) (.c (.int .i64 0))))⟩] [] [0, 1, 7, 12] [1010]) (.cond (.t 12) (.seq (.reg [⟨(some 13), none,
  (.q (.mv (.t 0)))⟩, ⟨(some 14), none, (.q (.mv (.t 7)))⟩, ⟨(some 15), none, (.q (.slc (.t 13) none (some (.t 14)) 0 true))⟩, ⟨(some 16), none, (.q (.mv (.t 0)))⟩, ⟨(some 17), none,
  (.q (.mv (.t 7)))⟩, ⟨(some 18), none, (.q (.mv (.t 1)))⟩, ⟨(some 19), none, (.q (.len (.t 18) true))⟩, ⟨(some 20), none, (.q (.bin .add (.t 17) (.t 19)))⟩, ⟨(some 21), none, (.q (.slc (.t 16)
  (some (.t 20)) none 0 true))⟩, ⟨(some 4), none, (.q (.mv (.t 15)))⟩, ⟨(some 5), none, (.q (.mv (.t 21)))⟩, ⟨(some 6), none, (.q (.mv (.c (.bool true))))⟩] [] [4, 5, 6] [1010]) .ret) .skip)))
  (.seq (.reg [⟨(some 22), none, (.q (.mv (.t 0)))⟩, ⟨(some 4), none, (.q (.mv (.t 22)))⟩, ⟨(some 5), none, (.q (.mv (.c (.string ⟨#[]⟩))))⟩, ⟨(some 6), none, (.q (.mv (.c (.bool false))))⟩] [] [4, 5,
  6] [1010]) .ret)))
theorem mc141 : ofCode Try.prog [] Try.f141.ntmps [(0, ⟨[0, 1], [], [], 0, [], none⟩),
    (1, ⟨[0, 1, 7], [1010], [], 0, [], none⟩),
    (2, ⟨[0, 1, 7, 12], [1010], [], 0, [], none⟩),
    (3, ⟨[4, 5, 6], [1010], [(0, 3589), (1, 3590), (2, 3588), (3, 3336), (4, 3472), (5, 3552), (6, 3520), (7, 3456), (8, 3328), (9, 3584), (10, 3072), (11, 2048)], 4095, [], none⟩),
    (4, ⟨[4, 5, 6], [1010], [], 0, [], none⟩)] (Try.f141.body.getD .skip) = some M141 := by kernel_rfl
theorem Run141 {args : List PV} {v : AV} {rs : List (Nat × List PV)} (ids : List Bool) (h : args.length ≤ 23) (hv : run Try.prog (retK [RV.tmp 4, RV.tmp 5, RV.tmp 6] ids v rs) M141 [] ⟨entry 0 args, []⟩) : Fn Try.prog 141 args v rs :=
  Fn_run ids (by kernel_rfl) Try.func141 (by decide) rfl mc141 (by kernel_rfl) (by rw [Try.ntmps141]; exact h) (by rw [Try.ntmps141]; decide) hv

/-- 'strings.Cut' -/
def M123 : MC := (.seq (.reg [⟨(some 4), none, (.q (.mv (.c (.string ⟨#[]⟩))))⟩, ⟨(some 5), none, (.q (.mv (.c (.string ⟨#[]⟩))))⟩, ⟨(some 6), none, (.q (.mv (.c (.bool false))))⟩] [] [0, 1] [])
  (.seq (.reg [⟨(some 7), none, (.q (.mv (.t 0)))⟩, ⟨(some 8), none, (.q (.mv (.t 1)))⟩, ⟨(some 9), none, (.call (.f 141) [(.t 7), (.t 8)])⟩, ⟨(some 10), none, (.q (.ext (.t 9) 0))⟩, ⟨(some 11), none,
  (.q (.ext (.t 9) 1))⟩, ⟨(some 12), none, (.q (.ext (.t 9) 2))⟩, ⟨(some 4), none, (.q (.mv (.t 10)))⟩, ⟨(some 5), none, (.q (.mv (.t 11)))⟩, ⟨(some 6), none, (.q (.mv (.t 12)))⟩] [] [4, 5, 6] [1009])
  .ret))
theorem mc123 : ofCode Try.prog [] Try.f123.ntmps [(0, ⟨[0, 1], [], [], 0, [], none⟩),
    (1, ⟨[4, 5, 6], [1009], [], 0, [], none⟩)] (Try.f123.body.getD .skip) = some M123 := by kernel_rfl
theorem Run123 {args : List PV} {v : AV} {rs : List (Nat × List PV)} (ids : List Bool) (h : args.length ≤ 13) (hv : run Try.prog (retK [RV.tmp 4, RV.tmp 5, RV.tmp 6] ids v rs) M123 [] ⟨entry 0 args, []⟩) : Fn Try.prog 123 args v rs :=
  Fn_run ids (by kernel_rfl) Try.func123 (by decide) rfl mc123 (by kernel_rfl) (by rw [Try.ntmps123]; exact h) (by rw [Try.ntmps123]; decide) hv

/-- 'name.part.1' -/
def M124 : MC := (.seq (.reg [⟨(some 2), none, (.q (.mv (.c (.bool false))))⟩] [] [0] []) (.seq (.reg [⟨(some 3), none, (.q (.mv (.t 0)))⟩, ⟨(some 4), none, (.q (.bin .geq (.t 3)
  (.c (.int .i32 97))))⟩, ⟨(some 5), none, (.q (.mv (.t 4)))⟩, ⟨(some 6), (some (5, true)), (.q (.mv (.t 0)))⟩, ⟨(some 7), (some (5, true)), (.q (.bin .leq (.t 6) (.c (.int .i32 122))))⟩, ⟨(some 8),
  none, (.q (.pick (.t 5) (.t 7) (.c (.bool false))))⟩, ⟨(some 9), none, (.q (.mv (.t 8)))⟩, ⟨(some 10), (some (9, false)), (.q (.mv (.t 0)))⟩, ⟨(some 11), (some (9, false)), (.q (.bin .geq (.t 10)
  (.c (.int .i32 48))))⟩, ⟨(some 12), (some (9, false)), (.q (.mv (.t 11)))⟩, ⟨(some 13), (some (12, true)), (.q (.mv (.t 0)))⟩, ⟨(some 14), (some (12, true)), (.q (.bin .leq (.t 13)
  (.c (.int .i32 57))))⟩, ⟨(some 15), (some (9, false)), (.q (.pick (.t 12) (.t 14) (.c (.bool false))))⟩, ⟨(some 16), none, (.q (.pick (.t 9) (.c (.bool true)) (.t 15)))⟩, ⟨(some 17), none,
  (.q (.mv (.t 16)))⟩, ⟨(some 18), (some (17, false)), (.q (.mv (.t 0)))⟩, ⟨(some 19), (some (17, false)), (.q (.bin .eql (.t 18) (.c (.int .i32 95))))⟩, ⟨(some 20), none, (.q (.pick (.t 17)
  (.c (.bool true)) (.t 19)))⟩, ⟨(some 2), none, (.q (.mv (.t 20)))⟩] [] [2] []) .ret))
theorem mc124 : ofCode Try.prog [] Try.f124.ntmps [(0, ⟨[0], [], [], 0, [], none⟩),
    (1, ⟨[2], [], [], 0, [], none⟩)] (Try.f124.body.getD .skip) = some M124 := by kernel_rfl
theorem Run124 {args : List PV} {v : AV} {rs : List (Nat × List PV)} (ids : List Bool) (h : args.length ≤ 21) (hv : run Try.prog (retK [RV.tmp 2] ids v rs) M124 [] ⟨entry 0 args, []⟩) : Fn Try.prog 124 args v rs :=
  Fn_run ids (by kernel_rfl) Try.func124 (by decide) rfl mc124 (by kernel_rfl) (by rw [Try.ntmps124]; exact h) (by rw [Try.ntmps124]; decide) hv

/-- 'name.part' -/
def B115_0 : MC := (.seq (.reg [⟨(some 8), none, (.nxts (.t 7))⟩, ⟨(some 9), none, (.q (.ext (.t 8) 0))⟩] [] [0, 3, 7, 8, 9] [7]) (.seq (.cond (.t 9) .skip (.exit 0))
  (.block 1 (.seq (.reg [⟨(some 10), none, (.q (.ext (.t 8) 2))⟩, ⟨(some 5), none, (.q (.mv (.t 10)))⟩] [] [0, 3, 5, 7] [7]) (.seq (.reg [⟨(some 11), none, (.q (.mv (.t 3)))⟩, ⟨(some 12), none,
  (.q (.mv (.t 5)))⟩, ⟨(some 13), none, (.call (.t 11) [(.t 12)])⟩, ⟨(some 14), none, (.q (.not (.t 13)))⟩] [] [0, 3, 7, 14] [7, 1013]) (.cond (.t 14) (.seq (.reg [⟨(some 2), none,
  (.q (.mv (.c (.bool false))))⟩] [] [2] []) .ret) .skip))))))
def R115_0 : MC := (.seq (.reg [⟨(some 15), none, (.q (.mv (.t 0)))⟩, ⟨(some 16), none, (.q (.bin .neq (.t 15) (.c (.string ⟨#[]⟩))))⟩, ⟨(some 2), none, (.q (.mv (.t 16)))⟩] [] [2] []) .ret)
def M115 : MC := (.seq (.reg [⟨(some 2), none, (.q (.mv (.c (.bool false))))⟩] [] [0] []) (.seq (.reg [⟨(some 3), none, (.q (.mv (.f 124)))⟩] [] [0, 3] []) (.seq (.seq (.reg [⟨(some 6), none,
  (.q (.mv (.t 0)))⟩, ⟨(some 7), none, (.rngs (.t 6))⟩] [] [0, 3, 7] [7]) (.block 0 (.loop B115_0))) R115_0)))
theorem mc115 : ofCode Try.prog [] Try.f115.ntmps [(0, ⟨[0], [], [], 0, [], none⟩),
    (1, ⟨[0, 3], [], [], 0, [], none⟩),
    (2, ⟨[0, 3, 7], [7], [], 0, [], none⟩),
    (3, ⟨[0, 3, 7, 8, 9], [7], [], 0, [], none⟩),
    (4, ⟨[0, 3, 5, 7], [7], [], 0, [], none⟩),
    (5, ⟨[0, 3, 7, 14], [7, 1013], [], 0, [], none⟩),
    (6, ⟨[2], [], [], 0, [], none⟩),
    (7, ⟨[2], [], [], 0, [], none⟩)] (Try.f115.body.getD .skip) = some M115 := by kernel_rfl
theorem Run115 {args : List PV} {v : AV} {rs : List (Nat × List PV)} (ids : List Bool) (h : args.length ≤ 17) (hv : run Try.prog (retK [RV.tmp 2] ids v rs) M115 [] ⟨entry 0 args, []⟩) : Fn Try.prog 115 args v rs :=
  Fn_run ids (by kernel_rfl) Try.func115 (by decide) rfl mc115 (by kernel_rfl) (by rw [Try.ntmps115]; exact h) (by rw [Try.ntmps115]; decide) hv

/-- 'name.all' -/
def B114_0 : MC := (.seq (.reg [⟨(some 12), none, (.q (.bin .lss (.t 11) (.c (.int .i64 8))))⟩] [] [0, 1, 11, 12] [1015]) (.seq (.cond (.t 12) .skip (.exit 0)) (.seq (.block 1 (.seq (.reg [⟨(some 14),
  none, (.q (.mv (.t 0)))⟩, ⟨(some 15), none, (.call (.f 123) [(.t 14), (.c (.string ⟨#[46]⟩))])⟩, ⟨(some 13), none, (.q (.mv (.t 15)))⟩, ⟨(some 16), none, (.q (.ext (.t 13) 0))⟩, ⟨(some 17), none,
  (.q (.ext (.t 13) 1))⟩, ⟨(some 18), none, (.q (.ext (.t 13) 2))⟩, ⟨(some 5), none, (.q (.mv (.t 16)))⟩, ⟨(some 6), none, (.q (.mv (.t 17)))⟩, ⟨(some 7), none, (.q (.mv (.t 18)))⟩] [] [1, 5, 6, 7,
  11] [1015]) (.seq (.seq (.reg [⟨(some 19), none, (.q (.mv (.t 1)))⟩, ⟨(some 20), none, (.q (.mv (.t 5)))⟩, ⟨(some 21), none, (.call (.t 19) [(.t 20)])⟩, ⟨(some 22), none,
  (.q (.not (.t 21)))⟩] [] [1, 6, 7, 11, 22] [1015, 1021]) (.cond (.t 22) (.seq (.reg [⟨(some 4), none, (.q (.mv (.c (.bool false))))⟩] [] [4] []) .ret) .skip)) (.seq (.seq (.reg [⟨(some 23), none,
  (.q (.mv (.t 7)))⟩, ⟨(some 24), none, (.q (.not (.t 23)))⟩] [] [1, 6, 11, 24] [1015]) (.cond (.t 24) (.seq (.reg [⟨(some 4), none, (.q (.mv (.c (.bool true))))⟩] [] [4] []) .ret) .skip))
  (.reg [⟨(some 25), none, (.q (.mv (.t 6)))⟩, ⟨(some 0), none, (.q (.mv (.t 25)))⟩] [] [0, 1, 11] [1015]))))) (.reg [⟨(some 26), none, (.q (.bin .add (.t 11) (.c (.int .i64 1))))⟩, ⟨(some 11), none,
  (.q (.mv (.t 26)))⟩] [] [0, 1, 11] [1015]))))
def R114_0 : MC := (.seq (.reg [⟨(some 4), none, (.q (.mv (.c (.bool false))))⟩] [] [4] []) .ret)
def M114 : MC := (.seq (.reg [⟨(some 4), none, (.q (.mv (.c (.bool false))))⟩] [] [0, 1] [1015]) (.seq (.seq (.reg [⟨(some 8), none, (.q (.mv (.t 0)))⟩, ⟨(some 9), none, (.q (.len (.t 8) true))⟩,
  ⟨(some 10), none, (.q (.bin .gtr (.t 9) (.c (.int .i64 40))))⟩] [] [0, 1, 10] [1015]) (.cond (.t 10) (.seq (.reg [⟨(some 4), none, (.q (.mv (.c (.bool false))))⟩] [] [4] []) .ret) .skip))
  (.seq (.seq (.reg [⟨(some 11), none, (.q (.mv (.c (.int .i64 0))))⟩] [] [0, 1, 11] [1015]) (.block 0 (.loop B114_0))) R114_0)))
theorem mc114 : ofCode Try.prog [] Try.f114.ntmps [(0, ⟨[0, 1], [1015], [], 0, [], none⟩),
    (1, ⟨[0, 1, 10], [1015], [], 0, [], none⟩),
    (2, ⟨[4], [], [], 0, [], none⟩),
    (3, ⟨[0, 1, 11], [1015], [], 0, [], none⟩),
    (4, ⟨[0, 1, 11, 12], [1015], [], 0, [], none⟩),
    (5, ⟨[1, 5, 6, 7, 11], [1015], [], 0, [], none⟩),
    (6, ⟨[1, 6, 7, 11, 22], [1015, 1021], [], 0, [], none⟩),
    (7, ⟨[4], [], [], 0, [], none⟩),
    (8, ⟨[1, 6, 11, 24], [1015], [], 0, [], none⟩),
    (9, ⟨[4], [], [], 0, [], none⟩),
    (10, ⟨[0, 1, 11], [1015], [], 0, [], none⟩),
    (11, ⟨[0, 1, 11], [1015], [], 0, [], none⟩),
    (12, ⟨[4], [], [], 0, [], none⟩)] (Try.f114.body.getD .skip) = some M114 := by kernel_rfl
theorem Run114 {args : List PV} {v : AV} {rs : List (Nat × List PV)} (ids : List Bool) (h : args.length ≤ 27) (hv : run Try.prog (retK [RV.tmp 4] ids v rs) M114 [] ⟨entry 0 args, []⟩) : Fn Try.prog 114 args v rs :=
  Fn_run ids (by kernel_rfl) Try.func114 (by decide) rfl mc114 (by kernel_rfl) (by rw [Try.ntmps114]; exact h) (by rw [Try.ntmps114]; decide) hv

/-- 'name.Topic' -/
def M102 : MC := (.seq (.reg [⟨(some 2), none, (.q (.mv (.c (.bool false))))⟩] [] [0] []) (.seq (.reg [⟨(some 3), none, (.q (.mv (.t 0)))⟩, ⟨(some 4), none, (.call (.f 114) [(.t 3), (.f 115)])⟩,
  ⟨(some 2), none, (.q (.mv (.t 4)))⟩] [] [2] [1004]) .ret))
theorem mc102 : ofCode Try.prog [] Try.f102.ntmps [(0, ⟨[0], [], [], 0, [], none⟩),
    (1, ⟨[2], [1004], [], 0, [], none⟩)] (Try.f102.body.getD .skip) = some M102 := by kernel_rfl
theorem Run102 {args : List PV} {v : AV} {rs : List (Nat × List PV)} (ids : List Bool) (h : args.length ≤ 5) (hv : run Try.prog (retK [RV.tmp 2] ids v rs) M102 [] ⟨entry 0 args, []⟩) : Fn Try.prog 102 args v rs :=
  Fn_run ids (by kernel_rfl) Try.func102 (by decide) rfl mc102 (by kernel_rfl) (by rw [Try.ntmps102]; exact h) (by rw [Try.ntmps102]; decide) hv

/-- 'event.Field' -/
def M81 : MC := (.seq (.reg [⟨(some 2), none, (.q (.mv (.c (.bool false))))⟩] [] [0] []) (.seq (.reg [⟨(some 3), none, (.q (.mv (.t 0)))⟩, ⟨(some 4), none, (.q (.len (.t 3) true))⟩, ⟨(some 5), none,
  (.q (.bin .leq (.t 4) (.c (.int .i64 16))))⟩, ⟨(some 6), none, (.q (.mv (.t 5)))⟩, ⟨(some 7), (some (6, true)), (.q (.mv (.t 0)))⟩, ⟨(some 8), (some (6, true)), (.call (.f 101) [(.t 7),
  (.c (.string ⟨#[46]⟩))])⟩, ⟨(some 9), (some (6, true)), (.q (.not (.t 8)))⟩, ⟨(some 10), none, (.q (.pick (.t 6) (.t 9) (.c (.bool false))))⟩, ⟨(some 11), none, (.q (.mv (.t 10)))⟩, ⟨(some 12),
  (some (11, true)), (.q (.mv (.t 0)))⟩, ⟨(some 13), (some (11, true)), (.call (.f 102) [(.t 12)])⟩, ⟨(some 14), none, (.q (.pick (.t 11) (.t 13) (.c (.bool false))))⟩, ⟨(some 2), none,
  (.q (.mv (.t 14)))⟩] [] [2] [1008, 1013]) .ret))
theorem mc81 : ofCode Try.prog [] Try.f81.ntmps [(0, ⟨[0], [], [], 0, [], none⟩),
    (1, ⟨[2], [1008, 1013], [], 0, [], none⟩)] (Try.f81.body.getD .skip) = some M81 := by kernel_rfl
theorem Run81 {args : List PV} {v : AV} {rs : List (Nat × List PV)} (ids : List Bool) (h : args.length ≤ 15) (hv : run Try.prog (retK [RV.tmp 2] ids v rs) M81 [] ⟨entry 0 args, []⟩) : Fn Try.prog 81 args v rs :=
  Fn_run ids (by kernel_rfl) Try.func81 (by decide) rfl mc81 (by kernel_rfl) (by rw [Try.ntmps81]; exact h) (by rw [Try.ntmps81]; decide) hv

end Go.Vc

namespace Go.Vc
open Go.Proofs
set_option linter.unusedSimpArgs false
set_option linter.unusedVariables false

/-! ## Names -/
theorem fn113 (s : ByteArray) : Fn Try.prog 113 [pS s, pS sDot] (.pv (pI (dotAt s))) [] := by
  refine Run113 [] (by simp) ?_
  simp only [go_sem, Nat.reduceEqDiff, Nat.reduceBEq, Nat.reduceAdd, Nat.reduceMul, Nat.reduceSub, Nat.reduceLeDiff, Nat.reduceLT, reduceIte, reduceCtorEq, Int.reduceToNat, Int.reduceLE, Int.reduceLT, Int.reduceNeg, Bool.not_not, and_self, Bool.and_eq_false_iff, Int.cast_ofNat_Int, Int.reduceAdd, Int.reduceSub, Int.reduceMul, Int.reduceEq, Int.reduceNe, M113]
  refine runR_callf (by simp only [go_sem, Nat.reduceEqDiff, Nat.reduceBEq, Nat.reduceAdd, Nat.reduceMul, Nat.reduceSub, Nat.reduceLeDiff, Nat.reduceLT, reduceIte, reduceCtorEq, Int.reduceToNat, Int.reduceLE, Int.reduceLT, Int.reduceNeg, Bool.not_not, and_self, Bool.and_eq_false_iff, Int.cast_ofNat_Int, Int.reduceAdd, Int.reduceSub, Int.reduceMul, Int.reduceEq, Int.reduceNe]) (by simp only [go_sem, Nat.reduceEqDiff, Nat.reduceBEq, Nat.reduceAdd, Nat.reduceMul, Nat.reduceSub, Nat.reduceLeDiff, Nat.reduceLT, reduceIte, reduceCtorEq, Int.reduceToNat, Int.reduceLE, Int.reduceLT, Int.reduceNeg, Bool.not_not, and_self, Bool.and_eq_false_iff, Int.cast_ofNat_Int, Int.reduceAdd, Int.reduceSub, Int.reduceMul, Int.reduceEq, Int.reduceNe]) (fn122 s) ⟨rfl, trivial⟩ trivial ?_
  simp only [go_sem, Nat.reduceEqDiff, Nat.reduceBEq, Nat.reduceAdd, Nat.reduceMul, Nat.reduceSub, Nat.reduceLeDiff, Nat.reduceLT, reduceIte, reduceCtorEq, Int.reduceToNat, Int.reduceLE, Int.reduceLT, Int.reduceNeg, Bool.not_not, and_self, Bool.and_eq_false_iff, Int.cast_ofNat_Int, Int.reduceAdd, Int.reduceSub, Int.reduceMul, Int.reduceEq, Int.reduceNe]
theorem fn101 (s : ByteArray) : Fn Try.prog 101 [pS s, pS sDot] (.pv (pB (decide (0 ≤ dotAt s)))) [] := by
  refine Run101 [] (by simp) ?_
  simp only [go_sem, Nat.reduceEqDiff, Nat.reduceBEq, Nat.reduceAdd, Nat.reduceMul, Nat.reduceSub, Nat.reduceLeDiff, Nat.reduceLT, reduceIte, reduceCtorEq, Int.reduceToNat, Int.reduceLE, Int.reduceLT, Int.reduceNeg, Bool.not_not, and_self, Bool.and_eq_false_iff, Int.cast_ofNat_Int, Int.reduceAdd, Int.reduceSub, Int.reduceMul, Int.reduceEq, Int.reduceNe, M101]
  refine runR_callf (by simp only [go_sem, Nat.reduceEqDiff, Nat.reduceBEq, Nat.reduceAdd, Nat.reduceMul, Nat.reduceSub, Nat.reduceLeDiff, Nat.reduceLT, reduceIte, reduceCtorEq, Int.reduceToNat, Int.reduceLE, Int.reduceLT, Int.reduceNeg, Bool.not_not, and_self, Bool.and_eq_false_iff, Int.cast_ofNat_Int, Int.reduceAdd, Int.reduceSub, Int.reduceMul, Int.reduceEq, Int.reduceNe]) (by simp only [go_sem, Nat.reduceEqDiff, Nat.reduceBEq, Nat.reduceAdd, Nat.reduceMul, Nat.reduceSub, Nat.reduceLeDiff, Nat.reduceLT, reduceIte, reduceCtorEq, Int.reduceToNat, Int.reduceLE, Int.reduceLT, Int.reduceNeg, Bool.not_not, and_self, Bool.and_eq_false_iff, Int.cast_ofNat_Int, Int.reduceAdd, Int.reduceSub, Int.reduceMul, Int.reduceEq, Int.reduceNe]) (fn113 s) ⟨rfl, trivial⟩ trivial ?_
  simp only [go_sem, Nat.reduceEqDiff, Nat.reduceBEq, Nat.reduceAdd, Nat.reduceMul, Nat.reduceSub, Nat.reduceLeDiff, Nat.reduceLT, reduceIte, reduceCtorEq, Int.reduceToNat, Int.reduceLE, Int.reduceLT, Int.reduceNeg, Bool.not_not, and_self, Bool.and_eq_false_iff, Int.cast_ofNat_Int, Int.reduceAdd, Int.reduceSub, Int.reduceMul, Int.reduceEq, Int.reduceNe]
theorem indexByte_lt : ∀ (l : List UInt8) (c : UInt8), Lib.indexByte l c = -1 ∨ 0 ≤ Lib.indexByte l c ∧ Lib.indexByte l c < l.length
  | [], _ => .inl rfl
  | b :: l, c => by
    have ih := indexByte_lt l c
    simp only [Lib.indexByte]
    split
    · right; simp only [List.length_cons]; omega
    · split
      · exact .inl rfl
      · rename_i h; right
        have : Lib.indexByte l c ≠ -1 := by simpa using h
        simp only [List.length_cons]
        omega
theorem dotAt_lt (s : ByteArray) : dotAt s = -1 ∨ 0 ≤ dotAt s ∧ dotAt s < s.size := by
  have := indexByte_lt s.data.toList 46
  simpa [dotAt] using this
def cutB (s : ByteArray) : ByteArray := if 0 ≤ dotAt s then s.extract 0 (dotAt s).toNat else s
def cutA (s : ByteArray) : ByteArray := if 0 ≤ dotAt s then s.extract ((dotAt s).toNat + 1) s.size else ⟨#[]⟩
theorem fn141 (s : ByteArray) (hs : s.size ≤ 1000) : Fn Try.prog 141 [pS s, pS sDot] (.pv (.tup [pS (cutB s), pS (cutA s), pB (decide (0 ≤ dotAt s))])) [] := by
  refine Run141 [] (by simp) ?_
  simp only [go_sem, Nat.reduceEqDiff, Nat.reduceBEq, Nat.reduceAdd, Nat.reduceMul, Nat.reduceSub, Nat.reduceLeDiff, Nat.reduceLT, reduceIte, reduceCtorEq, Int.reduceToNat, Int.reduceLE, Int.reduceLT, Int.reduceNeg, Bool.not_not, and_self, Bool.and_eq_false_iff, Int.cast_ofNat_Int, Int.reduceAdd, Int.reduceSub, Int.reduceMul, Int.reduceEq, Int.reduceNe, M141]
  refine runR_callf (by simp only [go_sem, Nat.reduceEqDiff, Nat.reduceBEq, Nat.reduceAdd, Nat.reduceMul, Nat.reduceSub, Nat.reduceLeDiff, Nat.reduceLT, reduceIte, reduceCtorEq, Int.reduceToNat, Int.reduceLE, Int.reduceLT, Int.reduceNeg, Bool.not_not, and_self, Bool.and_eq_false_iff, Int.cast_ofNat_Int, Int.reduceAdd, Int.reduceSub, Int.reduceMul, Int.reduceEq, Int.reduceNe]) (by simp only [go_sem, Nat.reduceEqDiff, Nat.reduceBEq, Nat.reduceAdd, Nat.reduceMul, Nat.reduceSub, Nat.reduceLeDiff, Nat.reduceLT, reduceIte, reduceCtorEq, Int.reduceToNat, Int.reduceLE, Int.reduceLT, Int.reduceNeg, Bool.not_not, and_self, Bool.and_eq_false_iff, Int.cast_ofNat_Int, Int.reduceAdd, Int.reduceSub, Int.reduceMul, Int.reduceEq, Int.reduceNe]) (fn122 s) ⟨rfl, trivial⟩ trivial ?_
  have hd := dotAt_lt s
  have e1 : sDot.size = 1 := rfl
  simp only [go_sem, Nat.reduceEqDiff, Nat.reduceBEq, Nat.reduceAdd, Nat.reduceMul, Nat.reduceSub, Nat.reduceLeDiff, Nat.reduceLT, reduceIte, reduceCtorEq, Int.reduceToNat, Int.reduceLE, Int.reduceLT, Int.reduceNeg, Bool.not_not, and_self, Bool.and_eq_false_iff, Int.cast_ofNat_Int, Int.reduceAdd, Int.reduceSub, Int.reduceMul, Int.reduceEq, Int.reduceNe, e1]
  refine ⟨fun h => ⟨⟨h, by omega⟩, ⟨by omega, by omega⟩, ⟨by omega, by omega, by omega⟩, ?_⟩, fun h => ?_⟩
  · have e2 : (dotAt s + ((1 : Nat) : Int)).toNat = (dotAt s).toNat + 1 := by omega
    have e3 : (dotAt s + 1).toNat = (dotAt s).toNat + 1 := by omega
    simp [e2, e3, cutB, cutA, h]
  · simp [cutB, cutA, h]
theorem fn123 (s : ByteArray) (hs : s.size ≤ 1000) : Fn Try.prog 123 [pS s, pS sDot] (.pv (.tup [pS (cutB s), pS (cutA s), pB (decide (0 ≤ dotAt s))])) [] := by
  refine Run123 [] (by simp) ?_
  simp only [go_sem, Nat.reduceEqDiff, Nat.reduceBEq, Nat.reduceAdd, Nat.reduceMul, Nat.reduceSub, Nat.reduceLeDiff, Nat.reduceLT, reduceIte, reduceCtorEq, Int.reduceToNat, Int.reduceLE, Int.reduceLT, Int.reduceNeg, Bool.not_not, and_self, Bool.and_eq_false_iff, Int.cast_ofNat_Int, Int.reduceAdd, Int.reduceSub, Int.reduceMul, Int.reduceEq, Int.reduceNe, M123]
  refine runR_callf (by simp only [go_sem, Nat.reduceEqDiff, Nat.reduceBEq, Nat.reduceAdd, Nat.reduceMul, Nat.reduceSub, Nat.reduceLeDiff, Nat.reduceLT, reduceIte, reduceCtorEq, Int.reduceToNat, Int.reduceLE, Int.reduceLT, Int.reduceNeg, Bool.not_not, and_self, Bool.and_eq_false_iff, Int.cast_ofNat_Int, Int.reduceAdd, Int.reduceSub, Int.reduceMul, Int.reduceEq, Int.reduceNe]) (by simp only [go_sem, Nat.reduceEqDiff, Nat.reduceBEq, Nat.reduceAdd, Nat.reduceMul, Nat.reduceSub, Nat.reduceLeDiff, Nat.reduceLT, reduceIte, reduceCtorEq, Int.reduceToNat, Int.reduceLE, Int.reduceLT, Int.reduceNeg, Bool.not_not, and_self, Bool.and_eq_false_iff, Int.cast_ofNat_Int, Int.reduceAdd, Int.reduceSub, Int.reduceMul, Int.reduceEq, Int.reduceNe]) (fn141 s hs) ⟨rfl, trivial⟩ trivial ?_
  simp only [go_sem, Nat.reduceEqDiff, Nat.reduceBEq, Nat.reduceAdd, Nat.reduceMul, Nat.reduceSub, Nat.reduceLeDiff, Nat.reduceLT, reduceIte, reduceCtorEq, Int.reduceToNat, Int.reduceLE, Int.reduceLT, Int.reduceNeg, Bool.not_not, and_self, Bool.and_eq_false_iff, Int.cast_ofNat_Int, Int.reduceAdd, Int.reduceSub, Int.reduceMul, Int.reduceEq, Int.reduceNe]
def okR (r : Int) : Bool := decide (97 ≤ r ∧ r ≤ 122) || decide (48 ≤ r ∧ r ≤ 57) || decide (r = 95)
theorem fn124 (r : Int) : Fn Try.prog 124 [.sc (.int .i32 r)] (.pv (pB (okR r))) [] := by
  refine Run124 [] (by simp) ?_
  simp only [go_sem, Nat.reduceEqDiff, Nat.reduceBEq, Nat.reduceAdd, Nat.reduceMul, Nat.reduceSub, Nat.reduceLeDiff, Nat.reduceLT, reduceIte, reduceCtorEq, Int.reduceToNat, Int.reduceLE, Int.reduceLT, Int.reduceNeg, Bool.not_not, and_self, Bool.and_eq_false_iff, Int.cast_ofNat_Int, Int.reduceAdd, Int.reduceSub, Int.reduceMul, Int.reduceEq, Int.reduceNe, M124]
  unfold okR
  by_cases h1 : 97 ≤ r <;> by_cases h2 : r ≤ 122 <;> by_cases h3 : 48 ≤ r <;> by_cases h4 : r ≤ 57 <;> by_cases h5 : r = 95 <;> simp [h1, h2, h3, h4, h5]
def partB (s : ByteArray) : Bool := decide (s ≠ ⟨#[]⟩) && s.data.toList.all (fun b => okR b.toNat)
theorem decode_small {s : ByteArray} {i : Nat} (h : (s.get! i).toNat < 128) : Utf8.decode s i = ((s.get! i).toNat, 1) := by
  simp [Utf8.decode, h]
theorem decode_big {s : ByteArray} {i : Nat} (h : 128 ≤ (s.get! i).toNat) : 128 ≤ (Utf8.decode s i).1 := by
  unfold Utf8.decode
  simp only [Nat.add_zero]
  rw [if_neg (by omega)]
  repeat' split
  all_goals simp only [Utf8.runeError, Bool.and_eq_true, decide_eq_true_eq, ge_iff_le] at * <;> omega
theorem get_list {s : ByteArray} {i : Nat} (h : i < s.size) : s.get! i = s.data.toList[i]'(by simpa using h) := by
  obtain ⟨a⟩ := s
  have h' : i < a.size := h
  simp [ByteArray.get!, h']
theorem fn115 (s : ByteArray) : Fn Try.prog 115 [pS s] (.pv (pB (partB s))) [] := by
  refine Run115 [] (by simp) ?_
  simp only [go_sem, Nat.reduceEqDiff, Nat.reduceBEq, Nat.reduceAdd, Nat.reduceMul, Nat.reduceSub, Nat.reduceLeDiff, Nat.reduceLT, reduceIte, reduceCtorEq, Int.reduceToNat, Int.reduceLE, Int.reduceLT, Int.reduceNeg, Bool.not_not, and_self, Bool.and_eq_false_iff, Int.cast_ofNat_Int, Int.reduceAdd, Int.reduceSub, Int.reduceMul, Int.reduceEq, Int.reduceNe, M115]
  refine run_loop (T := Nat × List (Nat × AV)) (fun t => ⟨[(0, .pv (pS s)), (3, .fn 124 []), (7, .it 7)] ++ t.2, [(7, .sit s t.1)]⟩) (fun t => t.1 ≤ s.size ∧ ∀ j (h : j < s.data.toList.length), j < t.1 → okR s.data.toList[j].toNat = true) (fun t => s.size - t.1) ⟨0, []⟩ rfl ⟨Nat.zero_le _, fun j _ h => absurd h (by simp)⟩ ?_
  rintro ⟨i, ex⟩ ⟨hi, hq⟩
  simp only at hi hq
  have hsz : s.data.toList.length = s.size := by simp
  by_cases hlt : i < s.size
  · have hg := get_list hlt
    have hmem : s.data.toList[i]'(by omega) ∈ s.data.toList := List.getElem_mem _
    have no : okR (s.get! i).toNat = false → partB s = false := fun h => by
      unfold partB
      rw [Bool.and_eq_false_iff, List.all_eq_false]
      right
      exact ⟨_, hmem, by rw [← hg, h]; simp⟩
    by_cases hb : (s.get! i).toNat < 128
    · simp only [go_sem, Nat.reduceEqDiff, Nat.reduceBEq, Nat.reduceAdd, Nat.reduceMul, Nat.reduceSub, Nat.reduceLeDiff, Nat.reduceLT, reduceIte, reduceCtorEq, Int.reduceToNat, Int.reduceLE, Int.reduceLT, Int.reduceNeg, Bool.not_not, and_self, Bool.and_eq_false_iff, Int.cast_ofNat_Int, Int.reduceAdd, Int.reduceSub, Int.reduceMul, Int.reduceEq, Int.reduceNe, B115_0, hlt, decode_small hb]
      refine runR_callf (by simp only [go_sem, Nat.reduceEqDiff, Nat.reduceBEq, Nat.reduceAdd, Nat.reduceMul, Nat.reduceSub, Nat.reduceLeDiff, Nat.reduceLT, reduceIte, reduceCtorEq, Int.reduceToNat, Int.reduceLE, Int.reduceLT, Int.reduceNeg, Bool.not_not, and_self, Bool.and_eq_false_iff, Int.cast_ofNat_Int, Int.reduceAdd, Int.reduceSub, Int.reduceMul, Int.reduceEq, Int.reduceNe]) (by simp only [go_sem, Nat.reduceEqDiff, Nat.reduceBEq, Nat.reduceAdd, Nat.reduceMul, Nat.reduceSub, Nat.reduceLeDiff, Nat.reduceLT, reduceIte, reduceCtorEq, Int.reduceToNat, Int.reduceLE, Int.reduceLT, Int.reduceNeg, Bool.not_not, and_self, Bool.and_eq_false_iff, Int.cast_ofNat_Int, Int.reduceAdd, Int.reduceSub, Int.reduceMul, Int.reduceEq, Int.reduceNe]) (fn124 (((s.get! i).toNat : Nat) : Int)) ⟨rfl, trivial⟩ trivial ?_
      simp only [go_sem, Nat.reduceEqDiff, Nat.reduceBEq, Nat.reduceAdd, Nat.reduceMul, Nat.reduceSub, Nat.reduceLeDiff, Nat.reduceLT, reduceIte, reduceCtorEq, Int.reduceToNat, Int.reduceLE, Int.reduceLT, Int.reduceNeg, Bool.not_not, and_self, Bool.and_eq_false_iff, Int.cast_ofNat_Int, Int.reduceAdd, Int.reduceSub, Int.reduceMul, Int.reduceEq, Int.reduceNe]
      refine ⟨fun h => ?_, fun h => ⟨⟨i + 1, [(14, .pv (pB false))]⟩, by rw [h]; rfl, ⟨hlt, fun j hj hji => ?_⟩, by simp only; omega⟩⟩
      · rw [no h]
      · by_cases hji2 : j = i
        · subst hji2; rw [← hg]; exact h
        · exact hq j hj (by simp only at hji; omega)
    · have hbig := decode_big (s := s) (i := i) (by omega)
      have h1 : okR (s.get! i).toNat = false := by simp [okR]; omega
      have h2 : okR (((Utf8.decode s i).1 : Nat) : Int) = false := by simp [okR]; omega
      simp only [go_sem, Nat.reduceEqDiff, Nat.reduceBEq, Nat.reduceAdd, Nat.reduceMul, Nat.reduceSub, Nat.reduceLeDiff, Nat.reduceLT, reduceIte, reduceCtorEq, Int.reduceToNat, Int.reduceLE, Int.reduceLT, Int.reduceNeg, Bool.not_not, and_self, Bool.and_eq_false_iff, Int.cast_ofNat_Int, Int.reduceAdd, Int.reduceSub, Int.reduceMul, Int.reduceEq, Int.reduceNe, B115_0, hlt]
      refine runR_callf (by simp only [go_sem, Nat.reduceEqDiff, Nat.reduceBEq, Nat.reduceAdd, Nat.reduceMul, Nat.reduceSub, Nat.reduceLeDiff, Nat.reduceLT, reduceIte, reduceCtorEq, Int.reduceToNat, Int.reduceLE, Int.reduceLT, Int.reduceNeg, Bool.not_not, and_self, Bool.and_eq_false_iff, Int.cast_ofNat_Int, Int.reduceAdd, Int.reduceSub, Int.reduceMul, Int.reduceEq, Int.reduceNe]) (by simp only [go_sem, Nat.reduceEqDiff, Nat.reduceBEq, Nat.reduceAdd, Nat.reduceMul, Nat.reduceSub, Nat.reduceLeDiff, Nat.reduceLT, reduceIte, reduceCtorEq, Int.reduceToNat, Int.reduceLE, Int.reduceLT, Int.reduceNeg, Bool.not_not, and_self, Bool.and_eq_false_iff, Int.cast_ofNat_Int, Int.reduceAdd, Int.reduceSub, Int.reduceMul, Int.reduceEq, Int.reduceNe]) (fn124 (((Utf8.decode s i).1 : Nat) : Int)) ⟨rfl, trivial⟩ trivial ?_
      simp only [go_sem, Nat.reduceEqDiff, Nat.reduceBEq, Nat.reduceAdd, Nat.reduceMul, Nat.reduceSub, Nat.reduceLeDiff, Nat.reduceLT, reduceIte, reduceCtorEq, Int.reduceToNat, Int.reduceLE, Int.reduceLT, Int.reduceNeg, Bool.not_not, and_self, Bool.and_eq_false_iff, Int.cast_ofNat_Int, Int.reduceAdd, Int.reduceSub, Int.reduceMul, Int.reduceEq, Int.reduceNe, h2]
      rw [no h1]
  · simp only [go_sem, Nat.reduceEqDiff, Nat.reduceBEq, Nat.reduceAdd, Nat.reduceMul, Nat.reduceSub, Nat.reduceLeDiff, Nat.reduceLT, reduceIte, reduceCtorEq, Int.reduceToNat, Int.reduceLE, Int.reduceLT, Int.reduceNeg, Bool.not_not, and_self, Bool.and_eq_false_iff, Int.cast_ofNat_Int, Int.reduceAdd, Int.reduceSub, Int.reduceMul, Int.reduceEq, Int.reduceNe, B115_0, R115_0, hlt]
    have : s.data.toList.all (fun b => okR b.toNat) = true := List.all_eq_true.2 fun b hb => by
      obtain ⟨j, hj, rfl⟩ := List.mem_iff_getElem.1 hb
      exact hq j hj (by omega)
    unfold partB
    rw [this]
    simp
def allN (may : ByteArray → Bool) : Nat → ByteArray → Bool
  | 0, _ => false
  | n + 1, s => may (cutB s) && (!decide (0 ≤ dotAt s) || allN may n (cutA s))
theorem cutB_size (s : ByteArray) : (cutB s).size ≤ s.size := by
  unfold cutB; split
  · rw [ByteArray.size_extract]; omega
  · exact Nat.le_refl _
theorem cutA_size (s : ByteArray) : (cutA s).size ≤ s.size := by
  unfold cutA; split
  · rw [ByteArray.size_extract]; omega
  · exact Nat.zero_le _
theorem fn114p (s : ByteArray) : Fn Try.prog 114 [pS s, .fn 115 []] (.pv (pB (decide (s.size ≤ 40) && allN partB 8 s))) [] := by
  refine Run114 [] (by simp) ?_
  simp only [go_sem, Nat.reduceEqDiff, Nat.reduceBEq, Nat.reduceAdd, Nat.reduceMul, Nat.reduceSub, Nat.reduceLeDiff, Nat.reduceLT, reduceIte, reduceCtorEq, Int.reduceToNat, Int.reduceLE, Int.reduceLT, Int.reduceNeg, Bool.not_not, and_self, Bool.and_eq_false_iff, Int.cast_ofNat_Int, Int.reduceAdd, Int.reduceSub, Int.reduceMul, Int.reduceEq, Int.reduceNe, M114]
  refine ⟨fun h => ?_, fun h => ?_⟩
  · simp [show ¬ s.size ≤ 40 by omega]
  · have h40 : s.size ≤ 40 := by omega
    simp only [h40, decide_true, Bool.true_and]
    obtain ⟨R, hR⟩ : ∃ R, allN partB 8 s = R := ⟨_, rfl⟩
    rw [hR]
    refine run_loop (T := Nat × ByteArray × List (Nat × AV)) (fun t => ⟨[(0, .pv (pS t.2.1)), (1, .pv (.fn 115 [])), (11, .pv (pI t.1))] ++ t.2.2, []⟩) (fun t => t.1 ≤ 8 ∧ t.2.1.size ≤ 40 ∧ allN partB (8 - t.1) t.2.1 = R) (fun t => 8 - t.1) ⟨0, s, []⟩ rfl ⟨Nat.zero_le _, h40, hR⟩ ?_
    rintro ⟨i, u, ex⟩ ⟨hi, hu, hq⟩
    simp only at hi hu hq
    by_cases hlt : i < 8
    · obtain ⟨n, hn⟩ : ∃ n, 8 - i = n + 1 := ⟨7 - i, by omega⟩
      have hn2 : 8 - (i + 1) = n := by omega
      rw [hn] at hq
      simp only [allN] at hq
      have hca := cutA_size u
      simp only [go_sem, Nat.reduceEqDiff, Nat.reduceBEq, Nat.reduceAdd, Nat.reduceMul, Nat.reduceSub, Nat.reduceLeDiff, Nat.reduceLT, reduceIte, reduceCtorEq, Int.reduceToNat, Int.reduceLE, Int.reduceLT, Int.reduceNeg, Bool.not_not, and_self, Bool.and_eq_false_iff, Int.cast_ofNat_Int, Int.reduceAdd, Int.reduceSub, Int.reduceMul, Int.reduceEq, Int.reduceNe, B114_0, show (i : Int) < 8 by omega]
      refine runR_callf (by simp only [go_sem, Nat.reduceEqDiff, Nat.reduceBEq, Nat.reduceAdd, Nat.reduceMul, Nat.reduceSub, Nat.reduceLeDiff, Nat.reduceLT, reduceIte, reduceCtorEq, Int.reduceToNat, Int.reduceLE, Int.reduceLT, Int.reduceNeg, Bool.not_not, and_self, Bool.and_eq_false_iff, Int.cast_ofNat_Int, Int.reduceAdd, Int.reduceSub, Int.reduceMul, Int.reduceEq, Int.reduceNe]) (by simp only [go_sem, Nat.reduceEqDiff, Nat.reduceBEq, Nat.reduceAdd, Nat.reduceMul, Nat.reduceSub, Nat.reduceLeDiff, Nat.reduceLT, reduceIte, reduceCtorEq, Int.reduceToNat, Int.reduceLE, Int.reduceLT, Int.reduceNeg, Bool.not_not, and_self, Bool.and_eq_false_iff, Int.cast_ofNat_Int, Int.reduceAdd, Int.reduceSub, Int.reduceMul, Int.reduceEq, Int.reduceNe]) (fn123 u (by omega)) ⟨rfl, trivial⟩ trivial ?_
      simp only [go_sem, Nat.reduceEqDiff, Nat.reduceBEq, Nat.reduceAdd, Nat.reduceMul, Nat.reduceSub, Nat.reduceLeDiff, Nat.reduceLT, reduceIte, reduceCtorEq, Int.reduceToNat, Int.reduceLE, Int.reduceLT, Int.reduceNeg, Bool.not_not, and_self, Bool.and_eq_false_iff, Int.cast_ofNat_Int, Int.reduceAdd, Int.reduceSub, Int.reduceMul, Int.reduceEq, Int.reduceNe]
      refine runR_callf (by simp only [go_sem, Nat.reduceEqDiff, Nat.reduceBEq, Nat.reduceAdd, Nat.reduceMul, Nat.reduceSub, Nat.reduceLeDiff, Nat.reduceLT, reduceIte, reduceCtorEq, Int.reduceToNat, Int.reduceLE, Int.reduceLT, Int.reduceNeg, Bool.not_not, and_self, Bool.and_eq_false_iff, Int.cast_ofNat_Int, Int.reduceAdd, Int.reduceSub, Int.reduceMul, Int.reduceEq, Int.reduceNe]) (by simp only [go_sem, Nat.reduceEqDiff, Nat.reduceBEq, Nat.reduceAdd, Nat.reduceMul, Nat.reduceSub, Nat.reduceLeDiff, Nat.reduceLT, reduceIte, reduceCtorEq, Int.reduceToNat, Int.reduceLE, Int.reduceLT, Int.reduceNeg, Bool.not_not, and_self, Bool.and_eq_false_iff, Int.cast_ofNat_Int, Int.reduceAdd, Int.reduceSub, Int.reduceMul, Int.reduceEq, Int.reduceNe]) (fn115 (cutB u)) ⟨rfl, trivial⟩ trivial ?_
      simp only [go_sem, Nat.reduceEqDiff, Nat.reduceBEq, Nat.reduceAdd, Nat.reduceMul, Nat.reduceSub, Nat.reduceLeDiff, Nat.reduceLT, reduceIte, reduceCtorEq, Int.reduceToNat, Int.reduceLE, Int.reduceLT, Int.reduceNeg, Bool.not_not, and_self, Bool.and_eq_false_iff, Int.cast_ofNat_Int, Int.reduceAdd, Int.reduceSub, Int.reduceMul, Int.reduceEq, Int.reduceNe]
      refine ⟨fun h => ?_, fun h => ⟨fun hd => ?_, fun hd => ⟨⟨by omega, by omega⟩, ⟨i + 1, cutA u, []⟩, rfl, ⟨by simp only; omega, by simp only; omega, ?_⟩, by simp only; omega⟩⟩⟩
      · rw [← hq, h]; rfl
      · rw [← hq, h]; simp [hd]
      · simp only [hn2]
        rw [← hq, h]; simp [hd]
    · simp only [go_sem, Nat.reduceEqDiff, Nat.reduceBEq, Nat.reduceAdd, Nat.reduceMul, Nat.reduceSub, Nat.reduceLeDiff, Nat.reduceLT, reduceIte, reduceCtorEq, Int.reduceToNat, Int.reduceLE, Int.reduceLT, Int.reduceNeg, Bool.not_not, and_self, Bool.and_eq_false_iff, Int.cast_ofNat_Int, Int.reduceAdd, Int.reduceSub, Int.reduceMul, Int.reduceEq, Int.reduceNe, B114_0, R114_0, show ¬ (i : Int) < 8 by omega]
      rw [show 8 - i = 0 by omega] at hq
      simpa [allN] using hq
def topicB (s : ByteArray) : Bool := decide (s.size ≤ 40) && allN partB 8 s
theorem fn102 (s : ByteArray) : Fn Try.prog 102 [pS s] (.pv (pB (topicB s))) [] := by
  refine Run102 [] (by simp) ?_
  simp only [go_sem, Nat.reduceEqDiff, Nat.reduceBEq, Nat.reduceAdd, Nat.reduceMul, Nat.reduceSub, Nat.reduceLeDiff, Nat.reduceLT, reduceIte, reduceCtorEq, Int.reduceToNat, Int.reduceLE, Int.reduceLT, Int.reduceNeg, Bool.not_not, and_self, Bool.and_eq_false_iff, Int.cast_ofNat_Int, Int.reduceAdd, Int.reduceSub, Int.reduceMul, Int.reduceEq, Int.reduceNe, M102]
  refine runR_callf (by simp only [go_sem, Nat.reduceEqDiff, Nat.reduceBEq, Nat.reduceAdd, Nat.reduceMul, Nat.reduceSub, Nat.reduceLeDiff, Nat.reduceLT, reduceIte, reduceCtorEq, Int.reduceToNat, Int.reduceLE, Int.reduceLT, Int.reduceNeg, Bool.not_not, and_self, Bool.and_eq_false_iff, Int.cast_ofNat_Int, Int.reduceAdd, Int.reduceSub, Int.reduceMul, Int.reduceEq, Int.reduceNe]) (by simp only [go_sem, Nat.reduceEqDiff, Nat.reduceBEq, Nat.reduceAdd, Nat.reduceMul, Nat.reduceSub, Nat.reduceLeDiff, Nat.reduceLT, reduceIte, reduceCtorEq, Int.reduceToNat, Int.reduceLE, Int.reduceLT, Int.reduceNeg, Bool.not_not, and_self, Bool.and_eq_false_iff, Int.cast_ofNat_Int, Int.reduceAdd, Int.reduceSub, Int.reduceMul, Int.reduceEq, Int.reduceNe]) (fn114p s) ⟨rfl, trivial⟩ trivial ?_
  simp only [go_sem, Nat.reduceEqDiff, Nat.reduceBEq, Nat.reduceAdd, Nat.reduceMul, Nat.reduceSub, Nat.reduceLeDiff, Nat.reduceLT, reduceIte, reduceCtorEq, Int.reduceToNat, Int.reduceLE, Int.reduceLT, Int.reduceNeg, Bool.not_not, and_self, Bool.and_eq_false_iff, Int.cast_ofNat_Int, Int.reduceAdd, Int.reduceSub, Int.reduceMul, Int.reduceEq, Int.reduceNe]
  rfl
def fieldB (s : ByteArray) : Bool := decide (s.size ≤ 16) && !decide (0 ≤ dotAt s) && topicB s
theorem fn81 (s : ByteArray) : Fn Try.prog 81 [pS s] (.pv (pB (fieldB s))) [] := by
  refine Run81 [] (by simp) ?_
  simp only [go_sem, Nat.reduceEqDiff, Nat.reduceBEq, Nat.reduceAdd, Nat.reduceMul, Nat.reduceSub, Nat.reduceLeDiff, Nat.reduceLT, reduceIte, reduceCtorEq, Int.reduceToNat, Int.reduceLE, Int.reduceLT, Int.reduceNeg, Bool.not_not, and_self, Bool.and_eq_false_iff, Int.cast_ofNat_Int, Int.reduceAdd, Int.reduceSub, Int.reduceMul, Int.reduceEq, Int.reduceNe, M81]
  refine runR_callgf (by simp only [go_sem, Nat.reduceEqDiff, Nat.reduceBEq, Nat.reduceAdd, Nat.reduceMul, Nat.reduceSub, Nat.reduceLeDiff, Nat.reduceLT, reduceIte, reduceCtorEq, Int.reduceToNat, Int.reduceLE, Int.reduceLT, Int.reduceNeg, Bool.not_not, and_self, Bool.and_eq_false_iff, Int.cast_ofNat_Int, Int.reduceAdd, Int.reduceSub, Int.reduceMul, Int.reduceEq, Int.reduceNe]) (by simp only [go_sem, Nat.reduceEqDiff, Nat.reduceBEq, Nat.reduceAdd, Nat.reduceMul, Nat.reduceSub, Nat.reduceLeDiff, Nat.reduceLT, reduceIte, reduceCtorEq, Int.reduceToNat, Int.reduceLE, Int.reduceLT, Int.reduceNeg, Bool.not_not, and_self, Bool.and_eq_false_iff, Int.cast_ofNat_Int, Int.reduceAdd, Int.reduceSub, Int.reduceMul, Int.reduceEq, Int.reduceNe]) (by simp only [go_sem, Nat.reduceEqDiff, Nat.reduceBEq, Nat.reduceAdd, Nat.reduceMul, Nat.reduceSub, Nat.reduceLeDiff, Nat.reduceLT, reduceIte, reduceCtorEq, Int.reduceToNat, Int.reduceLE, Int.reduceLT, Int.reduceNeg, Bool.not_not, and_self, Bool.and_eq_false_iff, Int.cast_ofNat_Int, Int.reduceAdd, Int.reduceSub, Int.reduceMul, Int.reduceEq, Int.reduceNe]) (fun _ => fn101 s) rfl ?_
  simp only [go_sem, Nat.reduceEqDiff, Nat.reduceBEq, Nat.reduceAdd, Nat.reduceMul, Nat.reduceSub, Nat.reduceLeDiff, Nat.reduceLT, reduceIte, reduceCtorEq, Int.reduceToNat, Int.reduceLE, Int.reduceLT, Int.reduceNeg, Bool.not_not, and_self, Bool.and_eq_false_iff, Int.cast_ofNat_Int, Int.reduceAdd, Int.reduceSub, Int.reduceMul, Int.reduceEq, Int.reduceNe]
  refine runR_callgf (by simp only [go_sem, Nat.reduceEqDiff, Nat.reduceBEq, Nat.reduceAdd, Nat.reduceMul, Nat.reduceSub, Nat.reduceLeDiff, Nat.reduceLT, reduceIte, reduceCtorEq, Int.reduceToNat, Int.reduceLE, Int.reduceLT, Int.reduceNeg, Bool.not_not, and_self, Bool.and_eq_false_iff, Int.cast_ofNat_Int, Int.reduceAdd, Int.reduceSub, Int.reduceMul, Int.reduceEq, Int.reduceNe]) (by simp only [go_sem, Nat.reduceEqDiff, Nat.reduceBEq, Nat.reduceAdd, Nat.reduceMul, Nat.reduceSub, Nat.reduceLeDiff, Nat.reduceLT, reduceIte, reduceCtorEq, Int.reduceToNat, Int.reduceLE, Int.reduceLT, Int.reduceNeg, Bool.not_not, and_self, Bool.and_eq_false_iff, Int.cast_ofNat_Int, Int.reduceAdd, Int.reduceSub, Int.reduceMul, Int.reduceEq, Int.reduceNe]) (by simp only [go_sem, Nat.reduceEqDiff, Nat.reduceBEq, Nat.reduceAdd, Nat.reduceMul, Nat.reduceSub, Nat.reduceLeDiff, Nat.reduceLT, reduceIte, reduceCtorEq, Int.reduceToNat, Int.reduceLE, Int.reduceLT, Int.reduceNeg, Bool.not_not, and_self, Bool.and_eq_false_iff, Int.cast_ofNat_Int, Int.reduceAdd, Int.reduceSub, Int.reduceMul, Int.reduceEq, Int.reduceNe]) (fun _ => fn102 s) rfl ?_
  simp only [go_sem, Nat.reduceEqDiff, Nat.reduceBEq, Nat.reduceAdd, Nat.reduceMul, Nat.reduceSub, Nat.reduceLeDiff, Nat.reduceLT, reduceIte, reduceCtorEq, Int.reduceToNat, Int.reduceLE, Int.reduceLT, Int.reduceNeg, Bool.not_not, and_self, Bool.and_eq_false_iff, Int.cast_ofNat_Int, Int.reduceAdd, Int.reduceSub, Int.reduceMul, Int.reduceEq, Int.reduceNe]
  unfold fieldB
  have : decide ((s.size : Int) ≤ 16) = decide (s.size ≤ 16) := decide_eq_decide.2 (by omega)
  rw [this]
end Go.Vc
