/- A part of the proofs of the seat Ytcjhccdbgphboaa: the contracts of functions, each proved out of its code. -/
import Derived.Test.YtcjhccdbgphboaaJe
import Derived.Test.YtcjhccdbgphboaaProg
import Derived.Shelf.Small.Strs
namespace Go.Vc
open Go.Proofs
set_option maxRecDepth 100000

/-- 'trystlaw03.Few' -/
def M29 : MC := (.seq (.reg [⟨(some 1), none, (.box (.t 0))⟩, ⟨(some 2), none, (.alloc [(.pv (.sc (.bool false))), (.pv (.sc (.int .i64 0))), (.pv (.sc (.string ⟨#[]⟩)))])⟩] [] [1, 2] [1, 2])
  (.seq (.seq (.reg [⟨(some 3), none, (.q (.fa (.t 1) 2))⟩, ⟨(some 4), none, (.q (.ld (.t 3) 1 false))⟩, ⟨(some 5), none, (.q (.len (.t 4) true))⟩, ⟨(some 6), none, (.q (.bin .gtr (.t 5)
  (.c (.int .i64 70))))⟩] [] [1, 2, 6] [1, 2]) (.cond (.t 6) (.reg [⟨(some 7), none, (.q (.fa (.t 1) 2))⟩, ⟨(some 8), none, (.q (.ld (.t 7) 1 false))⟩, ⟨(some 9), none, (.q (.slc (.t 8)
  none (some (.c (.int .i64 70))) 0 true))⟩, ⟨(some 10), none, (.q (.fa (.t 1) 2))⟩, ⟨none, none, (.st (.t 10) (.t 9) 1)⟩] [] [1, 2] [1, 2]) .skip)) (.seq (.reg [⟨(some 11), none, (.q (.ld (.t 1)
  3 true))⟩, ⟨none, none, (.st (.t 2) (.t 11) 3)⟩] [] [2] [2]) .ret)))
theorem mc29 : ofCode Try.prog [] Try.f29.ntmps [(0, ⟨[1, 2], [1, 2], [], 0, [], none⟩),
    (1, ⟨[1, 2, 6], [1, 2], [], 0, [], none⟩),
    (2, ⟨[1, 2], [1, 2], [], 0, [], none⟩),
    (3, ⟨[2], [2], [], 0, [], none⟩)] (Try.f29.body.getD .skip) = some M29 := by kernel_rfl
theorem Run29 {args : List PV} {v : AV} {rs : List (Nat × List PV)} (ids : List Bool) (h : args.length ≤ 12) (hv : run Try.prog (retK [RV.cell 2 3 true] ids v rs) M29 [] ⟨entry 0 args, []⟩) : Fn Try.prog 29 args v rs :=
  Fn_run ids (by kernel_rfl) Try.func29 (by decide) rfl mc29 (by kernel_rfl) (by rw [Try.ntmps29]; exact h) (by rw [Try.ntmps29]; decide) hv

/-- 'trystref03.May' -/
def M31 : MC := (.seq (.reg [⟨(some 1), none, (.box (.t 0))⟩, ⟨(some 2), none, (.q (.mv (.c (.bool false))))⟩] [] [1] [1]) (.seq (.reg [⟨(some 3), none, (.q (.fa (.t 1) 0))⟩, ⟨(some 4), none,
  (.q (.ld (.t 3) 1 false))⟩, ⟨(some 5), none, (.q (.mv (.t 4)))⟩, ⟨(some 6), (some (5, true)), (.q (.fa (.t 1) 2))⟩, ⟨(some 7), (some (5, true)), (.q (.ld (.t 6) 1 false))⟩, ⟨(some 8), (some (5,
  true)), (.q (.bin .eql (.t 7) (.c (.string ⟨#[]⟩))))⟩, ⟨(some 9), none, (.q (.pick (.t 5) (.t 8) (.c (.bool false))))⟩, ⟨(some 10), none, (.q (.mv (.t 9)))⟩, ⟨(some 11), (some (10, false)),
  (.q (.fa (.t 1) 0))⟩, ⟨(some 12), (some (10, false)), (.q (.ld (.t 11) 1 false))⟩, ⟨(some 13), (some (10, false)), (.q (.not (.t 12)))⟩, ⟨(some 14), (some (10, false)), (.q (.mv (.t 13)))⟩,
  ⟨(some 15), (some (14, true)), (.q (.fa (.t 1) 1))⟩, ⟨(some 16), (some (14, true)), (.q (.ld (.t 15) 1 false))⟩, ⟨(some 17), (some (14, true)), (.q (.bin .eql (.t 16) (.c (.int .i64 0))))⟩,
  ⟨(some 18), (some (10, false)), (.q (.pick (.t 14) (.t 17) (.c (.bool false))))⟩, ⟨(some 19), (some (10, false)), (.q (.mv (.t 18)))⟩, ⟨(some 20), (some (19, true)), (.q (.fa (.t 1) 2))⟩,
  ⟨(some 21), (some (19, true)), (.q (.ld (.t 20) 1 false))⟩, ⟨(some 22), (some (19, true)), (.q (.len (.t 21) true))⟩, ⟨(some 23), (some (19, true)), (.q (.bin .leq (.t 22) (.c (.int .i64 60))))⟩,
  ⟨(some 24), (some (10, false)), (.q (.pick (.t 19) (.t 23) (.c (.bool false))))⟩, ⟨(some 25), none, (.q (.pick (.t 10) (.c (.bool true)) (.t 24)))⟩, ⟨(some 2), none, (.q (.mv (.t 25)))⟩] [] [2] [])
  .ret))
theorem mc31 : ofCode Try.prog [] Try.f31.ntmps [(0, ⟨[1], [1], [], 0, [], none⟩),
    (1, ⟨[2], [], [], 0, [], none⟩)] (Try.f31.body.getD .skip) = some M31 := by kernel_rfl
theorem Run31 {args : List PV} {v : AV} {rs : List (Nat × List PV)} (ids : List Bool) (h : args.length ≤ 26) (hv : run Try.prog (retK [RV.tmp 2] ids v rs) M31 [] ⟨entry 0 args, []⟩) : Fn Try.prog 31 args v rs :=
  Fn_run ids (by kernel_rfl) Try.func31 (by decide) rfl mc31 (by kernel_rfl) (by rw [Try.ntmps31]; exact h) (by rw [Try.ntmps31]; decide) hv

/-- 'val.May' -/
def M52 : MC := (.seq (.reg [⟨(some 1), none, (.box (.t 0))⟩, ⟨(some 2), none, (.q (.mv (.c (.bool false))))⟩] [] [1] [1]) (.seq (.seq (.reg [⟨(some 3), none, (.q (.fa (.t 1) 0))⟩, ⟨(some 4), none,
  (.q (.ld (.t 3) 1 false))⟩] [] [1, 4] [1]) (.cond (.t 4) (.seq (.reg [⟨(some 5), none, (.q (.fa (.t 1) 2))⟩, ⟨(some 6), none, (.q (.ld (.t 5) 1 false))⟩, ⟨(some 7), none, (.q (.bin .eql (.t 6)
  (.c (.string ⟨#[]⟩))))⟩, ⟨(some 2), none, (.q (.mv (.t 7)))⟩] [] [2] []) .ret) .skip)) (.seq (.reg [⟨(some 8), none, (.q (.fa (.t 1) 1))⟩, ⟨(some 9), none, (.q (.ld (.t 8) 1 false))⟩, ⟨(some 10),
  none, (.q (.bin .eql (.t 9) (.c (.int .i64 0))))⟩, ⟨(some 11), none, (.q (.mv (.t 10)))⟩, ⟨(some 12), (some (11, true)), (.q (.fa (.t 1) 2))⟩, ⟨(some 13), (some (11, true)), (.q (.ld (.t 12)
  1 false))⟩, ⟨(some 14), (some (11, true)), (.q (.len (.t 13) true))⟩, ⟨(some 15), (some (11, true)), (.q (.bin .leq (.t 14) (.c (.int .i64 60))))⟩, ⟨(some 16), none, (.q (.pick (.t 11) (.t 15)
  (.c (.bool false))))⟩, ⟨(some 2), none, (.q (.mv (.t 16)))⟩] [] [2] []) .ret)))
theorem mc52 : ofCode Try.prog [] Try.f52.ntmps [(0, ⟨[1], [1], [], 0, [], none⟩),
    (1, ⟨[1, 4], [1], [], 0, [], none⟩),
    (2, ⟨[2], [], [], 0, [], none⟩),
    (3, ⟨[2], [], [], 0, [], none⟩)] (Try.f52.body.getD .skip) = some M52 := by kernel_rfl
theorem Run52 {args : List PV} {v : AV} {rs : List (Nat × List PV)} (ids : List Bool) (h : args.length ≤ 17) (hv : run Try.prog (retK [RV.tmp 2] ids v rs) M52 [] ⟨entry 0 args, []⟩) : Fn Try.prog 52 args v rs :=
  Fn_run ids (by kernel_rfl) Try.func52 (by decide) rfl mc52 (by kernel_rfl) (by rw [Try.ntmps52]; exact h) (by rw [Try.ntmps52]; decide) hv

/-- 'cmp.Compare[int64]' -/
def M68 : MC := (.seq (.reg [⟨(some 4), none, (.q (.mv (.c (.int .i64 0))))⟩] [] [0, 1] []) (.seq (.reg [⟨(some 7), none, (.q (.mv (.t 0)))⟩, ⟨(some 8), none, (.call (.f 71) [(.t 7)])⟩, ⟨(some 5),
  none, (.q (.mv (.t 8)))⟩] [] [0, 1, 5] [1008]) (.seq (.reg [⟨(some 9), none, (.q (.mv (.t 1)))⟩, ⟨(some 10), none, (.call (.f 71) [(.t 9)])⟩, ⟨(some 6), none, (.q (.mv (.t 10)))⟩] [] [0, 1, 5,
  6] [1008, 1010]) (.seq (.seq (.reg [⟨(some 11), none, (.q (.mv (.t 5)))⟩] [] [0, 1, 6, 11] [1008, 1010]) (.cond (.t 11) (.seq (.seq (.reg [⟨(some 12), none, (.q (.mv (.t 6)))⟩] [] [12] [1010])
  (.cond (.t 12) (.seq (.reg [⟨(some 4), none, (.q (.mv (.c (.int .i64 0))))⟩] [] [4] []) .ret) .skip)) (.seq (.reg [⟨(some 4), none, (.q (.mv (.c (.int .i64 (-1)))))⟩] [] [4] []) .ret)) .skip))
  (.seq (.seq (.reg [⟨(some 13), none, (.q (.mv (.t 6)))⟩] [] [0, 1, 13] [1010]) (.cond (.t 13) (.seq (.reg [⟨(some 4), none, (.q (.mv (.c (.int .i64 1))))⟩] [] [4] []) .ret) .skip))
  (.seq (.seq (.reg [⟨(some 14), none, (.q (.mv (.t 0)))⟩, ⟨(some 15), none, (.q (.mv (.t 1)))⟩, ⟨(some 16), none, (.q (.bin .lss (.t 14) (.t 15)))⟩] [] [0, 1, 16] []) (.cond (.t 16)
  (.seq (.reg [⟨(some 4), none, (.q (.mv (.c (.int .i64 (-1)))))⟩] [] [4] []) .ret) .skip)) (.seq (.seq (.reg [⟨(some 17), none, (.q (.mv (.t 0)))⟩, ⟨(some 18), none, (.q (.mv (.t 1)))⟩, ⟨(some 19),
  none, (.q (.bin .gtr (.t 17) (.t 18)))⟩] [] [19] []) (.cond (.t 19) (.seq (.reg [⟨(some 4), none, (.q (.mv (.c (.int .i64 1))))⟩] [] [4] []) .ret) .skip)) (.seq (.reg [⟨(some 4), none,
  (.q (.mv (.c (.int .i64 0))))⟩] [] [4] []) .ret))))))))
theorem mc68 : ofCode Try.prog [] Try.f68.ntmps [(0, ⟨[0, 1], [], [], 0, [], none⟩),
    (1, ⟨[0, 1, 5], [1008], [], 0, [], none⟩),
    (2, ⟨[0, 1, 5, 6], [1008, 1010], [], 0, [], none⟩),
    (3, ⟨[0, 1, 6, 11], [1008, 1010], [], 0, [], none⟩),
    (4, ⟨[12], [1010], [], 0, [], none⟩),
    (5, ⟨[4], [], [], 0, [], none⟩),
    (6, ⟨[4], [], [], 0, [], none⟩),
    (7, ⟨[0, 1, 13], [1010], [], 0, [], none⟩),
    (8, ⟨[4], [], [], 0, [], none⟩),
    (9, ⟨[0, 1, 16], [], [], 0, [], none⟩),
    (10, ⟨[4], [], [], 0, [], none⟩),
    (11, ⟨[19], [], [], 0, [], none⟩),
    (12, ⟨[4], [], [], 0, [], none⟩),
    (13, ⟨[4], [], [], 0, [], none⟩)] (Try.f68.body.getD .skip) = some M68 := by kernel_rfl
theorem Run68 {args : List PV} {v : AV} {rs : List (Nat × List PV)} (ids : List Bool) (h : args.length ≤ 20) (hv : run Try.prog (retK [RV.tmp 4] ids v rs) M68 [] ⟨entry 0 args, []⟩) : Fn Try.prog 68 args v rs :=
  Fn_run ids (by kernel_rfl) Try.func68 (by decide) rfl mc68 (by kernel_rfl) (by rw [Try.ntmps68]; exact h) (by rw [Try.ntmps68]; decide) hv

/-- 'strings.Compare' -/
def M69 : MC := (.seq (.reg [⟨(some 4), none, (.q (.mv (.c (.int .i64 0))))⟩] [] [0, 1] []) (.seq (.reg [⟨(some 5), none, (.q (.mv (.t 0)))⟩, ⟨(some 6), none, (.q (.mv (.t 1)))⟩, ⟨(some 7), none,
  (.call (.f 72) [(.t 5), (.t 6)])⟩, ⟨(some 4), none, (.q (.mv (.t 7)))⟩] [] [4] [1007]) .ret))
theorem mc69 : ofCode Try.prog [] Try.f69.ntmps [(0, ⟨[0, 1], [], [], 0, [], none⟩),
    (1, ⟨[4], [1007], [], 0, [], none⟩)] (Try.f69.body.getD .skip) = some M69 := by kernel_rfl
theorem Run69 {args : List PV} {v : AV} {rs : List (Nat × List PV)} (ids : List Bool) (h : args.length ≤ 8) (hv : run Try.prog (retK [RV.tmp 4] ids v rs) M69 [] ⟨entry 0 args, []⟩) : Fn Try.prog 69 args v rs :=
  Fn_run ids (by kernel_rfl) Try.func69 (by decide) rfl mc69 (by kernel_rfl) (by rw [Try.ntmps69]; exact h) (by rw [Try.ntmps69]; decide) hv

/-- 'cmp.isNaN[int64]' -/
def M71 : MC := (.seq (.reg [⟨(some 2), none, (.q (.mv (.c (.bool false))))⟩] [] [0] []) (.seq (.reg [⟨(some 3), none, (.q (.mv (.t 0)))⟩, ⟨(some 4), none, (.q (.mv (.t 0)))⟩, ⟨(some 5), none,
  (.q (.bin .neq (.t 3) (.t 4)))⟩, ⟨(some 2), none, (.q (.mv (.t 5)))⟩] [] [2] []) .ret))
theorem mc71 : ofCode Try.prog [] Try.f71.ntmps [(0, ⟨[0], [], [], 0, [], none⟩),
    (1, ⟨[2], [], [], 0, [], none⟩)] (Try.f71.body.getD .skip) = some M71 := by kernel_rfl
theorem Run71 {args : List PV} {v : AV} {rs : List (Nat × List PV)} (ids : List Bool) (h : args.length ≤ 6) (hv : run Try.prog (retK [RV.tmp 2] ids v rs) M71 [] ⟨entry 0 args, []⟩) : Fn Try.prog 71 args v rs :=
  Fn_run ids (by kernel_rfl) Try.func71 (by decide) rfl mc71 (by kernel_rfl) (by rw [Try.ntmps71]; exact h) (by rw [Try.ntmps71]; decide) hv

/-- 'trystref03.Order' -/
def M55 : MC := (.seq (.reg [⟨(some 2), none, (.box (.t 0))⟩, ⟨(some 3), none, (.box (.t 1))⟩, ⟨(some 4), none, (.q (.mv (.c (.int .i64 0))))⟩] [] [2, 3] [2, 3]) (.seq (.seq (.reg [⟨(some 5), none,
  (.q (.fa (.t 2) 0))⟩, ⟨(some 6), none, (.q (.ld (.t 5) 1 false))⟩, ⟨(some 7), none, (.q (.fa (.t 3) 0))⟩, ⟨(some 8), none, (.q (.ld (.t 7) 1 false))⟩, ⟨(some 9), none, (.q (.beq true (.t 6)
  (.t 8)))⟩] [] [2, 3, 9] [2, 3]) (.cond (.t 9) (.seq (.seq (.reg [⟨(some 10), none, (.q (.fa (.t 2) 0))⟩, ⟨(some 11), none, (.q (.ld (.t 10) 1 false))⟩] [] [11] []) (.cond (.t 11)
  (.seq (.reg [⟨(some 4), none, (.q (.mv (.c (.int .i64 (-1)))))⟩] [] [4] []) .ret) .skip)) (.seq (.reg [⟨(some 4), none, (.q (.mv (.c (.int .i64 1))))⟩] [] [4] []) .ret)) .skip))
  (.seq (.seq (.reg [⟨(some 12), none, (.q (.fa (.t 2) 0))⟩, ⟨(some 13), none, (.q (.ld (.t 12) 1 false))⟩, ⟨(some 14), none, (.q (.mv (.t 13)))⟩, ⟨(some 15), (some (14, true)), (.q (.fa (.t 2) 1))⟩,
  ⟨(some 16), (some (14, true)), (.q (.ld (.t 15) 1 false))⟩, ⟨(some 17), (some (14, true)), (.q (.fa (.t 3) 1))⟩, ⟨(some 18), (some (14, true)), (.q (.ld (.t 17) 1 false))⟩, ⟨(some 19), (some (14,
  true)), (.q (.bin .lss (.t 16) (.t 18)))⟩, ⟨(some 20), none, (.q (.pick (.t 14) (.t 19) (.c (.bool false))))⟩, ⟨(some 21), none, (.q (.mv (.t 20)))⟩, ⟨(some 22), (some (21, false)), (.q (.fa (.t 2)
  0))⟩, ⟨(some 23), (some (21, false)), (.q (.ld (.t 22) 1 false))⟩, ⟨(some 24), (some (21, false)), (.q (.not (.t 23)))⟩, ⟨(some 25), (some (21, false)), (.q (.mv (.t 24)))⟩, ⟨(some 26), (some (25,
  true)), (.q (.fa (.t 2) 2))⟩, ⟨(some 27), (some (25, true)), (.q (.ld (.t 26) 1 false))⟩, ⟨(some 28), (some (25, true)), (.q (.fa (.t 3) 2))⟩, ⟨(some 29), (some (25, true)), (.q (.ld (.t 28)
  1 false))⟩, ⟨(some 30), (some (25, true)), (.q (.bin .lss (.t 27) (.t 29)))⟩, ⟨(some 31), (some (21, false)), (.q (.pick (.t 25) (.t 30) (.c (.bool false))))⟩, ⟨(some 32), none, (.q (.pick (.t 21)
  (.c (.bool true)) (.t 31)))⟩] [] [2, 3, 32] [2, 3]) (.cond (.t 32) (.seq (.reg [⟨(some 4), none, (.q (.mv (.c (.int .i64 (-1)))))⟩] [] [4] []) .ret) .skip)) (.seq (.seq (.reg [⟨(some 33), none,
  (.q (.fa (.t 2) 0))⟩, ⟨(some 34), none, (.q (.ld (.t 33) 1 false))⟩, ⟨(some 35), none, (.q (.mv (.t 34)))⟩, ⟨(some 36), (some (35, true)), (.q (.fa (.t 2) 1))⟩, ⟨(some 37), (some (35, true)),
  (.q (.ld (.t 36) 1 false))⟩, ⟨(some 38), (some (35, true)), (.q (.fa (.t 3) 1))⟩, ⟨(some 39), (some (35, true)), (.q (.ld (.t 38) 1 false))⟩, ⟨(some 40), (some (35, true)), (.q (.bin .gtr (.t 37)
  (.t 39)))⟩, ⟨(some 41), none, (.q (.pick (.t 35) (.t 40) (.c (.bool false))))⟩, ⟨(some 42), none, (.q (.mv (.t 41)))⟩, ⟨(some 43), (some (42, false)), (.q (.fa (.t 2) 0))⟩, ⟨(some 44), (some (42,
  false)), (.q (.ld (.t 43) 1 false))⟩, ⟨(some 45), (some (42, false)), (.q (.not (.t 44)))⟩, ⟨(some 46), (some (42, false)), (.q (.mv (.t 45)))⟩, ⟨(some 47), (some (46, true)), (.q (.fa (.t 2) 2))⟩,
  ⟨(some 48), (some (46, true)), (.q (.ld (.t 47) 1 false))⟩, ⟨(some 49), (some (46, true)), (.q (.fa (.t 3) 2))⟩, ⟨(some 50), (some (46, true)), (.q (.ld (.t 49) 1 false))⟩, ⟨(some 51), (some (46,
  true)), (.q (.bin .gtr (.t 48) (.t 50)))⟩, ⟨(some 52), (some (42, false)), (.q (.pick (.t 46) (.t 51) (.c (.bool false))))⟩, ⟨(some 53), none, (.q (.pick (.t 42) (.c (.bool true))
  (.t 52)))⟩] [] [53] []) (.cond (.t 53) (.seq (.reg [⟨(some 4), none, (.q (.mv (.c (.int .i64 1))))⟩] [] [4] []) .ret) .skip)) (.seq (.reg [⟨(some 4), none, (.q (.mv (.c (.int .i64 0))))⟩] [] [4] [])
  .ret)))))
theorem mc55 : ofCode Try.prog [] Try.f55.ntmps [(0, ⟨[2, 3], [2, 3], [], 0, [], none⟩),
    (1, ⟨[2, 3, 9], [2, 3], [], 0, [], none⟩),
    (2, ⟨[11], [], [], 0, [], none⟩),
    (3, ⟨[4], [], [], 0, [], none⟩),
    (4, ⟨[4], [], [], 0, [], none⟩),
    (5, ⟨[2, 3, 32], [2, 3], [], 0, [], none⟩),
    (6, ⟨[4], [], [], 0, [], none⟩),
    (7, ⟨[53], [], [], 0, [], none⟩),
    (8, ⟨[4], [], [], 0, [], none⟩),
    (9, ⟨[4], [], [], 0, [], none⟩)] (Try.f55.body.getD .skip) = some M55 := by kernel_rfl
theorem Run55 {args : List PV} {v : AV} {rs : List (Nat × List PV)} (ids : List Bool) (h : args.length ≤ 54) (hv : run Try.prog (retK [RV.tmp 4] ids v rs) M55 [] ⟨entry 0 args, []⟩) : Fn Try.prog 55 args v rs :=
  Fn_run ids (by kernel_rfl) Try.func55 (by decide) rfl mc55 (by kernel_rfl) (by rw [Try.ntmps55]; exact h) (by rw [Try.ntmps55]; decide) hv

/-- 'val.Order' -/
def M56 : MC := (.seq (.reg [⟨(some 2), none, (.box (.t 0))⟩, ⟨(some 3), none, (.box (.t 1))⟩, ⟨(some 4), none, (.q (.mv (.c (.int .i64 0))))⟩] [] [2, 3] [2, 3])
  (.seq (.block 0 (.seq (.reg [⟨(some 6), none, (.q (.fa (.t 2) 0))⟩, ⟨(some 7), none, (.q (.ld (.t 6) 1 false))⟩, ⟨(some 8), none, (.q (.mv (.t 7)))⟩, ⟨(some 9), (some (8, true)), (.q (.fa (.t 3)
  0))⟩, ⟨(some 10), (some (8, true)), (.q (.ld (.t 9) 1 false))⟩, ⟨(some 11), none, (.q (.pick (.t 8) (.t 10) (.c (.bool false))))⟩, ⟨(some 5), none, (.q (.mv (.t 11)))⟩] [] [2, 3, 5] [2, 3])
  (.cond (.t 5) (.seq (.reg [⟨(some 12), none, (.q (.fa (.t 2) 1))⟩, ⟨(some 13), none, (.q (.ld (.t 12) 1 false))⟩, ⟨(some 14), none, (.q (.fa (.t 3) 1))⟩, ⟨(some 15), none, (.q (.ld (.t 14)
  1 false))⟩, ⟨(some 16), none, (.call (.f 68) [(.t 13), (.t 15)])⟩, ⟨(some 4), none, (.q (.mv (.t 16)))⟩] [] [4] [1016, 1027]) .ret) (.seq (.reg [⟨(some 18), none, (.q (.fa (.t 2) 0))⟩, ⟨(some 19),
  none, (.q (.ld (.t 18) 1 false))⟩, ⟨(some 17), none, (.q (.mv (.t 19)))⟩] [] [2, 3, 17] [2, 3]) (.cond (.t 17) (.seq (.reg [⟨(some 4), none, (.q (.mv (.c (.int .i64 (-1)))))⟩] [] [4] [1016, 1027])
  .ret) (.seq (.reg [⟨(some 21), none, (.q (.fa (.t 3) 0))⟩, ⟨(some 22), none, (.q (.ld (.t 21) 1 false))⟩, ⟨(some 20), none, (.q (.mv (.t 22)))⟩] [] [2, 3, 20] [2, 3]) (.cond (.t 20)
  (.seq (.reg [⟨(some 4), none, (.q (.mv (.c (.int .i64 1))))⟩] [] [4] [1016, 1027]) .ret) .skip))))))) (.seq (.reg [⟨(some 23), none, (.q (.fa (.t 2) 2))⟩, ⟨(some 24), none, (.q (.ld (.t 23)
  1 false))⟩, ⟨(some 25), none, (.q (.fa (.t 3) 2))⟩, ⟨(some 26), none, (.q (.ld (.t 25) 1 false))⟩, ⟨(some 27), none, (.call (.f 69) [(.t 24), (.t 26)])⟩, ⟨(some 4), none,
  (.q (.mv (.t 27)))⟩] [] [4] [1016, 1027]) .ret)))
theorem mc56 : ofCode Try.prog [] Try.f56.ntmps [(0, ⟨[2, 3], [2, 3], [], 0, [], none⟩),
    (1, ⟨[2, 3, 5], [2, 3], [], 0, [], none⟩),
    (2, ⟨[4], [1016, 1027], [], 0, [], none⟩),
    (3, ⟨[2, 3, 17], [2, 3], [], 0, [], none⟩),
    (4, ⟨[4], [1016, 1027], [], 0, [], none⟩),
    (5, ⟨[2, 3, 20], [2, 3], [], 0, [], none⟩),
    (6, ⟨[4], [1016, 1027], [], 0, [], none⟩),
    (7, ⟨[4], [1016, 1027], [], 0, [], none⟩)] (Try.f56.body.getD .skip) = some M56 := by kernel_rfl
theorem Run56 {args : List PV} {v : AV} {rs : List (Nat × List PV)} (ids : List Bool) (h : args.length ≤ 28) (hv : run Try.prog (retK [RV.tmp 4] ids v rs) M56 [] ⟨entry 0 args, []⟩) : Fn Try.prog 56 args v rs :=
  Fn_run ids (by kernel_rfl) Try.func56 (by decide) rfl mc56 (by kernel_rfl) (by rw [Try.ntmps56]; exact h) (by rw [Try.ntmps56]; decide) hv

/-- 'api.Inst]' -/
def B57_0 : MC := (.seq (.reg [⟨(some 9), none, (.q (.bin .lss (.t 8) (.t 7)))⟩] [] [0, 1, 7, 8, 9] []) (.seq (.cond (.t 9) .skip (.exit 0)) (.seq (.block 1 (.seq (.reg [⟨(some 10), none,
  (.q (.mv (.t 8)))⟩, ⟨(some 5), none, (.q (.mv (.t 10)))⟩] [] [0, 1, 5, 7, 8] []) (.seq (.reg [⟨(some 11), none, (.q (.mv (.t 1)))⟩, ⟨(some 12), none, (.q (.mv (.t 0)))⟩, ⟨(some 13), none,
  (.q (.mv (.t 5)))⟩, ⟨(some 14), none, (.q (.ia (.t 12) (.t 13) 4))⟩, ⟨(some 15), none, (.q (.ld (.t 14) 4 true))⟩, ⟨(some 16), none, (.call (.t 11) [(.t 15)])⟩] [] [0, 1, 5, 7, 8, 16] [1016])
  (.cond (.t 16) (.seq (.reg [⟨(some 17), none, (.q (.mv (.t 5)))⟩, ⟨(some 4), none, (.q (.mv (.t 17)))⟩] [] [4] []) .ret) .skip)))) (.reg [⟨(some 18), none, (.q (.bin .add (.t 8)
  (.c (.int .i64 1))))⟩, ⟨(some 8), none, (.q (.mv (.t 18)))⟩] [] [0, 1, 7, 8] []))))
def R57_0 : MC := (.seq (.reg [⟨(some 4), none, (.q (.mv (.c (.int .i64 (-1)))))⟩] [] [4] []) .ret)
def M57 : MC := (.seq (.reg [⟨(some 4), none, (.q (.mv (.c (.int .i64 0))))⟩] [] [0, 1] []) (.seq (.seq (.reg [⟨(some 6), none, (.q (.mv (.t 0)))⟩, ⟨(some 7), none, (.q (.len (.t 6) false))⟩,
  ⟨(some 8), none, (.q (.mv (.c (.int .i64 0))))⟩] [] [0, 1, 7, 8] []) (.block 0 (.loop B57_0))) R57_0))
theorem mc57 : ofCode Try.prog [] Try.f57.ntmps [(0, ⟨[0, 1], [], [], 0, [], none⟩),
    (1, ⟨[0, 1, 7, 8], [], [], 0, [], none⟩),
    (2, ⟨[0, 1, 7, 8, 9], [], [], 0, [], none⟩),
    (3, ⟨[0, 1, 5, 7, 8], [], [], 0, [], none⟩),
    (4, ⟨[0, 1, 5, 7, 8, 16], [1016], [], 0, [], none⟩),
    (5, ⟨[4], [], [], 0, [], none⟩),
    (6, ⟨[0, 1, 7, 8], [], [], 0, [], none⟩),
    (7, ⟨[4], [], [], 0, [], none⟩)] (Try.f57.body.getD .skip) = some M57 := by kernel_rfl
theorem Run57 {args : List PV} {v : AV} {rs : List (Nat × List PV)} (ids : List Bool) (h : args.length ≤ 19) (hv : run Try.prog (retK [RV.tmp 4] ids v rs) M57 [] ⟨entry 0 args, []⟩) : Fn Try.prog 57 args v rs :=
  Fn_run ids (by kernel_rfl) Try.func57 (by decide) rfl mc57 (by kernel_rfl) (by rw [Try.ntmps57]; exact h) (by rw [Try.ntmps57]; decide) hv

/-- 'inst.Find.1' -/
def M58 : MC := (.seq (.reg [⟨(some 2), none, (.box (.t 0))⟩, ⟨(some 3), none, (.q (.mv (.c (.bool false))))⟩] [] [1, 2] [2]) (.seq (.reg [⟨(some 4), none, (.q (.fa (.t 2) 0))⟩, ⟨(some 5), none,
  (.q (.ld (.t 4) 3 true))⟩, ⟨(some 6), none, (.q (.ld (.t 1) 3 true))⟩, ⟨(some 7), none, (.q (.seq false [2, 0, 1] (.t 5) (.t 6)))⟩, ⟨(some 3), none, (.q (.mv (.t 7)))⟩] [] [3] []) .ret))
theorem mc58 : ofCode Try.prog [] Try.f58.ntmps [(0, ⟨[1, 2], [2], [], 0, [], none⟩),
    (1, ⟨[3], [], [], 0, [], none⟩)] (Try.f58.body.getD .skip) = some M58 := by kernel_rfl
theorem Run58 {args : List PV} {v : AV} {rs : List (Nat × List PV)} (ids : List Bool) (h : args.length ≤ 8) (hv : run Try.prog (retK [RV.tmp 3] ids v rs) M58 [] ⟨entry 0 args, []⟩) : Fn Try.prog 58 args v rs :=
  Fn_run ids (by kernel_rfl) Try.func58 (by decide) rfl mc58 (by kernel_rfl) (by rw [Try.ntmps58]; exact h) (by rw [Try.ntmps58]; decide) hv

/-- 'inst.Find' -/
def M39 : MC := (.seq (.reg [⟨(some 3), none, (.box (.t 1))⟩, ⟨(some 4), none, (.q (.mv (.c (.int .i64 0))))⟩] [] [0, 3] [3]) (.seq (.reg [⟨(some 5), none, (.q (.mv (.t 0)))⟩, ⟨(some 6), none,
  (.q (.clo 58 [(.t 3)]))⟩, ⟨(some 7), none, (.call (.f 57) [(.t 5), (.t 6)])⟩, ⟨(some 4), none, (.q (.mv (.t 7)))⟩] [] [4] [1007]) .ret))
theorem mc39 : ofCode Try.prog [] Try.f39.ntmps [(0, ⟨[0, 3], [3], [], 0, [], none⟩),
    (1, ⟨[4], [1007], [], 0, [], none⟩)] (Try.f39.body.getD .skip) = some M39 := by kernel_rfl
theorem Run39 {args : List PV} {v : AV} {rs : List (Nat × List PV)} (ids : List Bool) (h : args.length ≤ 8) (hv : run Try.prog (retK [RV.tmp 4] ids v rs) M39 [] ⟨entry 0 args, []⟩) : Fn Try.prog 39 args v rs :=
  Fn_run ids (by kernel_rfl) Try.func39 (by decide) rfl mc39 (by kernel_rfl) (by rw [Try.ntmps39]; exact h) (by rw [Try.ntmps39]; decide) hv

/-- 'trystref10.Find' -/
def B40_0 : MC := (.seq (.seq (.reg [⟨(some 6), none, (.q (.mv (.t 5)))⟩, ⟨(some 7), none, (.q (.mv (.t 0)))⟩, ⟨(some 8), none, (.q (.len (.t 7) false))⟩, ⟨(some 9), none, (.q (.bin .lss (.t 6)
  (.t 8)))⟩] [] [0, 3, 5, 9] [3]) (.cond (.t 9) .skip (.exit 0))) (.seq (.block 1 (.seq (.reg [⟨(some 12), none, (.q (.mv (.t 0)))⟩, ⟨(some 13), none, (.q (.mv (.t 5)))⟩, ⟨(some 14), none,
  (.q (.ia (.t 12) (.t 13) 4))⟩, ⟨(some 15), none, (.q (.fa (.t 14) 0))⟩, ⟨(some 16), none, (.q (.ld (.t 15) 3 true))⟩, ⟨(some 17), none, (.q (.ld (.t 3) 3 true))⟩, ⟨(some 18), none,
  (.q (.seq false [2, 0, 1] (.t 16) (.t 17)))⟩] [] [0, 3, 5, 18] [3]) (.cond (.t 18) (.seq (.reg [⟨(some 19), none, (.q (.mv (.t 5)))⟩, ⟨(some 4), none, (.q (.mv (.t 19)))⟩] [] [4] []) .ret) .skip)))
  (.reg [⟨(some 10), none, (.q (.mv (.t 5)))⟩, ⟨(some 11), none, (.q (.bin .add (.t 10) (.c (.int .i64 1))))⟩, ⟨(some 5), none, (.q (.mv (.t 11)))⟩] [] [0, 3, 5] [3])))
def R40_0 : MC := (.seq (.reg [⟨(some 4), none, (.q (.mv (.c (.int .i64 (-1)))))⟩] [] [4] []) .ret)
def M40 : MC := (.seq (.reg [⟨(some 3), none, (.box (.t 1))⟩, ⟨(some 4), none, (.q (.mv (.c (.int .i64 0))))⟩] [] [0, 3] [3]) (.seq (.seq (.reg [⟨(some 5), none, (.q (.mv (.c (.int .i64 0))))⟩] [] [0,
  3, 5] [3]) (.block 0 (.loop B40_0))) R40_0))
theorem mc40 : ofCode Try.prog [] Try.f40.ntmps [(0, ⟨[0, 3], [3], [], 0, [], none⟩),
    (1, ⟨[0, 3, 5], [3], [], 0, [], none⟩),
    (2, ⟨[0, 3, 5, 9], [3], [], 0, [], none⟩),
    (3, ⟨[0, 3, 5], [3], [], 0, [], none⟩),
    (4, ⟨[0, 3, 5, 18], [3], [(0, 93), (1, 94), (2, 92), (3, 88), (4, 80), (5, 96), (6, 64)], 127, [], none⟩),
    (5, ⟨[4], [], [], 0, [], none⟩),
    (6, ⟨[4], [], [], 0, [], none⟩)] (Try.f40.body.getD .skip) = some M40 := by kernel_rfl
theorem Run40 {args : List PV} {v : AV} {rs : List (Nat × List PV)} (ids : List Bool) (h : args.length ≤ 20) (hv : run Try.prog (retK [RV.tmp 4] ids v rs) M40 [] ⟨entry 0 args, []⟩) : Fn Try.prog 40 args v rs :=
  Fn_run ids (by kernel_rfl) Try.func40 (by decide) rfl mc40 (by kernel_rfl) (by rw [Try.ntmps40]; exact h) (by rw [Try.ntmps40]; decide) hv

/-- 'inst.Count' -/
def B41_0 : MC := (.seq (.reg [⟨(some 9), none, (.q (.bin .lss (.t 8) (.t 7)))⟩] [] [3, 6, 7, 8, 9] []) (.seq (.cond (.t 9) .skip (.exit 0)) (.seq (.block 1 (.seq (.reg [⟨(some 10), none,
  (.q (.ia (.t 6) (.t 8) 4))⟩, ⟨(some 11), none, (.q (.ld (.t 10) 4 true))⟩, ⟨(some 5), none, (.alloc [(.pv (.sc (.bool false))), (.pv (.sc (.int .i64 0))), (.pv (.sc (.string ⟨#[]⟩))), .e0])⟩, ⟨none,
  none, (.st (.t 5) (.t 11) 4)⟩] [] [3, 5, 6, 7, 8] [5]) (.reg [⟨(some 12), none, (.q (.mv (.t 3)))⟩, ⟨(some 13), none, (.q (.fa (.t 5) 3))⟩, ⟨(some 14), none, (.q (.ld (.t 13) 1 false))⟩, ⟨(some 15),
  none, (.q (.len (.t 14) false))⟩, ⟨(some 16), none, (.q (.bin .add (.t 12) (.t 15)))⟩, ⟨(some 3), none, (.q (.mv (.t 16)))⟩] [] [3, 6, 7, 8] []))) (.reg [⟨(some 17), none, (.q (.bin .add (.t 8)
  (.c (.int .i64 1))))⟩, ⟨(some 8), none, (.q (.mv (.t 17)))⟩] [] [3, 6, 7, 8] []))))
def R41_0 : MC := (.seq (.reg [⟨(some 18), none, (.q (.mv (.t 3)))⟩, ⟨(some 2), none, (.q (.mv (.t 18)))⟩] [] [2] []) .ret)
def M41 : MC := (.seq (.reg [⟨(some 2), none, (.q (.mv (.c (.int .i64 0))))⟩] [] [0] []) (.seq (.reg [⟨(some 3), none, (.q (.mv (.c (.int .i64 0))))⟩] [] [0, 3] []) (.seq (.seq (.reg [⟨(some 6), none,
  (.q (.mv (.t 0)))⟩, ⟨(some 7), none, (.q (.len (.t 6) false))⟩, ⟨(some 8), none, (.q (.mv (.c (.int .i64 0))))⟩] [] [3, 6, 7, 8] []) (.block 0 (.loop B41_0))) R41_0)))
theorem mc41 : ofCode Try.prog [] Try.f41.ntmps [(0, ⟨[0], [], [], 0, [], none⟩),
    (1, ⟨[0, 3], [], [], 0, [], none⟩),
    (2, ⟨[3, 6, 7, 8], [], [], 0, [], none⟩),
    (3, ⟨[3, 6, 7, 8, 9], [], [], 0, [], none⟩),
    (4, ⟨[3, 5, 6, 7, 8], [5], [], 0, [], none⟩),
    (5, ⟨[3, 6, 7, 8], [], [], 0, [], none⟩),
    (6, ⟨[3, 6, 7, 8], [], [], 0, [], none⟩),
    (7, ⟨[2], [], [], 0, [], none⟩)] (Try.f41.body.getD .skip) = some M41 := by kernel_rfl
theorem Run41 {args : List PV} {v : AV} {rs : List (Nat × List PV)} (ids : List Bool) (h : args.length ≤ 19) (hv : run Try.prog (retK [RV.tmp 2] ids v rs) M41 [] ⟨entry 0 args, []⟩) : Fn Try.prog 41 args v rs :=
  Fn_run ids (by kernel_rfl) Try.func41 (by decide) rfl mc41 (by kernel_rfl) (by rw [Try.ntmps41]; exact h) (by rw [Try.ntmps41]; decide) hv

/-- 'trystlaw10.num' -/
def M42 : MC := (.seq (.reg [⟨(some 2), none, (.alloc [(.pv (.sc (.bool false))), (.pv (.sc (.int .i64 0))), (.pv (.sc (.string ⟨#[]⟩)))])⟩] [] [0, 2] [2]) (.seq (.reg [⟨(some 3), none,
  (.q (.mv (.t 0)))⟩, ⟨(some 4), none, (.q (.mk [(.pv (.sc (.bool false))), (.pv (.sc (.int .i64 0))), (.pv (.sc (.string ⟨#[]⟩)))] [(0, 1, (.c (.bool true))), (1, 1, (.t 3))]))⟩, ⟨none, none,
  (.st (.t 2) (.t 4) 3)⟩] [] [2] [2]) .ret))
theorem mc42 : ofCode Try.prog [] Try.f42.ntmps [(0, ⟨[0, 2], [2], [], 0, [], none⟩),
    (1, ⟨[2], [2], [], 0, [], none⟩)] (Try.f42.body.getD .skip) = some M42 := by kernel_rfl
theorem Run42 {args : List PV} {v : AV} {rs : List (Nat × List PV)} (ids : List Bool) (h : args.length ≤ 5) (hv : run Try.prog (retK [RV.cell 2 3 true] ids v rs) M42 [] ⟨entry 0 args, []⟩) : Fn Try.prog 42 args v rs :=
  Fn_run ids (by kernel_rfl) Try.func42 (by decide) rfl mc42 (by kernel_rfl) (by rw [Try.ntmps42]; exact h) (by rw [Try.ntmps42]; decide) hv

end Go.Vc

namespace Go.Vc
open Go.Proofs Go.Shelf Go.RowKit
set_option linter.unusedSimpArgs false
set_option linter.unusedVariables false

/-! ## 'strings.Compare': out of the shelf -/
def renT : Ren := ⟨fun n => if n = 213 then 72 else if n = 265 then 73 else n, fun t => t, fun g => g⟩
theorem lays213 : Lays.n213 Try.prog renT where
  mixed := by kernel_rfl
  f213 := by kernel_rfl
  f265 := by kernel_rfl
  t3 := by kernel_rfl
  a3 := fun w => by kernel_rfl
  z3 := fun w => by kernel_rfl
  v3 := fun w => by kernel_rfl
  t9 := by kernel_rfl
  a9 := fun w => by kernel_rfl
  z9 := fun w => by kernel_rfl
  v9 := fun w => by kernel_rfl
def cmpB (a b : ByteArray) : Int := Lib.compareBytes a.data.toList b.data.toList
theorem fn72 (a b : ByteArray) : Fn Try.prog 72 [pS a, pS b] (.pv (pI (cmpB a b))) [] := by
  refine ⟨enters_of (fn := Try.f72) Try.func72 (by decide) rfl, fun w F vs hF hv => ?_⟩
  simp only [PRels, PRel] at hv
  obtain ⟨u, r, rfl, rfl, u', r', rfl, rfl, rfl⟩ := hv
  have := Any.bytealg_CompareString lays213 a b w
  refine this.mono fun en w' ⟨e1, e2⟩ => ?_
  subst e1; subst e2
  refine ⟨_, ⟨w', F, fun _ => default⟩, rfl, rfl, ⟨Below.refl _ _, by simp [VRel, PRel, cmpB], fun i s xs h => by simp at h, fun i j hi => by simp at hi, fun i hi => by simp at hi, fun b => by simp⟩⟩
end Go.Vc

namespace Go.Vc
open Go.Proofs
set_option linter.unusedSimpArgs false
set_option linter.unusedVariables false

/-! ## Keys, instances -/
structure Vl where
  num : Bool
  n : Int
  s : ByteArray
  deriving DecidableEq
abbrev Vl.pv (v : Vl) : PV := .agg [pB v.num, pI v.n, pS v.s]
def vfew (v : Vl) : Vl := { v with s := if 70 < v.s.size then v.s.extract 0 70 else v.s }
theorem fn29 (v : Vl) : Fn Try.prog 29 [v.pv] (.pv (vfew v).pv) [] := by
  refine Run29 [] (by simp) ?_
  simp only [go_sem, Nat.reduceEqDiff, Nat.reduceBEq, Nat.reduceAdd, Nat.reduceMul, Nat.reduceSub, Nat.reduceLeDiff, Nat.reduceLT, reduceIte, reduceCtorEq, Int.reduceToNat, Int.reduceLE, Int.reduceLT, Int.reduceNeg, Bool.not_not, and_self, Bool.and_eq_false_iff, Int.cast_ofNat_Int, Int.reduceAdd, Int.reduceSub, Int.reduceMul, Int.reduceEq, Int.reduceNe, M29]
  refine ⟨fun h => ⟨by omega, ?_⟩, fun h => ?_⟩
  · simp [vfew, show 70 < v.s.size by omega]
  · simp [vfew, show ¬ 70 < v.s.size by omega]
def mayV (v : Vl) : Bool := bif v.num then decide (v.s = ⟨#[]⟩) else decide (v.n = 0) && decide (v.s.size ≤ 60)
theorem fn31 (v : Vl) : Fn Try.prog 31 [v.pv] (.pv (pB (mayV v))) [] := by
  refine Run31 [] (by simp) ?_
  simp only [go_sem, Nat.reduceEqDiff, Nat.reduceBEq, Nat.reduceAdd, Nat.reduceMul, Nat.reduceSub, Nat.reduceLeDiff, Nat.reduceLT, reduceIte, reduceCtorEq, Int.reduceToNat, Int.reduceLE, Int.reduceLT, Int.reduceNeg, Bool.not_not, and_self, Bool.and_eq_false_iff, Int.cast_ofNat_Int, Int.reduceAdd, Int.reduceSub, Int.reduceMul, Int.reduceEq, Int.reduceNe, M31]
  have e1 : decide ((v.s.size : Int) ≤ 60) = decide (v.s.size ≤ 60) := decide_eq_decide.2 (by omega)
  rw [e1]
  unfold mayV
  cases v.num <;> by_cases h1 : v.s = ⟨#[]⟩ <;> by_cases h2 : v.n = 0 <;> simp [h1, h2]
theorem fn52 (v : Vl) : Fn Try.prog 52 [v.pv] (.pv (pB (mayV v))) [] := by
  refine Run52 [] (by simp) ?_
  simp only [go_sem, Nat.reduceEqDiff, Nat.reduceBEq, Nat.reduceAdd, Nat.reduceMul, Nat.reduceSub, Nat.reduceLeDiff, Nat.reduceLT, reduceIte, reduceCtorEq, Int.reduceToNat, Int.reduceLE, Int.reduceLT, Int.reduceNeg, Bool.not_not, and_self, Bool.and_eq_false_iff, Int.cast_ofNat_Int, Int.reduceAdd, Int.reduceSub, Int.reduceMul, Int.reduceEq, Int.reduceNe, M52]
  have e1 : decide ((v.s.size : Int) ≤ 60) = decide (v.s.size ≤ 60) := decide_eq_decide.2 (by omega)
  rw [e1]
  unfold mayV
  cases v.num <;> simp
theorem fn71 (n : Int) : Fn Try.prog 71 [pI n] (.pv (pB false)) [] := by
  refine Run71 [] (by simp) ?_
  simp only [go_sem, Nat.reduceEqDiff, Nat.reduceBEq, Nat.reduceAdd, Nat.reduceMul, Nat.reduceSub, Nat.reduceLeDiff, Nat.reduceLT, reduceIte, reduceCtorEq, Int.reduceToNat, Int.reduceLE, Int.reduceLT, Int.reduceNeg, Bool.not_not, and_self, Bool.and_eq_false_iff, Int.cast_ofNat_Int, Int.reduceAdd, Int.reduceSub, Int.reduceMul, Int.reduceEq, Int.reduceNe, M71]
def cmpI (a b : Int) : Int := if a < b then -1 else if b < a then 1 else 0
theorem fn68 (a b : Int) : Fn Try.prog 68 [pI a, pI b] (.pv (pI (cmpI a b))) [] := by
  refine Run68 [] (by simp) ?_
  simp only [go_sem, Nat.reduceEqDiff, Nat.reduceBEq, Nat.reduceAdd, Nat.reduceMul, Nat.reduceSub, Nat.reduceLeDiff, Nat.reduceLT, reduceIte, reduceCtorEq, Int.reduceToNat, Int.reduceLE, Int.reduceLT, Int.reduceNeg, Bool.not_not, and_self, Bool.and_eq_false_iff, Int.cast_ofNat_Int, Int.reduceAdd, Int.reduceSub, Int.reduceMul, Int.reduceEq, Int.reduceNe, M68]
  refine runR_callf (by simp only [go_sem, Nat.reduceEqDiff, Nat.reduceBEq, Nat.reduceAdd, Nat.reduceMul, Nat.reduceSub, Nat.reduceLeDiff, Nat.reduceLT, reduceIte, reduceCtorEq, Int.reduceToNat, Int.reduceLE, Int.reduceLT, Int.reduceNeg, Bool.not_not, and_self, Bool.and_eq_false_iff, Int.cast_ofNat_Int, Int.reduceAdd, Int.reduceSub, Int.reduceMul, Int.reduceEq, Int.reduceNe]) (by simp only [go_sem, Nat.reduceEqDiff, Nat.reduceBEq, Nat.reduceAdd, Nat.reduceMul, Nat.reduceSub, Nat.reduceLeDiff, Nat.reduceLT, reduceIte, reduceCtorEq, Int.reduceToNat, Int.reduceLE, Int.reduceLT, Int.reduceNeg, Bool.not_not, and_self, Bool.and_eq_false_iff, Int.cast_ofNat_Int, Int.reduceAdd, Int.reduceSub, Int.reduceMul, Int.reduceEq, Int.reduceNe]) (fn71 a) ⟨rfl, trivial⟩ trivial ?_
  simp only [go_sem, Nat.reduceEqDiff, Nat.reduceBEq, Nat.reduceAdd, Nat.reduceMul, Nat.reduceSub, Nat.reduceLeDiff, Nat.reduceLT, reduceIte, reduceCtorEq, Int.reduceToNat, Int.reduceLE, Int.reduceLT, Int.reduceNeg, Bool.not_not, and_self, Bool.and_eq_false_iff, Int.cast_ofNat_Int, Int.reduceAdd, Int.reduceSub, Int.reduceMul, Int.reduceEq, Int.reduceNe]
  refine runR_callf (by simp only [go_sem, Nat.reduceEqDiff, Nat.reduceBEq, Nat.reduceAdd, Nat.reduceMul, Nat.reduceSub, Nat.reduceLeDiff, Nat.reduceLT, reduceIte, reduceCtorEq, Int.reduceToNat, Int.reduceLE, Int.reduceLT, Int.reduceNeg, Bool.not_not, and_self, Bool.and_eq_false_iff, Int.cast_ofNat_Int, Int.reduceAdd, Int.reduceSub, Int.reduceMul, Int.reduceEq, Int.reduceNe]) (by simp only [go_sem, Nat.reduceEqDiff, Nat.reduceBEq, Nat.reduceAdd, Nat.reduceMul, Nat.reduceSub, Nat.reduceLeDiff, Nat.reduceLT, reduceIte, reduceCtorEq, Int.reduceToNat, Int.reduceLE, Int.reduceLT, Int.reduceNeg, Bool.not_not, and_self, Bool.and_eq_false_iff, Int.cast_ofNat_Int, Int.reduceAdd, Int.reduceSub, Int.reduceMul, Int.reduceEq, Int.reduceNe]) (fn71 b) ⟨rfl, trivial⟩ trivial ?_
  simp only [go_sem, Nat.reduceEqDiff, Nat.reduceBEq, Nat.reduceAdd, Nat.reduceMul, Nat.reduceSub, Nat.reduceLeDiff, Nat.reduceLT, reduceIte, reduceCtorEq, Int.reduceToNat, Int.reduceLE, Int.reduceLT, Int.reduceNeg, Bool.not_not, and_self, Bool.and_eq_false_iff, Int.cast_ofNat_Int, Int.reduceAdd, Int.reduceSub, Int.reduceMul, Int.reduceEq, Int.reduceNe]
  unfold cmpI
  refine ⟨fun h => by rw [if_pos h], fun h => ⟨fun h1 => by rw [if_neg h, if_pos h1], fun h1 => by rw [if_neg h, if_neg h1]⟩⟩
theorem fn69 (a b : ByteArray) : Fn Try.prog 69 [pS a, pS b] (.pv (pI (cmpB a b))) [] := by
  refine Run69 [] (by simp) ?_
  simp only [go_sem, Nat.reduceEqDiff, Nat.reduceBEq, Nat.reduceAdd, Nat.reduceMul, Nat.reduceSub, Nat.reduceLeDiff, Nat.reduceLT, reduceIte, reduceCtorEq, Int.reduceToNat, Int.reduceLE, Int.reduceLT, Int.reduceNeg, Bool.not_not, and_self, Bool.and_eq_false_iff, Int.cast_ofNat_Int, Int.reduceAdd, Int.reduceSub, Int.reduceMul, Int.reduceEq, Int.reduceNe, M69]
  refine runR_callf (by simp only [go_sem, Nat.reduceEqDiff, Nat.reduceBEq, Nat.reduceAdd, Nat.reduceMul, Nat.reduceSub, Nat.reduceLeDiff, Nat.reduceLT, reduceIte, reduceCtorEq, Int.reduceToNat, Int.reduceLE, Int.reduceLT, Int.reduceNeg, Bool.not_not, and_self, Bool.and_eq_false_iff, Int.cast_ofNat_Int, Int.reduceAdd, Int.reduceSub, Int.reduceMul, Int.reduceEq, Int.reduceNe]) (by simp only [go_sem, Nat.reduceEqDiff, Nat.reduceBEq, Nat.reduceAdd, Nat.reduceMul, Nat.reduceSub, Nat.reduceLeDiff, Nat.reduceLT, reduceIte, reduceCtorEq, Int.reduceToNat, Int.reduceLE, Int.reduceLT, Int.reduceNeg, Bool.not_not, and_self, Bool.and_eq_false_iff, Int.cast_ofNat_Int, Int.reduceAdd, Int.reduceSub, Int.reduceMul, Int.reduceEq, Int.reduceNe]) (fn72 a b) ⟨rfl, trivial⟩ trivial ?_
  simp only [go_sem, Nat.reduceEqDiff, Nat.reduceBEq, Nat.reduceAdd, Nat.reduceMul, Nat.reduceSub, Nat.reduceLeDiff, Nat.reduceLT, reduceIte, reduceCtorEq, Int.reduceToNat, Int.reduceLE, Int.reduceLT, Int.reduceNeg, Bool.not_not, and_self, Bool.and_eq_false_iff, Int.cast_ofNat_Int, Int.reduceAdd, Int.reduceSub, Int.reduceMul, Int.reduceEq, Int.reduceNe]
theorem cmpL_eq : ∀ x y : List UInt8, Lib.compareBytes x y = if Op.bytesLess x y = true then -1 else if x = y then 0 else 1
  | [], [] => by simp [Lib.compareBytes, Op.bytesLess]
  | [], _ :: _ => by simp [Lib.compareBytes, Op.bytesLess]
  | _ :: _, [] => by simp [Lib.compareBytes, Op.bytesLess]
  | a :: x, b :: y => by
    have ih := cmpL_eq x y
    simp only [Lib.compareBytes, Op.bytesLess]
    by_cases h1 : a < b
    · simp [h1]
    · by_cases h2 : b < a
      · have h3 : a ≠ b := fun e => by subst e; exact h1 h2
        simp [h1, h2, h3]
      · have h3 : a = b := by
          apply UInt8.toNat_inj.1
          have g1 : ¬ a.toNat < b.toNat := h1
          have g2 : ¬ b.toNat < a.toNat := h2
          omega
        subst h3
        simp [h1, ih]
theorem cmpB_eq (a b : ByteArray) : cmpB a b = if Op.bytesLess a.toList b.toList = true then -1 else if a = b then 0 else 1 := by
  unfold cmpB
  rw [cmpL_eq, Lib.toList_data, Lib.toList_data]
  by_cases h : a = b
  · subst h; simp
  · have : ¬ a.data.toList = b.data.toList := fun e => h (by
      obtain ⟨a⟩ := a
      obtain ⟨b⟩ := b
      exact congrArg ByteArray.mk (Array.toList_inj.1 e))
    simp [h, this]
def ordV (a b : Vl) : Int := bif a.num then (bif b.num then cmpI a.n b.n else -1) else (bif b.num then 1 else cmpB a.s b.s)
theorem fn56 (a b : Vl) : Fn Try.prog 56 [a.pv, b.pv] (.pv (pI (ordV a b))) [] := by
  refine Run56 [] (by simp) ?_
  simp only [go_sem, Nat.reduceEqDiff, Nat.reduceBEq, Nat.reduceAdd, Nat.reduceMul, Nat.reduceSub, Nat.reduceLeDiff, Nat.reduceLT, reduceIte, reduceCtorEq, Int.reduceToNat, Int.reduceLE, Int.reduceLT, Int.reduceNeg, Bool.not_not, and_self, Bool.and_eq_false_iff, Int.cast_ofNat_Int, Int.reduceAdd, Int.reduceSub, Int.reduceMul, Int.reduceEq, Int.reduceNe, M56]
  refine ⟨fun ⟨h1, h2⟩ => ?_, fun h => ⟨fun h1 => ?_, fun h1 => ⟨fun h2 => ?_, fun h2 => ?_⟩⟩⟩
  · refine runR_callf (by simp only [go_sem, Nat.reduceEqDiff, Nat.reduceBEq, Nat.reduceAdd, Nat.reduceMul, Nat.reduceSub, Nat.reduceLeDiff, Nat.reduceLT, reduceIte, reduceCtorEq, Int.reduceToNat, Int.reduceLE, Int.reduceLT, Int.reduceNeg, Bool.not_not, and_self, Bool.and_eq_false_iff, Int.cast_ofNat_Int, Int.reduceAdd, Int.reduceSub, Int.reduceMul, Int.reduceEq, Int.reduceNe]) (by simp only [go_sem, Nat.reduceEqDiff, Nat.reduceBEq, Nat.reduceAdd, Nat.reduceMul, Nat.reduceSub, Nat.reduceLeDiff, Nat.reduceLT, reduceIte, reduceCtorEq, Int.reduceToNat, Int.reduceLE, Int.reduceLT, Int.reduceNeg, Bool.not_not, and_self, Bool.and_eq_false_iff, Int.cast_ofNat_Int, Int.reduceAdd, Int.reduceSub, Int.reduceMul, Int.reduceEq, Int.reduceNe]) (fn68 a.n b.n) ⟨rfl, trivial⟩ trivial ?_
    simp only [go_sem, Nat.reduceEqDiff, Nat.reduceBEq, Nat.reduceAdd, Nat.reduceMul, Nat.reduceSub, Nat.reduceLeDiff, Nat.reduceLT, reduceIte, reduceCtorEq, Int.reduceToNat, Int.reduceLE, Int.reduceLT, Int.reduceNeg, Bool.not_not, and_self, Bool.and_eq_false_iff, Int.cast_ofNat_Int, Int.reduceAdd, Int.reduceSub, Int.reduceMul, Int.reduceEq, Int.reduceNe, ordV, h1, h2]
  · have h2 : b.num = false := by rcases h with h | h; rw [h1] at h; cases h; exact h
    simp [ordV, h1, h2]
  · simp [ordV, h1, h2]
  · refine runR_callf (by simp only [go_sem, Nat.reduceEqDiff, Nat.reduceBEq, Nat.reduceAdd, Nat.reduceMul, Nat.reduceSub, Nat.reduceLeDiff, Nat.reduceLT, reduceIte, reduceCtorEq, Int.reduceToNat, Int.reduceLE, Int.reduceLT, Int.reduceNeg, Bool.not_not, and_self, Bool.and_eq_false_iff, Int.cast_ofNat_Int, Int.reduceAdd, Int.reduceSub, Int.reduceMul, Int.reduceEq, Int.reduceNe]) (by simp only [go_sem, Nat.reduceEqDiff, Nat.reduceBEq, Nat.reduceAdd, Nat.reduceMul, Nat.reduceSub, Nat.reduceLeDiff, Nat.reduceLT, reduceIte, reduceCtorEq, Int.reduceToNat, Int.reduceLE, Int.reduceLT, Int.reduceNeg, Bool.not_not, and_self, Bool.and_eq_false_iff, Int.cast_ofNat_Int, Int.reduceAdd, Int.reduceSub, Int.reduceMul, Int.reduceEq, Int.reduceNe]) (fn69 a.s b.s) ⟨rfl, trivial⟩ trivial ?_
    simp only [go_sem, Nat.reduceEqDiff, Nat.reduceBEq, Nat.reduceAdd, Nat.reduceMul, Nat.reduceSub, Nat.reduceLeDiff, Nat.reduceLT, reduceIte, reduceCtorEq, Int.reduceToNat, Int.reduceLE, Int.reduceLT, Int.reduceNeg, Bool.not_not, and_self, Bool.and_eq_false_iff, Int.cast_ofNat_Int, Int.reduceAdd, Int.reduceSub, Int.reduceMul, Int.reduceEq, Int.reduceNe, ordV, h1, h2]
theorem fn55 (a b : Vl) : Fn Try.prog 55 [a.pv, b.pv] (.pv (pI (ordV a b))) [] := by
  refine Run55 [] (by simp) ?_
  simp only [go_sem, Nat.reduceEqDiff, Nat.reduceBEq, Nat.reduceAdd, Nat.reduceMul, Nat.reduceSub, Nat.reduceLeDiff, Nat.reduceLT, reduceIte, reduceCtorEq, Int.reduceToNat, Int.reduceLE, Int.reduceLT, Int.reduceNeg, Bool.not_not, and_self, Bool.and_eq_false_iff, Int.cast_ofNat_Int, Int.reduceAdd, Int.reduceSub, Int.reduceMul, Int.reduceEq, Int.reduceNe, M55]
  have hb := cmpB_eq a.s b.s
  unfold ordV
  rw [hb]
  cases a.num <;> cases b.num <;> simp [cmpI]
  · by_cases h1 : Op.bytesLess a.s.toList b.s.toList = true
    · simp [h1]
    · have h1' : Op.bytesLess a.s.toList b.s.toList = false := by simpa using h1
      by_cases h2 : a.s = b.s <;> simp [h1', h2]
  · by_cases h1 : a.n < b.n
    · simp [h1]; omega
    · by_cases h2 : b.n < a.n <;> simp [h1, h2]
end Go.Vc
