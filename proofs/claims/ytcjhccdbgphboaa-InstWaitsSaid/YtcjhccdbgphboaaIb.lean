/- A part of the proofs of the seat Ytcjhccdbgphboaa: the contracts of functions, each proved out of its code. -/
import Derived.Test.YtcjhccdbgphboaaIa
import Derived.Test.YtcjhccdbgphboaaProg
namespace Go.Vc
open Go.Proofs
set_option maxRecDepth 100000

/-- 'trystref10.All' -/
def B32_0 : MC := (.seq (.seq (.reg [⟨(some 5), none, (.q (.mv (.t 4)))⟩, ⟨(some 6), none, (.q (.mv (.t 0)))⟩, ⟨(some 7), none, (.q (.len (.t 6) false))⟩, ⟨(some 8), none, (.q (.bin .lss (.t 5)
  (.t 7)))⟩] [] [0, 3, 4, 8] [17, 2003]) (.cond (.t 8) .skip (.exit 0))) (.seq (.block 1 (.reg [⟨(some 11), none, (.q (.mv (.t 3)))⟩, ⟨(some 12), none, (.q (.mv (.t 0)))⟩, ⟨(some 13), none,
  (.q (.mv (.t 4)))⟩, ⟨(some 14), none, (.q (.ia (.t 12) (.t 13) 4))⟩, ⟨(some 15), none, (.q (.fa (.t 14) 3))⟩, ⟨(some 16), none, (.q (.ld (.t 15) 1 false))⟩, ⟨(some 17), none, (.app (.t 11) (.t 16)
  3 24)⟩, ⟨(some 3), none, (.q (.mv (.t 17)))⟩] [] [0, 3, 4] [17, 2003])) (.reg [⟨(some 9), none, (.q (.mv (.t 4)))⟩, ⟨(some 10), none, (.q (.bin .add (.t 9) (.c (.int .i64 1))))⟩, ⟨(some 4), none,
  (.q (.mv (.t 10)))⟩] [] [0, 3, 4] [17, 2003])))
def R32_0 : MC := (.seq (.reg [⟨(some 18), none, (.q (.mv (.t 3)))⟩, ⟨(some 2), none, (.q (.mv (.t 18)))⟩] [] [2] [17, 2003]) .ret)
def M32 : MC := (.seq (.reg [⟨(some 2), none, (.q (.mv .nil))⟩] [] [0] []) (.seq (.reg [⟨(some 3), none, (.q (.mv .nil))⟩] [(3, 2003, 3)] [0, 3] [17, 2003]) (.seq (.seq (.reg [⟨(some 4), none,
  (.q (.mv (.c (.int .i64 0))))⟩] [] [0, 3, 4] [17, 2003]) (.block 0 (.loop B32_0))) R32_0)))
theorem mc32 : ofCode Try.prog [] Try.f32.ntmps [(0, ⟨[0], [], [], 0, [], none⟩),
    (1, ⟨[0, 3], [17, 2003], [], 0, [(3, 2003, 3)], none⟩),
    (2, ⟨[0, 3, 4], [17, 2003], [], 0, [], none⟩),
    (3, ⟨[0, 3, 4, 8], [17, 2003], [], 0, [], none⟩),
    (4, ⟨[0, 3, 4], [17, 2003], [], 0, [], none⟩),
    (5, ⟨[0, 3, 4], [17, 2003], [], 0, [], none⟩),
    (6, ⟨[2], [17, 2003], [], 0, [], none⟩)] (Try.f32.body.getD .skip) = some M32 := by kernel_rfl
theorem Run32 {args : List PV} {v : AV} {rs : List (Nat × List PV)} (ids : List Bool) (h : args.length ≤ 19) (hv : run Try.prog (retK [RV.tmp 2] ids v rs) M32 [] ⟨entry 0 args, []⟩) : Fn Try.prog 32 args v rs :=
  Fn_run ids (by kernel_rfl) Try.func32 (by decide) rfl mc32 (by kernel_rfl) (by rw [Try.ntmps32]; exact h) (by rw [Try.ntmps32]; decide) hv

/-- 'trystlaw10.Few' -/
def B34_0 : MC := (.seq (.seq (.reg [⟨(some 5), none, (.q (.mv (.t 4)))⟩, ⟨(some 6), none, (.q (.mv (.t 0)))⟩, ⟨(some 7), none, (.q (.len (.t 6) false))⟩, ⟨(some 8), none, (.q (.bin .lss (.t 5)
  (.t 7)))⟩, ⟨(some 9), none, (.q (.mv (.t 8)))⟩, ⟨(some 10), (some (9, true)), (.q (.mv (.t 4)))⟩, ⟨(some 11), (some (9, true)), (.q (.bin .lss (.t 10) (.c (.int .i64 41))))⟩, ⟨(some 12), none,
  (.q (.pick (.t 9) (.t 11) (.c (.bool false))))⟩] [] [0, 3, 4, 12] [30, 2003]) (.cond (.t 12) .skip (.exit 0))) (.seq (.block 1 (.reg [⟨(some 15), none, (.q (.mv (.t 3)))⟩, ⟨(some 16), none,
  (.q (.mv (.t 0)))⟩, ⟨(some 17), none, (.q (.mv (.t 4)))⟩, ⟨(some 18), none, (.q (.ia (.t 16) (.t 17) 4))⟩, ⟨(some 19), none, (.q (.fa (.t 18) 0))⟩, ⟨(some 20), none, (.q (.ld (.t 19) 3 true))⟩,
  ⟨(some 22), none, (.q (.mv (.t 0)))⟩, ⟨(some 23), none, (.q (.mv (.t 4)))⟩, ⟨(some 24), none, (.q (.ia (.t 22) (.t 23) 4))⟩, ⟨(some 25), none, (.q (.fa (.t 24) 3))⟩, ⟨(some 26), none,
  (.q (.ld (.t 25) 1 false))⟩, ⟨(some 21), none, (.call (.f 29) [(.t 20)])⟩, ⟨(some 27), none, (.call (.f 18) [(.t 26)])⟩, ⟨(some 28), none, (.q (.mk [(.pv (.sc (.bool false))),
  (.pv (.sc (.int .i64 0))), (.pv (.sc (.string ⟨#[]⟩))), .e0] [(0, 3, (.t 21)), (3, 1, (.t 27))]))⟩, ⟨(some 29), none, (.lits [(.t 28)] 4)⟩, ⟨(some 30), none, (.app (.t 15) (.t 29) 4 56)⟩, ⟨(some 3),
  none, (.q (.mv (.t 30)))⟩] [] [0, 3, 4] [30, 2003])) (.reg [⟨(some 13), none, (.q (.mv (.t 4)))⟩, ⟨(some 14), none, (.q (.bin .add (.t 13) (.c (.int .i64 1))))⟩, ⟨(some 4), none,
  (.q (.mv (.t 14)))⟩] [] [0, 3, 4] [30, 2003])))
def R34_0 : MC := (.seq (.reg [⟨(some 31), none, (.q (.mv (.t 3)))⟩, ⟨(some 2), none, (.q (.mv (.t 31)))⟩] [] [2] [30, 2003]) .ret)
def M34 : MC := (.seq (.reg [⟨(some 2), none, (.q (.mv .nil))⟩] [] [0] []) (.seq (.reg [⟨(some 3), none, (.q (.mv .nil))⟩] [(3, 2003, 4)] [0, 3] [30, 2003]) (.seq (.seq (.reg [⟨(some 4), none,
  (.q (.mv (.c (.int .i64 0))))⟩] [] [0, 3, 4] [30, 2003]) (.block 0 (.loop B34_0))) R34_0)))
theorem mc34 : ofCode Try.prog [] Try.f34.ntmps [(0, ⟨[0], [], [], 0, [], none⟩),
    (1, ⟨[0, 3], [30, 2003], [], 0, [(3, 2003, 4)], none⟩),
    (2, ⟨[0, 3, 4], [30, 2003], [], 0, [], none⟩),
    (3, ⟨[0, 3, 4, 12], [30, 2003], [], 0, [], none⟩),
    (4, ⟨[0, 3, 4], [30, 2003], [], 0, [], none⟩),
    (5, ⟨[0, 3, 4], [30, 2003], [(0, 98305), (1, 127098), (2, 127100), (3, 127096), (4, 127088), (5, 127072), (7, 130688), (8, 130816), (9, 130560), (10, 130048), (11, 129024), (6, 0), (12, 0), (13, 122880), (14, 0), (15, 0), (16, 65536)], 98303, [], none⟩),
    (6, ⟨[2], [30, 2003], [], 0, [], none⟩)] (Try.f34.body.getD .skip) = some M34 := by kernel_rfl
theorem Run34 {args : List PV} {v : AV} {rs : List (Nat × List PV)} (ids : List Bool) (h : args.length ≤ 32) (hv : run Try.prog (retK [RV.tmp 2] ids v rs) M34 [] ⟨entry 0 args, []⟩) : Fn Try.prog 34 args v rs :=
  Fn_run ids (by kernel_rfl) Try.func34 (by decide) rfl mc34 (by kernel_rfl) (by rw [Try.ntmps34]; exact h) (by rw [Try.ntmps34]; decide) hv

/-- 'inst.there' -/
def M53 : MC := (.seq (.reg [⟨(some 3), none, (.box (.t 1))⟩, ⟨(some 4), none, (.q (.mv (.c (.bool false))))⟩] [] [0, 3] [3]) (.seq (.reg [⟨(some 5), none, (.q (.mv (.t 0)))⟩, ⟨(some 6), none,
  (.q (.clo 66 [(.t 3)]))⟩, ⟨(some 7), none, (.call (.f 65) [(.t 5), (.t 6)])⟩, ⟨(some 4), none, (.q (.mv (.t 7)))⟩] [] [4] [1007]) .ret))
theorem mc53 : ofCode Try.prog [] Try.f53.ntmps [(0, ⟨[0, 3], [3], [], 0, [], none⟩),
    (1, ⟨[4], [1007], [], 0, [], none⟩)] (Try.f53.body.getD .skip) = some M53 := by kernel_rfl
theorem Run53 {args : List PV} {v : AV} {rs : List (Nat × List PV)} (ids : List Bool) (h : args.length ≤ 8) (hv : run Try.prog (retK [RV.tmp 4] ids v rs) M53 [] ⟨entry 0 args, []⟩) : Fn Try.prog 53 args v rs :=
  Fn_run ids (by kernel_rfl) Try.func53 (by decide) rfl mc53 (by kernel_rfl) (by rw [Try.ntmps53]; exact h) (by rw [Try.ntmps53]; decide) hv

/-- 'api.Inst]' -/
def M65 : MC := (.seq (.reg [⟨(some 4), none, (.q (.mv (.c (.bool false))))⟩] [] [0, 1] []) (.seq (.reg [⟨(some 5), none, (.q (.mv (.t 0)))⟩, ⟨(some 6), none, (.q (.mv (.t 1)))⟩, ⟨(some 7), none,
  (.call (.f 57) [(.t 5), (.t 6)])⟩, ⟨(some 8), none, (.q (.bin .geq (.t 7) (.c (.int .i64 0))))⟩, ⟨(some 4), none, (.q (.mv (.t 8)))⟩] [] [4] [1007]) .ret))
theorem mc65 : ofCode Try.prog [] Try.f65.ntmps [(0, ⟨[0, 1], [], [], 0, [], none⟩),
    (1, ⟨[4], [1007], [], 0, [], none⟩)] (Try.f65.body.getD .skip) = some M65 := by kernel_rfl
theorem Run65 {args : List PV} {v : AV} {rs : List (Nat × List PV)} (ids : List Bool) (h : args.length ≤ 9) (hv : run Try.prog (retK [RV.tmp 4] ids v rs) M65 [] ⟨entry 0 args, []⟩) : Fn Try.prog 65 args v rs :=
  Fn_run ids (by kernel_rfl) Try.func65 (by decide) rfl mc65 (by kernel_rfl) (by rw [Try.ntmps65]; exact h) (by rw [Try.ntmps65]; decide) hv

/-- 'inst.there.1' -/
def M66 : MC := (.seq (.reg [⟨(some 2), none, (.box (.t 0))⟩, ⟨(some 3), none, (.q (.mv (.c (.bool false))))⟩] [] [1, 2] [2]) (.seq (.reg [⟨(some 4), none, (.q (.fa (.t 2) 3))⟩, ⟨(some 5), none,
  (.q (.ld (.t 4) 1 false))⟩, ⟨(some 6), none, (.q (.clo 67 [(.t 1)]))⟩, ⟨(some 7), none, (.call (.f 59) [(.t 5), (.t 6)])⟩, ⟨(some 3), none, (.q (.mv (.t 7)))⟩] [] [3] [1007]) .ret))
theorem mc66 : ofCode Try.prog [] Try.f66.ntmps [(0, ⟨[1, 2], [2], [], 0, [], none⟩),
    (1, ⟨[3], [1007], [], 0, [], none⟩)] (Try.f66.body.getD .skip) = some M66 := by kernel_rfl
theorem Run66 {args : List PV} {v : AV} {rs : List (Nat × List PV)} (ids : List Bool) (h : args.length ≤ 8) (hv : run Try.prog (retK [RV.tmp 3] ids v rs) M66 [] ⟨entry 0 args, []⟩) : Fn Try.prog 66 args v rs :=
  Fn_run ids (by kernel_rfl) Try.func66 (by decide) rfl mc66 (by kernel_rfl) (by rw [Try.ntmps66]; exact h) (by rw [Try.ntmps66]; decide) hv

/-- 'inst.there.1.1' -/
def M67 : MC := (.seq (.reg [⟨(some 2), none, (.box (.t 0))⟩, ⟨(some 3), none, (.q (.mv (.c (.bool false))))⟩] [] [1, 2] [2]) (.seq (.reg [⟨(some 4), none, (.q (.fa (.t 2) 1))⟩, ⟨(some 5), none,
  (.q (.ld (.t 4) 1 false))⟩, ⟨(some 6), none, (.q (.ld (.t 1) 1 false))⟩, ⟨(some 7), none, (.q (.bin .eql (.t 5) (.t 6)))⟩, ⟨(some 3), none, (.q (.mv (.t 7)))⟩] [] [3] []) .ret))
theorem mc67 : ofCode Try.prog [] Try.f67.ntmps [(0, ⟨[1, 2], [2], [], 0, [], none⟩),
    (1, ⟨[3], [], [], 0, [], none⟩)] (Try.f67.body.getD .skip) = some M67 := by kernel_rfl
theorem Run67 {args : List PV} {v : AV} {rs : List (Nat × List PV)} (ids : List Bool) (h : args.length ≤ 8) (hv : run Try.prog (retK [RV.tmp 3] ids v rs) M67 [] ⟨entry 0 args, []⟩) : Fn Try.prog 67 args v rs :=
  Fn_run ids (by kernel_rfl) Try.func67 (by decide) rfl mc67 (by kernel_rfl) (by rw [Try.ntmps67]; exact h) (by rw [Try.ntmps67]; decide) hv

/-- 'trystref10.Same' -/
def B35_0 : MC := (.seq (.seq (.reg [⟨(some 11), none, (.q (.mv (.t 5)))⟩, ⟨(some 12), none, (.q (.mv (.t 0)))⟩, ⟨(some 13), none, (.q (.len (.t 12) false))⟩, ⟨(some 14), none, (.q (.bin .lss (.t 11)
  (.t 13)))⟩] [] [0, 1, 5, 14] []) (.cond (.t 14) .skip (.exit 0))) (.seq (.block 1 (.seq (.reg [⟨(some 17), none, (.q (.mv (.t 0)))⟩, ⟨(some 18), none, (.q (.mv (.t 5)))⟩, ⟨(some 19), none,
  (.q (.ia (.t 17) (.t 18) 4))⟩, ⟨(some 20), none, (.q (.fa (.t 19) 0))⟩, ⟨(some 21), none, (.q (.ld (.t 20) 3 true))⟩, ⟨(some 22), none, (.q (.mv (.t 1)))⟩, ⟨(some 23), none, (.q (.mv (.t 5)))⟩,
  ⟨(some 24), none, (.q (.ia (.t 22) (.t 23) 4))⟩, ⟨(some 25), none, (.q (.fa (.t 24) 0))⟩, ⟨(some 26), none, (.q (.ld (.t 25) 3 true))⟩, ⟨(some 27), none, (.q (.seq true [2, 0, 1] (.t 21) (.t 26)))⟩,
  ⟨(some 28), none, (.q (.mv (.t 27)))⟩, ⟨(some 29), (some (28, false)), (.q (.mv (.t 0)))⟩, ⟨(some 30), (some (28, false)), (.q (.mv (.t 5)))⟩, ⟨(some 31), (some (28, false)), (.q (.ia (.t 29)
  (.t 30) 4))⟩, ⟨(some 32), (some (28, false)), (.q (.fa (.t 31) 3))⟩, ⟨(some 33), (some (28, false)), (.q (.ld (.t 32) 1 false))⟩, ⟨(some 34), (some (28, false)), (.q (.mv (.t 1)))⟩, ⟨(some 35),
  (some (28, false)), (.q (.mv (.t 5)))⟩, ⟨(some 36), (some (28, false)), (.q (.ia (.t 34) (.t 35) 4))⟩, ⟨(some 37), (some (28, false)), (.q (.fa (.t 36) 3))⟩, ⟨(some 38), (some (28, false)),
  (.q (.ld (.t 37) 1 false))⟩, ⟨(some 39), (some (28, false)), (.call (.f 21) [(.t 33), (.t 38)])⟩, ⟨(some 40), (some (28, false)), (.q (.not (.t 39)))⟩, ⟨(some 41), none, (.q (.pick (.t 28)
  (.c (.bool true)) (.t 40)))⟩] [] [0, 1, 5, 41] [1039]) (.cond (.t 41) (.seq (.reg [⟨(some 4), none, (.q (.mv (.c (.bool false))))⟩] [] [4] []) .ret) .skip))) (.reg [⟨(some 15), none,
  (.q (.mv (.t 5)))⟩, ⟨(some 16), none, (.q (.bin .add (.t 15) (.c (.int .i64 1))))⟩, ⟨(some 5), none, (.q (.mv (.t 16)))⟩] [] [0, 1, 5] [])))
def R35_0 : MC := (.seq (.reg [⟨(some 4), none, (.q (.mv (.c (.bool true))))⟩] [] [4] []) .ret)
def M35 : MC := (.seq (.reg [⟨(some 4), none, (.q (.mv (.c (.bool false))))⟩] [] [0, 1] []) (.seq (.seq (.reg [⟨(some 6), none, (.q (.mv (.t 0)))⟩, ⟨(some 7), none, (.q (.len (.t 6) false))⟩,
  ⟨(some 8), none, (.q (.mv (.t 1)))⟩, ⟨(some 9), none, (.q (.len (.t 8) false))⟩, ⟨(some 10), none, (.q (.bin .neq (.t 7) (.t 9)))⟩] [] [0, 1, 10] []) (.cond (.t 10) (.seq (.reg [⟨(some 4), none,
  (.q (.mv (.c (.bool false))))⟩] [] [4] []) .ret) .skip)) (.seq (.seq (.reg [⟨(some 5), none, (.q (.mv (.c (.int .i64 0))))⟩] [] [0, 1, 5] []) (.block 0 (.loop B35_0))) R35_0)))
theorem mc35 : ofCode Try.prog [] Try.f35.ntmps [(0, ⟨[0, 1], [], [], 0, [], none⟩),
    (1, ⟨[0, 1, 10], [], [], 0, [], none⟩),
    (2, ⟨[4], [], [], 0, [], none⟩),
    (3, ⟨[0, 1, 5], [], [], 0, [], none⟩),
    (4, ⟨[0, 1, 5, 14], [], [], 0, [], none⟩),
    (5, ⟨[0, 1, 5], [], [], 0, [], none⟩),
    (6, ⟨[0, 1, 5, 41], [1039], [(0, 33553437), (1, 33553438), (2, 33553436), (3, 33553432), (4, 33553424), (5, 33554336), (6, 33554368), (7, 33554304), (8, 33554176), (9, 33553920), (10, 33553408), (11, 33552384), (12, 29478912), (13, 29483008), (14, 29474816), (15, 29458432), (16, 29425664), (17, 33161216), (18, 33292288), (19, 33030144), (20, 32505856), (21, 31457280), (22, 0), (23, 25165824), (24, 16777216)], 33554431, [], none⟩),
    (7, ⟨[4], [], [], 0, [], none⟩),
    (8, ⟨[4], [], [], 0, [], none⟩)] (Try.f35.body.getD .skip) = some M35 := by kernel_rfl
theorem Run35 {args : List PV} {v : AV} {rs : List (Nat × List PV)} (ids : List Bool) (h : args.length ≤ 42) (hv : run Try.prog (retK [RV.tmp 4] ids v rs) M35 [] ⟨entry 0 args, []⟩) : Fn Try.prog 35 args v rs :=
  Fn_run ids (by kernel_rfl) Try.func35 (by decide) rfl mc35 (by kernel_rfl) (by rw [Try.ntmps35]; exact h) (by rw [Try.ntmps35]; decide) hv

/-- 'inst.with' -/
def B54_0 : MC := (.seq (.reg [⟨(some 21), none, (.q (.bin .lss (.t 20) (.t 19)))⟩] [] [2, 4, 7, 8, 18, 19, 20, 21] [4, 14, 38, 51, 60]) (.seq (.cond (.t 21) .skip (.exit 0))
  (.seq (.block 1 (.seq (.reg [⟨(some 22), none, (.q (.ia (.t 18) (.t 20) 4))⟩, ⟨(some 23), none, (.q (.ld (.t 22) 4 true))⟩, ⟨(some 10), none, (.alloc [(.pv (.sc (.bool false))),
  (.pv (.sc (.int .i64 0))), (.pv (.sc (.string ⟨#[]⟩))), .e0])⟩, ⟨none, none, (.st (.t 10) (.t 23) 4)⟩] [] [2, 4, 7, 8, 10, 18, 19, 20] [4, 10, 14, 38, 51, 60]) (.seq (.seq (.reg [⟨(some 24), none,
  (.q (.mv (.t 8)))⟩, ⟨(some 25), none, (.q (.not (.t 24)))⟩, ⟨(some 26), none, (.q (.mv (.t 25)))⟩, ⟨(some 27), (some (26, true)), (.q (.fa (.t 10) 0))⟩, ⟨(some 28), (some (26, true)),
  (.q (.ld (.t 27) 3 true))⟩, ⟨(some 29), (some (26, true)), (.q (.ld (.t 4) 3 true))⟩, ⟨(some 30), (some (26, true)), (.call (.f 56) [(.t 28), (.t 29)])⟩, ⟨(some 31), (some (26, true)),
  (.q (.bin .geq (.t 30) (.c (.int .i64 0))))⟩, ⟨(some 32), none, (.q (.pick (.t 26) (.t 31) (.c (.bool false))))⟩] [] [2, 4, 7, 8, 10, 18, 19, 20, 32] [4, 10, 14, 38, 51, 60, 1030]) (.cond (.t 32)
  (.seq (.reg [⟨(some 33), none, (.q (.mv (.t 7)))⟩, ⟨(some 34), none, (.q (.ld (.t 4) 3 true))⟩, ⟨(some 35), none, (.q (.mv (.t 2)))⟩, ⟨(some 36), none, (.q (.mk [(.pv (.sc (.bool false))),
  (.pv (.sc (.int .i64 0))), (.pv (.sc (.string ⟨#[]⟩))), .e0] [(0, 3, (.t 34)), (3, 1, (.t 35))]))⟩, ⟨(some 37), none, (.lits [(.t 36)] 4)⟩, ⟨(some 38), none, (.app (.t 33) (.t 37) 4 56)⟩, ⟨(some 7),
  none, (.q (.mv (.t 38)))⟩] [] [2, 4, 7, 10, 18, 19, 20] [4, 10, 14, 38, 51, 60]) (.reg [⟨(some 8), none, (.q (.mv (.c (.bool true))))⟩] [] [2, 4, 7, 8, 10, 18, 19, 20] [4, 10, 14, 38, 51, 60]))
  .skip)) (.seq (.reg [⟨(some 39), none, (.q (.fa (.t 10) 0))⟩, ⟨(some 40), none, (.q (.ld (.t 39) 3 true))⟩, ⟨(some 41), none, (.q (.ld (.t 4) 3 true))⟩, ⟨(some 42), none, (.q (.seq true [2, 0,
  1] (.t 40) (.t 41)))⟩] [] [2, 4, 7, 8, 10, 18, 19, 20, 42] [4, 10, 14, 38, 51, 60]) (.cond (.t 42) (.reg [⟨(some 43), none, (.q (.mv (.t 7)))⟩, ⟨(some 44), none, (.q (.fa (.t 10) 0))⟩, ⟨(some 45),
  none, (.q (.ld (.t 44) 3 true))⟩, ⟨(some 46), none, (.q (.fa (.t 10) 3))⟩, ⟨(some 47), none, (.q (.ld (.t 46) 1 false))⟩, ⟨(some 48), none, (.call (.f 51) [(.t 47)])⟩, ⟨(some 49), none,
  (.q (.mk [(.pv (.sc (.bool false))), (.pv (.sc (.int .i64 0))), (.pv (.sc (.string ⟨#[]⟩))), .e0] [(0, 3, (.t 45)), (3, 1, (.t 48))]))⟩, ⟨(some 50), none, (.lits [(.t 49)] 4)⟩, ⟨(some 51), none,
  (.app (.t 43) (.t 50) 4 56)⟩, ⟨(some 7), none, (.q (.mv (.t 51)))⟩] [] [2, 4, 7, 8, 18, 19, 20] [4, 14, 38, 51, 60]) .skip))))) (.reg [⟨(some 52), none, (.q (.bin .add (.t 20) (.c (.int .i64 1))))⟩,
  ⟨(some 20), none, (.q (.mv (.t 52)))⟩] [] [2, 4, 7, 8, 18, 19, 20] [4, 14, 38, 51, 60]))))
def R54_0 : MC := (.seq (.seq (.reg [⟨(some 53), none, (.q (.mv (.t 8)))⟩, ⟨(some 54), none, (.q (.not (.t 53)))⟩] [] [2, 4, 7, 54] [4, 14, 38, 51, 60]) (.cond (.t 54) (.reg [⟨(some 55), none,
  (.q (.mv (.t 7)))⟩, ⟨(some 56), none, (.q (.ld (.t 4) 3 true))⟩, ⟨(some 57), none, (.q (.mv (.t 2)))⟩, ⟨(some 58), none, (.q (.mk [(.pv (.sc (.bool false))), (.pv (.sc (.int .i64 0))),
  (.pv (.sc (.string ⟨#[]⟩))), .e0] [(0, 3, (.t 56)), (3, 1, (.t 57))]))⟩, ⟨(some 59), none, (.lits [(.t 58)] 4)⟩, ⟨(some 60), none, (.app (.t 55) (.t 59) 4 56)⟩, ⟨(some 7), none,
  (.q (.mv (.t 60)))⟩] [] [7] [14, 38, 51, 60]) .skip)) (.seq (.reg [⟨(some 61), none, (.q (.mv (.t 7)))⟩, ⟨(some 6), none, (.q (.mv (.t 61)))⟩] [] [6] [14, 38, 51, 60]) .ret))
def M54 : MC := (.seq (.reg [⟨(some 4), none, (.box (.t 1))⟩, ⟨(some 6), none, (.q (.mv .nil))⟩] [] [0, 2, 4] [4]) (.seq (.reg [⟨(some 11), none, (.q (.mv (.t 0)))⟩, ⟨(some 12), none,
  (.q (.len (.t 11) false))⟩, ⟨(some 13), none, (.q (.bin .add (.t 12) (.c (.int .i64 1))))⟩, ⟨(some 14), none, (.mks (.c (.int .i64 0)) (.t 13) 4 56 (.agg [(.sc (.bool false)), (.sc (.int .i64 0)),
  (.sc (.string ⟨#[]⟩)), (.lst [])]))⟩, ⟨(some 7), none, (.q (.mv (.t 14)))⟩] [] [0, 2, 4, 7] [4, 14, 38, 51, 60]) (.seq (.reg [⟨(some 15), none, (.q (.mv (.t 2)))⟩, ⟨(some 16), none,
  (.q (.len (.t 15) false))⟩, ⟨(some 17), none, (.q (.bin .eql (.t 16) (.c (.int .i64 0))))⟩, ⟨(some 8), none, (.q (.mv (.t 17)))⟩] [] [0, 2, 4, 7, 8] [4, 14, 38, 51, 60])
  (.seq (.seq (.reg [⟨(some 18), none, (.q (.mv (.t 0)))⟩, ⟨(some 19), none, (.q (.len (.t 18) false))⟩, ⟨(some 20), none, (.q (.mv (.c (.int .i64 0))))⟩] [] [2, 4, 7, 8, 18, 19, 20] [4, 14, 38, 51,
  60]) (.block 0 (.loop B54_0))) R54_0))))
theorem mc54 : ofCode Try.prog [] Try.f54.ntmps [(0, ⟨[0, 2, 4], [4], [], 0, [], none⟩),
    (1, ⟨[0, 2, 4, 7], [4, 14, 38, 51, 60], [], 0, [], none⟩),
    (2, ⟨[0, 2, 4, 7, 8], [4, 14, 38, 51, 60], [], 0, [], none⟩),
    (3, ⟨[2, 4, 7, 8, 18, 19, 20], [4, 14, 38, 51, 60], [], 0, [], none⟩),
    (4, ⟨[2, 4, 7, 8, 18, 19, 20, 21], [4, 14, 38, 51, 60], [], 0, [], none⟩),
    (5, ⟨[2, 4, 7, 8, 10, 18, 19, 20], [4, 10, 14, 38, 51, 60], [], 0, [], none⟩),
    (6, ⟨[2, 4, 7, 8, 10, 18, 19, 20, 32], [4, 10, 14, 38, 51, 60, 1030], [], 0, [], none⟩),
    (7, ⟨[2, 4, 7, 10, 18, 19, 20], [4, 10, 14, 38, 51, 60], [], 0, [], none⟩),
    (8, ⟨[2, 4, 7, 8, 10, 18, 19, 20], [4, 10, 14, 38, 51, 60], [], 0, [], none⟩),
    (9, ⟨[2, 4, 7, 8, 10, 18, 19, 20, 42], [4, 10, 14, 38, 51, 60], [], 0, [], none⟩),
    (10, ⟨[2, 4, 7, 8, 18, 19, 20], [4, 14, 38, 51, 60], [(0, 769), (1, 966), (2, 964), (3, 1016), (4, 1008), (5, 0), (6, 960), (7, 0), (8, 0), (9, 512)], 767, [], none⟩),
    (11, ⟨[2, 4, 7, 8, 18, 19, 20], [4, 14, 38, 51, 60], [], 0, [], none⟩),
    (12, ⟨[2, 4, 7, 54], [4, 14, 38, 51, 60], [], 0, [], none⟩),
    (13, ⟨[7], [14, 38, 51, 60], [], 0, [], none⟩),
    (14, ⟨[6], [14, 38, 51, 60], [], 0, [], none⟩)] (Try.f54.body.getD .skip) = some M54 := by kernel_rfl
theorem Run54 {args : List PV} {v : AV} {rs : List (Nat × List PV)} (ids : List Bool) (h : args.length ≤ 62) (hv : run Try.prog (retK [RV.tmp 6] ids v rs) M54 [] ⟨entry 0 args, []⟩) : Fn Try.prog 54 args v rs :=
  Fn_run ids (by kernel_rfl) Try.func54 (by decide) rfl mc54 (by kernel_rfl) (by rw [Try.ntmps54]; exact h) (by rw [Try.ntmps54]; decide) hv

/-- 'inst.Feed' -/
def M30 : MC := (.seq (.reg [⟨(some 4), none, (.box (.t 0))⟩, ⟨(some 6), none, (.box (.t 2))⟩, ⟨(some 7), none, (.box (.t 3))⟩, ⟨(some 8), none, (.q (.mv .nil))⟩, ⟨(some 9), none, (.q (.mv .nil))⟩,
  ⟨(some 10), none, (.q (.mv .nil))⟩, ⟨(some 11), none, (.q (.mv (.c (.int .i64 0))))⟩] [] [1, 4, 6, 7] [4, 6, 7]) (.seq (.seq (.reg [⟨(some 19), none, (.q (.ld (.t 4) 4 true))⟩, ⟨(some 20), none,
  (.q (.mv (.t 1)))⟩, ⟨(some 21), none, (.call (.f 37) [(.t 19), (.t 20)])⟩, ⟨(some 12), none, (.q (.mv (.t 21)))⟩] [] [1, 4, 6, 7, 12] [4, 6, 7, 1021]) (.seq (.reg [⟨(some 22), none,
  (.q (.mv (.t 12)))⟩, ⟨(some 23), none, (.q (.bin .neq (.t 22) (.c (.int .i64 0))))⟩] [] [1, 4, 6, 7, 12, 23] [4, 6, 7, 1021]) (.cond (.t 23) (.seq (.reg [⟨(some 24), none, (.q (.mv (.t 12)))⟩,
  ⟨(some 8), none, (.q (.mv .nil))⟩, ⟨(some 9), none, (.q (.mv .nil))⟩, ⟨(some 10), none, (.q (.mv .nil))⟩, ⟨(some 11), none, (.q (.mv (.t 24)))⟩] [] [8, 9, 10, 11] [1021, 1046, 1069]) .ret) .skip)))
  (.seq (.seq (.reg [⟨(some 25), none, (.q (.ld (.t 6) 3 true))⟩, ⟨(some 26), none, (.call (.f 52) [(.t 25)])⟩, ⟨(some 27), none, (.q (.not (.t 26)))⟩] [] [1, 4, 6, 7, 27] [4, 6, 7, 1026])
  (.cond (.t 27) (.seq (.reg [⟨(some 8), none, (.q (.mv .nil))⟩, ⟨(some 9), none, (.q (.mv .nil))⟩, ⟨(some 10), none, (.q (.mv .nil))⟩, ⟨(some 11), none, (.q (.mv (.c (.int .i64 1))))⟩] [] [8, 9, 10,
  11] [1021, 1046, 1069]) .ret) .skip)) (.seq (.seq (.reg [⟨(some 28), none, (.q (.mv (.t 1)))⟩, ⟨(some 29), none, (.q (.fa (.t 7) 1))⟩, ⟨(some 30), none, (.q (.ld (.t 29) 1 false))⟩, ⟨(some 31),
  none, (.call (.f 53) [(.t 28), (.t 30)])⟩] [] [1, 4, 6, 7, 31] [4, 6, 7, 1031]) (.cond (.t 31) (.seq (.reg [⟨(some 8), none, (.q (.mv .nil))⟩, ⟨(some 9), none, (.q (.mv .nil))⟩, ⟨(some 10), none,
  (.q (.mv .nil))⟩, ⟨(some 11), none, (.q (.mv (.c (.int .i64 5))))⟩] [] [8, 9, 10, 11] [1021, 1046, 1069]) .ret) .skip)) (.seq (.reg [⟨(some 13), none, (.q (.mv .nil))⟩] [(13, 14, 0)] [1, 4, 6, 7,
  13] [4, 6, 7]) (.seq (.reg [⟨(some 32), none, (.q (.mv (.t 1)))⟩, ⟨(some 33), none, (.q (.ld (.t 6) 3 true))⟩, ⟨(some 34), none, (.call (.f 39) [(.t 32), (.t 33)])⟩, ⟨(some 14), none,
  (.q (.mv (.t 34)))⟩] [] [1, 4, 6, 7, 13, 14] [4, 6, 7, 1034]) (.seq (.seq (.reg [⟨(some 35), none, (.q (.mv (.t 14)))⟩, ⟨(some 36), none, (.q (.bin .geq (.t 35) (.c (.int .i64 0))))⟩] [] [1, 4, 6,
  7, 13, 14, 36] [4, 6, 7, 1034]) (.cond (.t 36) (.reg [⟨(some 37), none, (.q (.mv (.t 1)))⟩, ⟨(some 38), none, (.q (.mv (.t 14)))⟩, ⟨(some 39), none, (.q (.ia (.t 37) (.t 38) 4))⟩, ⟨(some 40), none,
  (.q (.fa (.t 39) 3))⟩, ⟨(some 41), none, (.q (.ld (.t 40) 1 false))⟩, ⟨(some 13), none, (.q (.mv (.t 41)))⟩] [] [1, 4, 6, 7, 13, 14] [4, 6, 7, 1034]) .skip)) (.seq (.reg [⟨(some 43), none,
  (.q (.ld (.t 4) 4 true))⟩, ⟨(some 44), none, (.q (.mv (.t 13)))⟩, ⟨(some 45), none, (.q (.ld (.t 7) 3 true))⟩, ⟨(some 46), none, (.call (.f 19) [(.t 43), (.t 44), (.t 45)])⟩, ⟨(some 42), none,
  (.q (.mv (.t 46)))⟩, ⟨(some 47), none, (.q (.ext (.t 42) 0))⟩, ⟨(some 48), none, (.q (.ext (.t 42) 1))⟩, ⟨(some 49), none, (.q (.ext (.t 42) 2))⟩, ⟨(some 50), none, (.q (.ext (.t 42) 3))⟩,
  ⟨(some 15), none, (.q (.mv (.t 47)))⟩, ⟨(some 16), none, (.q (.mv (.t 48)))⟩, ⟨(some 17), none, (.q (.mv (.t 49)))⟩, ⟨(some 18), none, (.q (.mv (.t 50)))⟩] [] [1, 6, 14, 15, 16, 17, 18] [6, 1034,
  1046]) (.seq (.seq (.reg [⟨(some 51), none, (.q (.mv (.t 18)))⟩, ⟨(some 52), none, (.q (.bin .neq (.t 51) (.c (.int .i64 0))))⟩] [] [1, 6, 14, 15, 16, 17, 18, 52] [6, 1034, 1046]) (.cond (.t 52)
  (.seq (.reg [⟨(some 53), none, (.q (.mv (.t 18)))⟩, ⟨(some 8), none, (.q (.mv .nil))⟩, ⟨(some 9), none, (.q (.mv .nil))⟩, ⟨(some 10), none, (.q (.mv .nil))⟩, ⟨(some 11), none,
  (.q (.mv (.t 53)))⟩] [] [8, 9, 10, 11] [1021, 1046, 1069]) .ret) .skip)) (.seq (.seq (.reg [⟨(some 54), none, (.q (.mv (.t 14)))⟩, ⟨(some 55), none, (.q (.bin .lss (.t 54) (.c (.int .i64 0))))⟩,
  ⟨(some 56), none, (.q (.mv (.t 55)))⟩, ⟨(some 57), (some (56, true)), (.q (.mv (.t 15)))⟩, ⟨(some 58), (some (56, true)), (.q (.len (.t 57) false))⟩, ⟨(some 59), (some (56, true)),
  (.q (.bin .gtr (.t 58) (.c (.int .i64 0))))⟩, ⟨(some 60), none, (.q (.pick (.t 56) (.t 59) (.c (.bool false))))⟩, ⟨(some 61), none, (.q (.mv (.t 60)))⟩, ⟨(some 62), (some (61, true)),
  (.q (.mv (.t 1)))⟩, ⟨(some 63), (some (61, true)), (.q (.len (.t 62) false))⟩, ⟨(some 64), (some (61, true)), (.q (.bin .geq (.t 63) (.c (.int .i64 40))))⟩, ⟨(some 65), none, (.q (.pick (.t 61)
  (.t 64) (.c (.bool false))))⟩] [] [1, 6, 15, 16, 17, 65] [6, 1034, 1046]) (.cond (.t 65) (.seq (.reg [⟨(some 8), none, (.q (.mv .nil))⟩, ⟨(some 9), none, (.q (.mv .nil))⟩, ⟨(some 10), none,
  (.q (.mv .nil))⟩, ⟨(some 11), none, (.q (.mv (.c (.int .i64 6))))⟩] [] [8, 9, 10, 11] [1021, 1046, 1069]) .ret) .skip)) (.seq (.reg [⟨(some 66), none, (.q (.mv (.t 1)))⟩, ⟨(some 67), none,
  (.q (.ld (.t 6) 3 true))⟩, ⟨(some 68), none, (.q (.mv (.t 15)))⟩, ⟨(some 69), none, (.call (.f 54) [(.t 66), (.t 67), (.t 68)])⟩, ⟨(some 70), none, (.q (.mv (.t 16)))⟩, ⟨(some 71), none,
  (.q (.mv (.t 17)))⟩, ⟨(some 8), none, (.q (.mv (.t 69)))⟩, ⟨(some 9), none, (.q (.mv (.t 70)))⟩, ⟨(some 10), none, (.q (.mv (.t 71)))⟩, ⟨(some 11), none, (.q (.mv (.c (.int .i64 0))))⟩] [] [8, 9,
  10, 11] [1021, 1046, 1069]) .ret)))))))))))
theorem mc30 : ofCode Try.prog [] Try.f30.ntmps [(0, ⟨[1, 4, 6, 7], [4, 6, 7], [], 0, [], none⟩),
    (1, ⟨[1, 4, 6, 7, 12], [4, 6, 7, 1021], [], 0, [], none⟩),
    (2, ⟨[1, 4, 6, 7, 12, 23], [4, 6, 7, 1021], [], 0, [], none⟩),
    (3, ⟨[8, 9, 10, 11], [1021, 1046, 1069], [], 0, [], none⟩),
    (4, ⟨[1, 4, 6, 7, 27], [4, 6, 7, 1026], [], 0, [], none⟩),
    (5, ⟨[8, 9, 10, 11], [1021, 1046, 1069], [], 0, [], none⟩),
    (6, ⟨[1, 4, 6, 7, 31], [4, 6, 7, 1031], [], 0, [], none⟩),
    (7, ⟨[8, 9, 10, 11], [1021, 1046, 1069], [], 0, [], none⟩),
    (8, ⟨[1, 4, 6, 7, 13], [4, 6, 7], [], 0, [(13, 14, 0)], none⟩),
    (9, ⟨[1, 4, 6, 7, 13, 14], [4, 6, 7, 1034], [], 0, [], none⟩),
    (10, ⟨[1, 4, 6, 7, 13, 14, 36], [4, 6, 7, 1034], [], 0, [], none⟩),
    (11, ⟨[1, 4, 6, 7, 13, 14], [4, 6, 7, 1034], [], 0, [], none⟩),
    (12, ⟨[1, 6, 14, 15, 16, 17, 18], [6, 1034, 1046], [], 0, [], none⟩),
    (13, ⟨[1, 6, 14, 15, 16, 17, 18, 52], [6, 1034, 1046], [], 0, [], none⟩),
    (14, ⟨[8, 9, 10, 11], [1021, 1046, 1069], [], 0, [], none⟩),
    (15, ⟨[1, 6, 15, 16, 17, 65], [6, 1034, 1046], [], 0, [], none⟩),
    (16, ⟨[8, 9, 10, 11], [1021, 1046, 1069], [], 0, [], none⟩),
    (17, ⟨[8, 9, 10, 11], [1021, 1046, 1069], [], 0, [], none⟩)] (Try.f30.body.getD .skip) = some M30 := by kernel_rfl
theorem Run30 {args : List PV} {v : AV} {rs : List (Nat × List PV)} (ids : List Bool) (h : args.length ≤ 72) (hv : run Try.prog (retK [RV.tmp 8, RV.tmp 9, RV.tmp 10, RV.tmp 11] ids v rs) M30 [] ⟨entry 0 args, []⟩) : Fn Try.prog 30 args v rs :=
  Fn_run ids (by kernel_rfl) Try.func30 (by decide) rfl mc30 (by kernel_rfl) (by rw [Try.ntmps30]; exact h) (by rw [Try.ntmps30]; decide) hv

/-- 'trystlaw10.awake' -/
def M33 : MC := (.seq (.reg [⟨(some 0), none, (.q (.mv (.c (.bool false))))⟩] [] [] []) (.seq (.reg [⟨(some 18), none, (.q (.mk [(.pv (.sc (.string ⟨#[]⟩))), (.pv (.sc (.int .i64 0))),
  (.pv (.sc (.int .i64 0))), (.pv (.sc (.int .i64 0)))] [(0, 1, (.c (.string ⟨#[97, 108, 108]⟩))), (1, 1, (.c (.int .i64 2))), (3, 1, (.c (.int .i64 9)))]))⟩, ⟨(some 1), none,
  (.alloc [(.pv (.sc (.string ⟨#[]⟩))), (.pv (.sc (.int .i64 0))), (.pv (.sc (.int .i64 0))), (.pv (.sc (.int .i64 0)))])⟩, ⟨none, none, (.st (.t 1) (.t 18) 4)⟩] [] [1] [1]) (.seq (.reg [⟨(some 20),
  none, (.q (.ld (.t 1) 4 true))⟩, ⟨(some 22), none, (.q (.mk [(.pv (.sc (.int .i64 0))), (.pv (.sc (.int .u64 0))), (.pv (.sc (.int .i64 0)))] [(1, 1, (.c (.int .u64 1)))]))⟩, ⟨(some 21), none,
  (.call (.f 42) [(.c (.int .i64 1))])⟩, ⟨(some 23), none, (.call (.f 30) [(.t 20), .nil, (.t 21), (.t 22)])⟩, ⟨(some 19), none, (.q (.mv (.t 23)))⟩, ⟨(some 24), none, (.q (.ext (.t 19) 0))⟩,
  ⟨(some 25), none, (.q (.ext (.t 19) 1))⟩, ⟨(some 26), none, (.q (.ext (.t 19) 2))⟩, ⟨(some 27), none, (.q (.ext (.t 19) 3))⟩, ⟨(some 2), none, (.q (.mv (.t 24)))⟩, ⟨(some 3), none,
  (.q (.mv (.t 25)))⟩, ⟨(some 4), none, (.q (.mv (.t 26)))⟩, ⟨(some 5), none, (.q (.mv (.t 27)))⟩] [] [1, 2, 5] [1, 1023]) (.seq (.reg [⟨(some 29), none, (.q (.ld (.t 1) 4 true))⟩, ⟨(some 30), none,
  (.q (.mv (.t 2)))⟩, ⟨(some 32), none, (.q (.mk [(.pv (.sc (.int .i64 0))), (.pv (.sc (.int .u64 0))), (.pv (.sc (.int .i64 0)))] [(1, 1, (.c (.int .u64 2)))]))⟩, ⟨(some 31), none, (.call (.f 42)
  [(.c (.int .i64 2))])⟩, ⟨(some 33), none, (.call (.f 30) [(.t 29), (.t 30), (.t 31), (.t 32)])⟩, ⟨(some 28), none, (.q (.mv (.t 33)))⟩, ⟨(some 34), none, (.q (.ext (.t 28) 0))⟩, ⟨(some 35), none,
  (.q (.ext (.t 28) 1))⟩, ⟨(some 36), none, (.q (.ext (.t 28) 2))⟩, ⟨(some 37), none, (.q (.ext (.t 28) 3))⟩, ⟨(some 6), none, (.q (.mv (.t 34)))⟩, ⟨(some 7), none, (.q (.mv (.t 35)))⟩, ⟨(some 8),
  none, (.q (.mv (.t 36)))⟩, ⟨(some 9), none, (.q (.mv (.t 37)))⟩] [] [1, 5, 6, 9] [1, 1023, 1033]) (.seq (.reg [⟨(some 39), none, (.q (.ld (.t 1) 4 true))⟩, ⟨(some 40), none, (.q (.mv (.t 6)))⟩,
  ⟨(some 42), none, (.q (.mk [(.pv (.sc (.int .i64 0))), (.pv (.sc (.int .u64 0))), (.pv (.sc (.int .i64 0)))] [(0, 1, (.c (.int .i64 1))), (1, 1, (.c (.int .u64 3)))]))⟩, ⟨(some 41), none,
  (.call (.f 42) [(.c (.int .i64 1))])⟩, ⟨(some 43), none, (.call (.f 30) [(.t 39), (.t 40), (.t 41), (.t 42)])⟩, ⟨(some 38), none, (.q (.mv (.t 43)))⟩, ⟨(some 44), none, (.q (.ext (.t 38) 0))⟩,
  ⟨(some 45), none, (.q (.ext (.t 38) 1))⟩, ⟨(some 46), none, (.q (.ext (.t 38) 2))⟩, ⟨(some 47), none, (.q (.ext (.t 38) 3))⟩, ⟨(some 10), none, (.q (.mv (.t 44)))⟩, ⟨(some 11), none,
  (.q (.mv (.t 45)))⟩, ⟨(some 12), none, (.q (.mv (.t 46)))⟩, ⟨(some 13), none, (.q (.mv (.t 47)))⟩] [] [1, 5, 6, 9, 10, 11, 13] [1, 1023, 1033, 1043]) (.seq (.reg [⟨(some 49), none, (.q (.ld (.t 1)
  4 true))⟩, ⟨(some 50), none, (.q (.mv (.t 10)))⟩, ⟨(some 52), none, (.q (.mk [(.pv (.sc (.int .i64 0))), (.pv (.sc (.int .u64 0))), (.pv (.sc (.int .i64 0)))] [(1, 1, (.c (.int .u64 2)))]))⟩,
  ⟨(some 51), none, (.call (.f 42) [(.c (.int .i64 7))])⟩, ⟨(some 53), none, (.call (.f 30) [(.t 49), (.t 50), (.t 51), (.t 52)])⟩, ⟨(some 48), none, (.q (.mv (.t 53)))⟩, ⟨(some 54), none,
  (.q (.ext (.t 48) 0))⟩, ⟨(some 55), none, (.q (.ext (.t 48) 1))⟩, ⟨(some 56), none, (.q (.ext (.t 48) 2))⟩, ⟨(some 57), none, (.q (.ext (.t 48) 3))⟩, ⟨(some 14), none, (.q (.mv (.t 54)))⟩,
  ⟨(some 15), none, (.q (.mv (.t 55)))⟩, ⟨(some 16), none, (.q (.mv (.t 56)))⟩, ⟨(some 17), none, (.q (.mv (.t 57)))⟩] [] [5, 6, 9, 10, 11, 13, 17] [1023, 1033, 1043, 1053]) (.seq (.reg [⟨(some 58),
  none, (.q (.mv (.t 5)))⟩, ⟨(some 59), none, (.q (.bin .eql (.t 58) (.c (.int .i64 0))))⟩, ⟨(some 60), none, (.q (.mv (.t 59)))⟩, ⟨(some 61), (some (60, true)), (.q (.mv (.t 9)))⟩, ⟨(some 62),
  (some (60, true)), (.q (.bin .eql (.t 61) (.c (.int .i64 0))))⟩, ⟨(some 63), none, (.q (.pick (.t 60) (.t 62) (.c (.bool false))))⟩, ⟨(some 64), none, (.q (.mv (.t 63)))⟩, ⟨(some 65), (some (64,
  true)), (.q (.mv (.t 13)))⟩, ⟨(some 66), (some (64, true)), (.q (.bin .eql (.t 65) (.c (.int .i64 0))))⟩, ⟨(some 67), none, (.q (.pick (.t 64) (.t 66) (.c (.bool false))))⟩, ⟨(some 68), none,
  (.q (.mv (.t 67)))⟩, ⟨(some 69), (some (68, true)), (.q (.mv (.t 6)))⟩, ⟨(some 70), (some (68, true)), (.q (.len (.t 69) false))⟩, ⟨(some 71), (some (68, true)), (.q (.bin .eql (.t 70)
  (.c (.int .i64 2))))⟩, ⟨(some 72), none, (.q (.pick (.t 68) (.t 71) (.c (.bool false))))⟩, ⟨(some 73), none, (.q (.mv (.t 72)))⟩, ⟨(some 74), (some (73, true)), (.q (.mv (.t 10)))⟩, ⟨(some 75),
  (some (73, true)), (.q (.len (.t 74) false))⟩, ⟨(some 76), (some (73, true)), (.q (.bin .eql (.t 75) (.c (.int .i64 1))))⟩, ⟨(some 77), none, (.q (.pick (.t 73) (.t 76) (.c (.bool false))))⟩,
  ⟨(some 78), none, (.q (.mv (.t 77)))⟩, ⟨(some 79), (some (78, true)), (.q (.mv (.t 11)))⟩, ⟨(some 80), (some (78, true)), (.q (.len (.t 79) false))⟩, ⟨(some 81), (some (78, true)),
  (.q (.bin .eql (.t 80) (.c (.int .i64 2))))⟩, ⟨(some 82), none, (.q (.pick (.t 78) (.t 81) (.c (.bool false))))⟩, ⟨(some 83), none, (.q (.mv (.t 82)))⟩, ⟨(some 84), (some (83, true)),
  (.q (.mv (.t 17)))⟩, ⟨(some 85), (some (83, true)), (.q (.bin .eql (.t 84) (.c (.int .i64 5))))⟩, ⟨(some 86), none, (.q (.pick (.t 83) (.t 85) (.c (.bool false))))⟩, ⟨(some 87), none,
  (.q (.mv (.t 86)))⟩, ⟨(some 88), none, (.q (.pick (.t 87) (.c (.bool true)) (.c (.bool false))))⟩, ⟨(some 0), none, (.q (.mv (.t 88)))⟩] [] [0] [1023, 1033, 1043, 1053]) .ret)))))))
theorem mc33 : ofCode Try.prog [] Try.f33.ntmps [(0, ⟨[], [], [], 0, [], none⟩),
    (1, ⟨[1], [1], [], 0, [], none⟩),
    (2, ⟨[1, 2, 5], [1, 1023], [(0, 8185), (2, 8188), (1, 0), (3, 0), (4, 8176), (5, 7712), (6, 7232), (7, 6272), (8, 4352), (9, 7680), (10, 7168), (11, 6144), (12, 4096)], 8191, [], none⟩),
    (3, ⟨[1, 5, 6, 9], [1, 1023, 1033], [(0, 16369), (1, 16370), (3, 16376), (2, 0), (4, 0), (5, 16352), (6, 15424), (7, 14464), (8, 12544), (9, 8704), (10, 15360), (11, 14336), (12, 12288), (13, 8192)], 16383, [], none⟩),
    (4, ⟨[1, 5, 6, 9, 10, 11, 13], [1, 1023, 1033, 1043], [(0, 16369), (1, 16370), (3, 16376), (2, 0), (4, 0), (5, 16352), (6, 15424), (7, 14464), (8, 12544), (9, 8704), (10, 15360), (11, 14336), (12, 12288), (13, 8192)], 16383, [], none⟩),
    (5, ⟨[5, 6, 9, 10, 11, 13, 17], [1023, 1033, 1043, 1053], [(0, 16369), (1, 16370), (3, 16376), (2, 0), (4, 0), (5, 16352), (6, 15424), (7, 14464), (8, 12544), (9, 8704), (10, 15360), (11, 14336), (12, 12288), (13, 8192)], 16383, [], none⟩),
    (6, ⟨[0], [1023, 1033, 1043, 1053], [], 0, [], none⟩)] (Try.f33.body.getD .skip) = some M33 := by kernel_rfl
theorem Run33 {args : List PV} {v : AV} {rs : List (Nat × List PV)} (ids : List Bool) (h : args.length ≤ 89) (hv : run Try.prog (retK [RV.tmp 0] ids v rs) M33 [] ⟨entry 0 args, []⟩) : Fn Try.prog 33 args v rs :=
  Fn_run ids (by kernel_rfl) Try.func33 (by decide) rfl mc33 (by kernel_rfl) (by rw [Try.ntmps33]; exact h) (by rw [Try.ntmps33]; decide) hv

/-- 'trystref10.Feed' -/
def B36_0 : MC := (.seq (.seq (.reg [⟨(some 34), none, (.q (.mv (.t 13)))⟩, ⟨(some 35), none, (.q (.mv (.t 12)))⟩, ⟨(some 36), none, (.q (.len (.t 35) false))⟩, ⟨(some 37), none,
  (.q (.bin .lss (.t 34) (.t 36)))⟩] [] [1, 4, 6, 7, 12, 13, 37] [4, 6, 7, 1033]) (.cond (.t 37) .skip (.exit 0))) (.seq (.block 1 (.seq (.reg [⟨(some 40), none, (.q (.mv (.t 12)))⟩, ⟨(some 41), none,
  (.q (.mv (.t 13)))⟩, ⟨(some 42), none, (.q (.ia (.t 40) (.t 41) 3))⟩, ⟨(some 43), none, (.q (.fa (.t 42) 1))⟩, ⟨(some 44), none, (.q (.ld (.t 43) 1 false))⟩, ⟨(some 45), none, (.q (.fa (.t 7) 1))⟩,
  ⟨(some 46), none, (.q (.ld (.t 45) 1 false))⟩, ⟨(some 47), none, (.q (.bin .eql (.t 44) (.t 46)))⟩] [] [1, 4, 6, 7, 12, 13, 47] [4, 6, 7, 1033]) (.cond (.t 47) (.seq (.reg [⟨(some 8), none,
  (.q (.mv .nil))⟩, ⟨(some 9), none, (.q (.mv .nil))⟩, ⟨(some 10), none, (.q (.mv .nil))⟩, ⟨(some 11), none, (.q (.mv (.c (.int .i64 5))))⟩] [] [8, 9, 10, 11] [102, 111, 132, 1062, 2020]) .ret)
  .skip))) (.reg [⟨(some 38), none, (.q (.mv (.t 13)))⟩, ⟨(some 39), none, (.q (.bin .add (.t 38) (.c (.int .i64 1))))⟩, ⟨(some 13), none, (.q (.mv (.t 39)))⟩] [] [1, 4, 6, 7, 12, 13] [4, 6, 7,
  1033])))
def B36_1 : MC := (.seq (.seq (.reg [⟨(some 82), none, (.q (.mv (.t 21)))⟩, ⟨(some 83), none, (.q (.mv (.t 1)))⟩, ⟨(some 84), none, (.q (.len (.t 83) false))⟩, ⟨(some 85), none, (.q (.bin .lss (.t 82)
  (.t 84)))⟩] [] [1, 6, 16, 17, 18, 20, 21, 85] [6, 102, 111, 132, 1062, 2020]) (.cond (.t 85) .skip (.exit 2))) (.seq (.block 3 (.seq (.reg [⟨(some 88), none, (.q (.mv (.t 1)))⟩, ⟨(some 89), none,
  (.q (.mv (.t 21)))⟩, ⟨(some 90), none, (.q (.ia (.t 88) (.t 89) 4))⟩, ⟨(some 91), none, (.q (.fa (.t 90) 0))⟩, ⟨(some 92), none, (.q (.ld (.t 91) 3 true))⟩, ⟨(some 93), none, (.q (.ld (.t 6)
  3 true))⟩, ⟨(some 94), none, (.call (.f 55) [(.t 92), (.t 93)])⟩, ⟨(some 95), none, (.q (.bin .lss (.t 94) (.c (.int .i64 0))))⟩] [] [1, 6, 16, 17, 18, 20, 21, 95] [6, 102, 111, 132, 1062, 1094,
  2020]) (.cond (.t 95) (.reg [⟨(some 96), none, (.q (.mv (.t 20)))⟩, ⟨(some 97), none, (.q (.mv (.t 1)))⟩, ⟨(some 98), none, (.q (.mv (.t 21)))⟩, ⟨(some 99), none, (.q (.ia (.t 97) (.t 98) 4))⟩,
  ⟨(some 100), none, (.q (.ld (.t 99) 4 true))⟩, ⟨(some 101), none, (.lits [(.t 100)] 4)⟩, ⟨(some 102), none, (.app (.t 96) (.t 101) 4 56)⟩, ⟨(some 20), none, (.q (.mv (.t 102)))⟩] [] [1, 6, 16, 17,
  18, 20, 21] [6, 102, 111, 132, 1062, 2020]) .skip))) (.reg [⟨(some 86), none, (.q (.mv (.t 21)))⟩, ⟨(some 87), none, (.q (.bin .add (.t 86) (.c (.int .i64 1))))⟩, ⟨(some 21), none,
  (.q (.mv (.t 87)))⟩] [] [1, 6, 16, 17, 18, 20, 21] [6, 102, 111, 132, 1062, 2020])))
def B36_2 : MC := (.seq (.seq (.reg [⟨(some 112), none, (.q (.mv (.t 22)))⟩, ⟨(some 113), none, (.q (.mv (.t 1)))⟩, ⟨(some 114), none, (.q (.len (.t 113) false))⟩, ⟨(some 115), none,
  (.q (.bin .lss (.t 112) (.t 114)))⟩] [] [1, 6, 17, 18, 20, 22, 115] [6, 102, 111, 132, 1062, 2020]) (.cond (.t 115) .skip (.exit 4))) (.seq (.block 5 (.seq (.reg [⟨(some 118), none,
  (.q (.mv (.t 1)))⟩, ⟨(some 119), none, (.q (.mv (.t 22)))⟩, ⟨(some 120), none, (.q (.ia (.t 118) (.t 119) 4))⟩, ⟨(some 121), none, (.q (.fa (.t 120) 0))⟩, ⟨(some 122), none, (.q (.ld (.t 121)
  3 true))⟩, ⟨(some 123), none, (.q (.ld (.t 6) 3 true))⟩, ⟨(some 124), none, (.call (.f 55) [(.t 122), (.t 123)])⟩, ⟨(some 125), none, (.q (.bin .gtr (.t 124) (.c (.int .i64 0))))⟩] [] [1, 6, 17, 18,
  20, 22, 125] [6, 102, 111, 132, 1062, 1124, 2020]) (.cond (.t 125) (.reg [⟨(some 126), none, (.q (.mv (.t 20)))⟩, ⟨(some 127), none, (.q (.mv (.t 1)))⟩, ⟨(some 128), none, (.q (.mv (.t 22)))⟩,
  ⟨(some 129), none, (.q (.ia (.t 127) (.t 128) 4))⟩, ⟨(some 130), none, (.q (.ld (.t 129) 4 true))⟩, ⟨(some 131), none, (.lits [(.t 130)] 4)⟩, ⟨(some 132), none, (.app (.t 126) (.t 131) 4 56)⟩,
  ⟨(some 20), none, (.q (.mv (.t 132)))⟩] [] [1, 6, 17, 18, 20, 22] [6, 102, 111, 132, 1062, 2020]) .skip))) (.reg [⟨(some 116), none, (.q (.mv (.t 22)))⟩, ⟨(some 117), none, (.q (.bin .add (.t 116)
  (.c (.int .i64 1))))⟩, ⟨(some 22), none, (.q (.mv (.t 117)))⟩] [] [1, 6, 17, 18, 20, 22] [6, 102, 111, 132, 1062, 2020])))
def R36_2 : MC := (.seq (.reg [⟨(some 133), none, (.q (.mv (.t 20)))⟩, ⟨(some 134), none, (.q (.mv (.t 17)))⟩, ⟨(some 135), none, (.q (.mv (.t 18)))⟩, ⟨(some 8), none, (.q (.mv (.t 133)))⟩, ⟨(some 9),
  none, (.q (.mv (.t 134)))⟩, ⟨(some 10), none, (.q (.mv (.t 135)))⟩, ⟨(some 11), none, (.q (.mv (.c (.int .i64 0))))⟩] [] [8, 9, 10, 11] [102, 111, 132, 1062, 2020]) .ret)
def R36_1 : MC := (.seq (.seq (.reg [⟨(some 103), none, (.q (.mv (.t 16)))⟩, ⟨(some 104), none, (.q (.len (.t 103) false))⟩, ⟨(some 105), none, (.q (.bin .gtr (.t 104) (.c (.int .i64 0))))⟩] [] [1, 6,
  16, 17, 18, 20, 105] [6, 102, 111, 132, 1062, 2020]) (.cond (.t 105) (.reg [⟨(some 106), none, (.q (.mv (.t 20)))⟩, ⟨(some 107), none, (.q (.ld (.t 6) 3 true))⟩, ⟨(some 108), none,
  (.q (.mv (.t 16)))⟩, ⟨(some 109), none, (.q (.mk [(.pv (.sc (.bool false))), (.pv (.sc (.int .i64 0))), (.pv (.sc (.string ⟨#[]⟩))), .e0] [(0, 3, (.t 107)), (3, 1, (.t 108))]))⟩, ⟨(some 110), none,
  (.lits [(.t 109)] 4)⟩, ⟨(some 111), none, (.app (.t 106) (.t 110) 4 56)⟩, ⟨(some 20), none, (.q (.mv (.t 111)))⟩] [] [1, 6, 17, 18, 20] [6, 102, 111, 132, 1062, 2020]) .skip))
  (.seq (.seq (.reg [⟨(some 22), none, (.q (.mv (.c (.int .i64 0))))⟩] [] [1, 6, 17, 18, 20, 22] [6, 102, 111, 132, 1062, 2020]) (.block 4 (.loop B36_2))) R36_2))
def R36_0 : MC := (.seq (.reg [⟨(some 14), none, (.q (.mv .nil))⟩] [(14, 15, 0)] [1, 4, 6, 7, 14] [4, 6, 7]) (.seq (.reg [⟨(some 48), none, (.q (.mv (.t 1)))⟩, ⟨(some 49), none, (.q (.ld (.t 6)
  3 true))⟩, ⟨(some 50), none, (.call (.f 40) [(.t 48), (.t 49)])⟩, ⟨(some 15), none, (.q (.mv (.t 50)))⟩] [] [1, 4, 6, 7, 14, 15] [4, 6, 7, 1050]) (.seq (.seq (.reg [⟨(some 51), none,
  (.q (.mv (.t 15)))⟩, ⟨(some 52), none, (.q (.bin .geq (.t 51) (.c (.int .i64 0))))⟩] [] [1, 4, 6, 7, 14, 15, 52] [4, 6, 7, 1050]) (.cond (.t 52) (.reg [⟨(some 53), none, (.q (.mv (.t 1)))⟩,
  ⟨(some 54), none, (.q (.mv (.t 15)))⟩, ⟨(some 55), none, (.q (.ia (.t 53) (.t 54) 4))⟩, ⟨(some 56), none, (.q (.fa (.t 55) 3))⟩, ⟨(some 57), none, (.q (.ld (.t 56) 1 false))⟩, ⟨(some 14), none,
  (.q (.mv (.t 57)))⟩] [] [1, 4, 6, 7, 14, 15] [4, 6, 7, 1050]) .skip)) (.seq (.reg [⟨(some 59), none, (.q (.ld (.t 4) 4 true))⟩, ⟨(some 60), none, (.q (.mv (.t 14)))⟩, ⟨(some 61), none,
  (.q (.ld (.t 7) 3 true))⟩, ⟨(some 62), none, (.call (.f 20) [(.t 59), (.t 60), (.t 61)])⟩, ⟨(some 58), none, (.q (.mv (.t 62)))⟩, ⟨(some 63), none, (.q (.ext (.t 58) 0))⟩, ⟨(some 64), none,
  (.q (.ext (.t 58) 1))⟩, ⟨(some 65), none, (.q (.ext (.t 58) 2))⟩, ⟨(some 66), none, (.q (.ext (.t 58) 3))⟩, ⟨(some 16), none, (.q (.mv (.t 63)))⟩, ⟨(some 17), none, (.q (.mv (.t 64)))⟩, ⟨(some 18),
  none, (.q (.mv (.t 65)))⟩, ⟨(some 19), none, (.q (.mv (.t 66)))⟩] [] [1, 6, 15, 16, 17, 18, 19] [6, 1050, 1062]) (.seq (.seq (.reg [⟨(some 67), none, (.q (.mv (.t 19)))⟩, ⟨(some 68), none,
  (.q (.bin .neq (.t 67) (.c (.int .i64 0))))⟩] [] [1, 6, 15, 16, 17, 18, 19, 68] [6, 1050, 1062]) (.cond (.t 68) (.seq (.reg [⟨(some 69), none, (.q (.mv (.t 19)))⟩, ⟨(some 8), none, (.q (.mv .nil))⟩,
  ⟨(some 9), none, (.q (.mv .nil))⟩, ⟨(some 10), none, (.q (.mv .nil))⟩, ⟨(some 11), none, (.q (.mv (.t 69)))⟩] [] [8, 9, 10, 11] [102, 111, 132, 1062, 2020]) .ret) .skip))
  (.seq (.seq (.reg [⟨(some 70), none, (.q (.mv (.t 15)))⟩, ⟨(some 71), none, (.q (.bin .lss (.t 70) (.c (.int .i64 0))))⟩, ⟨(some 72), none, (.q (.mv (.t 71)))⟩, ⟨(some 73), (some (72, true)),
  (.q (.mv (.t 16)))⟩, ⟨(some 74), (some (72, true)), (.q (.len (.t 73) false))⟩, ⟨(some 75), (some (72, true)), (.q (.bin .gtr (.t 74) (.c (.int .i64 0))))⟩, ⟨(some 76), none, (.q (.pick (.t 72)
  (.t 75) (.c (.bool false))))⟩, ⟨(some 77), none, (.q (.mv (.t 76)))⟩, ⟨(some 78), (some (77, true)), (.q (.mv (.t 1)))⟩, ⟨(some 79), (some (77, true)), (.q (.len (.t 78) false))⟩, ⟨(some 80),
  (some (77, true)), (.q (.bin .geq (.t 79) (.c (.int .i64 40))))⟩, ⟨(some 81), none, (.q (.pick (.t 77) (.t 80) (.c (.bool false))))⟩] [] [1, 6, 16, 17, 18, 81] [6, 1050, 1062]) (.cond (.t 81)
  (.seq (.reg [⟨(some 8), none, (.q (.mv .nil))⟩, ⟨(some 9), none, (.q (.mv .nil))⟩, ⟨(some 10), none, (.q (.mv .nil))⟩, ⟨(some 11), none, (.q (.mv (.c (.int .i64 6))))⟩] [] [8, 9, 10, 11] [102, 111,
  132, 1062, 2020]) .ret) .skip)) (.seq (.reg [⟨(some 20), none, (.q (.mv .nil))⟩] [(20, 2020, 4)] [1, 6, 16, 17, 18, 20] [6, 102, 111, 132, 1062, 2020]) (.seq (.seq (.reg [⟨(some 21), none,
  (.q (.mv (.c (.int .i64 0))))⟩] [] [1, 6, 16, 17, 18, 20, 21] [6, 102, 111, 132, 1062, 2020]) (.block 2 (.loop B36_1))) R36_1))))))))
def M36 : MC := (.seq (.reg [⟨(some 4), none, (.box (.t 0))⟩, ⟨(some 6), none, (.box (.t 2))⟩, ⟨(some 7), none, (.box (.t 3))⟩, ⟨(some 8), none, (.q (.mv .nil))⟩, ⟨(some 9), none, (.q (.mv .nil))⟩,
  ⟨(some 10), none, (.q (.mv .nil))⟩, ⟨(some 11), none, (.q (.mv (.c (.int .i64 0))))⟩] [] [1, 4, 6, 7] [4, 6, 7]) (.seq (.seq (.reg [⟨(some 23), none, (.q (.ld (.t 4) 4 true))⟩, ⟨(some 24), none,
  (.q (.mv (.t 1)))⟩, ⟨(some 25), none, (.call (.f 38) [(.t 23), (.t 24)])⟩, ⟨(some 26), none, (.q (.not (.t 25)))⟩, ⟨(some 27), none, (.q (.mv (.t 26)))⟩, ⟨(some 28), (some (27, false)),
  (.q (.ld (.t 6) 3 true))⟩, ⟨(some 29), (some (27, false)), (.call (.f 31) [(.t 28)])⟩, ⟨(some 30), (some (27, false)), (.q (.not (.t 29)))⟩, ⟨(some 31), none, (.q (.pick (.t 27) (.c (.bool true))
  (.t 30)))⟩] [] [1, 4, 6, 7, 31] [4, 6, 7, 1025, 1029]) (.cond (.t 31) (.seq (.reg [⟨(some 8), none, (.q (.mv .nil))⟩, ⟨(some 9), none, (.q (.mv .nil))⟩, ⟨(some 10), none, (.q (.mv .nil))⟩,
  ⟨(some 11), none, (.q (.mv (.c (.int .i64 1))))⟩] [] [8, 9, 10, 11] [102, 111, 132, 1062, 2020]) .ret) .skip)) (.seq (.reg [⟨(some 32), none, (.q (.mv (.t 1)))⟩, ⟨(some 33), none, (.call (.f 32)
  [(.t 32)])⟩, ⟨(some 12), none, (.q (.mv (.t 33)))⟩] [] [1, 4, 6, 7, 12] [4, 6, 7, 1033]) (.seq (.seq (.reg [⟨(some 13), none, (.q (.mv (.c (.int .i64 0))))⟩] [] [1, 4, 6, 7, 12, 13] [4, 6, 7, 1033])
  (.block 0 (.loop B36_0))) R36_0))))
theorem mc36 : ofCode Try.prog [] Try.f36.ntmps [(0, ⟨[1, 4, 6, 7], [4, 6, 7], [], 0, [], none⟩),
    (1, ⟨[1, 4, 6, 7, 31], [4, 6, 7, 1025, 1029], [], 0, [], none⟩),
    (2, ⟨[8, 9, 10, 11], [102, 111, 132, 1062, 2020], [], 0, [], none⟩),
    (3, ⟨[1, 4, 6, 7, 12], [4, 6, 7, 1033], [], 0, [], none⟩),
    (4, ⟨[1, 4, 6, 7, 12, 13], [4, 6, 7, 1033], [], 0, [], none⟩),
    (5, ⟨[1, 4, 6, 7, 12, 13, 37], [4, 6, 7, 1033], [], 0, [], none⟩),
    (6, ⟨[1, 4, 6, 7, 12, 13], [4, 6, 7, 1033], [], 0, [], none⟩),
    (7, ⟨[1, 4, 6, 7, 12, 13, 47], [4, 6, 7, 1033], [(0, 157), (1, 158), (2, 156), (3, 152), (4, 144), (5, 224), (6, 192), (7, 128)], 255, [], none⟩),
    (8, ⟨[8, 9, 10, 11], [102, 111, 132, 1062, 2020], [], 0, [], none⟩),
    (9, ⟨[1, 4, 6, 7, 14], [4, 6, 7], [], 0, [(14, 15, 0)], none⟩),
    (10, ⟨[1, 4, 6, 7, 14, 15], [4, 6, 7, 1050], [], 0, [], none⟩),
    (11, ⟨[1, 4, 6, 7, 14, 15, 52], [4, 6, 7, 1050], [], 0, [], none⟩),
    (12, ⟨[1, 4, 6, 7, 14, 15], [4, 6, 7, 1050], [], 0, [], none⟩),
    (13, ⟨[1, 6, 15, 16, 17, 18, 19], [6, 1050, 1062], [], 0, [], none⟩),
    (14, ⟨[1, 6, 15, 16, 17, 18, 19, 68], [6, 1050, 1062], [], 0, [], none⟩),
    (15, ⟨[8, 9, 10, 11], [102, 111, 132, 1062, 2020], [], 0, [], none⟩),
    (16, ⟨[1, 6, 16, 17, 18, 81], [6, 1050, 1062], [], 0, [], none⟩),
    (17, ⟨[8, 9, 10, 11], [102, 111, 132, 1062, 2020], [], 0, [], none⟩),
    (18, ⟨[1, 6, 16, 17, 18, 20], [6, 102, 111, 132, 1062, 2020], [], 0, [(20, 2020, 4)], none⟩),
    (19, ⟨[1, 6, 16, 17, 18, 20, 21], [6, 102, 111, 132, 1062, 2020], [], 0, [], none⟩),
    (20, ⟨[1, 6, 16, 17, 18, 20, 21, 85], [6, 102, 111, 132, 1062, 2020], [], 0, [], none⟩),
    (21, ⟨[1, 6, 16, 17, 18, 20, 21], [6, 102, 111, 132, 1062, 2020], [], 0, [], none⟩),
    (22, ⟨[1, 6, 16, 17, 18, 20, 21, 95], [6, 102, 111, 132, 1062, 1094, 2020], [(0, 221), (1, 222), (2, 220), (3, 216), (4, 208), (5, 224), (6, 0), (7, 128)], 255, [], none⟩),
    (23, ⟨[1, 6, 16, 17, 18, 20, 21], [6, 102, 111, 132, 1062, 2020], [], 0, [], none⟩),
    (24, ⟨[1, 6, 16, 17, 18, 20, 105], [6, 102, 111, 132, 1062, 2020], [], 0, [], none⟩),
    (25, ⟨[1, 6, 17, 18, 20], [6, 102, 111, 132, 1062, 2020], [], 0, [], none⟩),
    (26, ⟨[1, 6, 17, 18, 20, 22], [6, 102, 111, 132, 1062, 2020], [], 0, [], none⟩),
    (27, ⟨[1, 6, 17, 18, 20, 22, 115], [6, 102, 111, 132, 1062, 2020], [], 0, [], none⟩),
    (28, ⟨[1, 6, 17, 18, 20, 22], [6, 102, 111, 132, 1062, 2020], [], 0, [], none⟩),
    (29, ⟨[1, 6, 17, 18, 20, 22, 125], [6, 102, 111, 132, 1062, 1124, 2020], [(0, 221), (1, 222), (2, 220), (3, 216), (4, 208), (5, 224), (6, 0), (7, 128)], 255, [], none⟩),
    (30, ⟨[1, 6, 17, 18, 20, 22], [6, 102, 111, 132, 1062, 2020], [], 0, [], none⟩),
    (31, ⟨[8, 9, 10, 11], [102, 111, 132, 1062, 2020], [], 0, [], none⟩)] (Try.f36.body.getD .skip) = some M36 := by kernel_rfl
theorem Run36 {args : List PV} {v : AV} {rs : List (Nat × List PV)} (ids : List Bool) (h : args.length ≤ 136) (hv : run Try.prog (retK [RV.tmp 8, RV.tmp 9, RV.tmp 10, RV.tmp 11] ids v rs) M36 [] ⟨entry 0 args, []⟩) : Fn Try.prog 36 args v rs :=
  Fn_run ids (by kernel_rfl) Try.func36 (by decide) rfl mc36 (by kernel_rfl) (by rw [Try.ntmps36]; exact h) (by rw [Try.ntmps36]; decide) hv

/-- 'inst.Check' -/
def B37_1 : MC := (.seq (.reg [⟨(some 63), none, (.q (.bin .lss (.t 62) (.t 61)))⟩] [] [1, 2, 5, 6, 21, 22, 23, 60, 61, 62, 63] [2, 20]) (.seq (.cond (.t 63) .skip (.exit 2))
  (.seq (.block 3 (.seq (.reg [⟨(some 64), none, (.q (.ia (.t 60) (.t 62) 3))⟩, ⟨(some 65), none, (.q (.ld (.t 64) 3 true))⟩, ⟨(some 9), none, (.alloc [(.pv (.sc (.int .i64 0))),
  (.pv (.sc (.int .u64 0))), (.pv (.sc (.int .i64 0)))])⟩, ⟨none, none, (.st (.t 9) (.t 65) 3)⟩] [] [1, 2, 5, 6, 9, 21, 22, 23, 60, 61, 62] [2, 9, 20]) (.seq (.seq (.reg [⟨(some 67), none,
  (.q (.mv (.t 5)))⟩, ⟨(some 68), none, (.q (.fa (.t 9) 1))⟩, ⟨(some 69), none, (.q (.ld (.t 68) 1 false))⟩, ⟨(some 70), none, (.q (.mget (.t 67) (.t 69) true Kk.int (.pv (.sc (.int .i64 0)))))⟩,
  ⟨(some 66), none, (.q (.mv (.t 70)))⟩, ⟨(some 71), none, (.q (.ext (.t 66) 0))⟩, ⟨(some 72), none, (.q (.ext (.t 66) 1))⟩, ⟨(some 10), none, (.q (.mv (.t 71)))⟩, ⟨(some 11), none,
  (.q (.mv (.t 72)))⟩] [] [1, 2, 5, 6, 9, 11, 21, 22, 23, 60, 61, 62] [2, 9, 20]) (.seq (.reg [⟨(some 73), none, (.q (.mv (.t 11)))⟩] [] [1, 2, 5, 6, 9, 21, 22, 23, 60, 61, 62, 73] [2, 9, 20])
  (.cond (.t 73) (.seq (.reg [⟨(some 4), none, (.q (.mv (.c (.int .i64 1))))⟩] [] [4] []) .ret) .skip))) (.reg [⟨(some 74), none, (.q (.mv (.t 5)))⟩, ⟨(some 75), none, (.q (.fa (.t 9) 1))⟩,
  ⟨(some 76), none, (.q (.ld (.t 75) 1 false))⟩, ⟨(some 77), none, (.q (.mv (.t 6)))⟩, ⟨none, none, (.mset (.t 74) (.t 76) (.t 77) Kk.int)⟩] [] [1, 2, 5, 6, 21, 22, 23, 60, 61, 62] [2, 20]))))
  (.reg [⟨(some 78), none, (.q (.bin .add (.t 62) (.c (.int .i64 1))))⟩, ⟨(some 62), none, (.q (.mv (.t 78)))⟩] [] [1, 2, 5, 6, 21, 22, 23, 60, 61, 62] [2, 20]))))
def B37_0 : MC := (.seq (.reg [⟨(some 24), none, (.q (.bin .lss (.t 23) (.t 22)))⟩] [] [1, 2, 5, 21, 22, 23, 24] [2, 20]) (.seq (.cond (.t 24) .skip (.exit 0)) (.seq (.block 1 (.seq (.reg [⟨(some 25),
  none, (.q (.mv (.t 23)))⟩, ⟨(some 26), none, (.q (.ia (.t 21) (.t 23) 4))⟩, ⟨(some 27), none, (.q (.ld (.t 26) 4 true))⟩, ⟨(some 7), none, (.alloc [(.pv (.sc (.bool false))),
  (.pv (.sc (.int .i64 0))), (.pv (.sc (.string ⟨#[]⟩))), .e0])⟩, ⟨(some 6), none, (.q (.mv (.t 25)))⟩, ⟨none, none, (.st (.t 7) (.t 27) 4)⟩] [] [1, 2, 5, 6, 7, 21, 22, 23] [2, 7, 20])
  (.seq (.seq (.reg [⟨(some 28), none, (.q (.fa (.t 7) 0))⟩, ⟨(some 29), none, (.q (.ld (.t 28) 3 true))⟩, ⟨(some 30), none, (.call (.f 52) [(.t 29)])⟩, ⟨(some 31), none, (.q (.not (.t 30)))⟩,
  ⟨(some 32), none, (.q (.mv (.t 31)))⟩, ⟨(some 33), (some (32, false)), (.q (.mv (.t 6)))⟩, ⟨(some 34), (some (32, false)), (.q (.bin .gtr (.t 33) (.c (.int .i64 0))))⟩, ⟨(some 35), (some (32,
  false)), (.q (.mv (.t 34)))⟩, ⟨(some 36), (some (35, true)), (.q (.mv (.t 1)))⟩, ⟨(some 37), (some (35, true)), (.q (.mv (.t 6)))⟩, ⟨(some 38), (some (35, true)), (.q (.bin .sub (.t 37)
  (.c (.int .i64 1))))⟩, ⟨(some 39), (some (35, true)), (.q (.ia (.t 36) (.t 38) 4))⟩, ⟨(some 40), (some (35, true)), (.q (.fa (.t 39) 0))⟩, ⟨(some 41), (some (35, true)), (.q (.ld (.t 40) 3 true))⟩,
  ⟨(some 42), (some (35, true)), (.q (.fa (.t 7) 0))⟩, ⟨(some 43), (some (35, true)), (.q (.ld (.t 42) 3 true))⟩, ⟨(some 44), (some (35, true)), (.call (.f 56) [(.t 41), (.t 43)])⟩, ⟨(some 45),
  (some (35, true)), (.q (.bin .geq (.t 44) (.c (.int .i64 0))))⟩, ⟨(some 46), (some (32, false)), (.q (.pick (.t 35) (.t 45) (.c (.bool false))))⟩, ⟨(some 47), none, (.q (.pick (.t 32)
  (.c (.bool true)) (.t 46)))⟩] [] [1, 2, 5, 6, 7, 21, 22, 23, 47] [2, 7, 20, 1030, 1044]) (.cond (.t 47) (.seq (.reg [⟨(some 4), none, (.q (.mv (.c (.int .i64 1))))⟩] [] [4] []) .ret) .skip))
  (.seq (.seq (.reg [⟨(some 48), none, (.q (.fa (.t 7) 3))⟩, ⟨(some 49), none, (.q (.ld (.t 48) 1 false))⟩, ⟨(some 50), none, (.q (.len (.t 49) false))⟩, ⟨(some 51), none, (.q (.bin .eql (.t 50)
  (.c (.int .i64 0))))⟩, ⟨(some 52), none, (.q (.mv (.t 51)))⟩, ⟨(some 53), (some (52, false)), (.q (.ld (.t 2) 4 true))⟩, ⟨(some 54), (some (52, false)), (.q (.fa (.t 7) 3))⟩, ⟨(some 55), (some (52,
  false)), (.q (.ld (.t 54) 1 false))⟩, ⟨(some 56), (some (52, false)), (.call (.f 24) [(.t 53), (.t 55)])⟩, ⟨(some 57), (some (52, false)), (.q (.bin .neq (.t 56) (.c (.int .i64 0))))⟩, ⟨(some 58),
  none, (.q (.pick (.t 52) (.c (.bool true)) (.t 57)))⟩] [] [1, 2, 5, 6, 7, 21, 22, 23, 58] [2, 7, 20, 1056]) (.cond (.t 58) (.seq (.reg [⟨(some 4), none, (.q (.mv (.c (.int .i64 1))))⟩] [] [4] [])
  .ret) .skip)) (.seq (.reg [⟨(some 59), none, (.q (.fa (.t 7) 3))⟩, ⟨(some 60), none, (.q (.ld (.t 59) 1 false))⟩, ⟨(some 61), none, (.q (.len (.t 60) false))⟩, ⟨(some 62), none,
  (.q (.mv (.c (.int .i64 0))))⟩] [] [1, 2, 5, 6, 21, 22, 23, 60, 61, 62] [2, 20]) (.block 2 (.loop B37_1))))))) (.reg [⟨(some 79), none, (.q (.bin .add (.t 23) (.c (.int .i64 1))))⟩, ⟨(some 23),
  none, (.q (.mv (.t 79)))⟩] [] [1, 2, 5, 21, 22, 23] [2, 20]))))
def R37_0 : MC := (.seq (.reg [⟨(some 4), none, (.q (.mv (.c (.int .i64 0))))⟩] [] [4] []) .ret)
def M37 : MC := (.seq (.reg [⟨(some 2), none, (.box (.t 0))⟩, ⟨(some 4), none, (.q (.mv (.c (.int .i64 0))))⟩] [] [1, 2] [2]) (.seq (.seq (.reg [⟨(some 12), none, (.q (.ld (.t 2) 4 true))⟩,
  ⟨(some 13), none, (.call (.f 22) [(.t 12)])⟩, ⟨(some 14), none, (.q (.not (.t 13)))⟩, ⟨(some 15), none, (.q (.mv (.t 14)))⟩, ⟨(some 16), (some (15, false)), (.q (.mv (.t 1)))⟩, ⟨(some 17),
  (some (15, false)), (.q (.len (.t 16) false))⟩, ⟨(some 18), (some (15, false)), (.q (.bin .gtr (.t 17) (.c (.int .i64 40))))⟩, ⟨(some 19), none, (.q (.pick (.t 15) (.c (.bool true))
  (.t 18)))⟩] [] [1, 2, 19] [2, 1013]) (.cond (.t 19) (.seq (.reg [⟨(some 4), none, (.q (.mv (.c (.int .i64 1))))⟩] [] [4] []) .ret) .skip)) (.seq (.reg [⟨(some 20), none, .mkm⟩, ⟨(some 5), none,
  (.q (.mv (.t 20)))⟩] [] [1, 2, 5] [2, 20]) (.seq (.seq (.reg [⟨(some 21), none, (.q (.mv (.t 1)))⟩, ⟨(some 22), none, (.q (.len (.t 21) false))⟩, ⟨(some 23), none,
  (.q (.mv (.c (.int .i64 0))))⟩] [] [1, 2, 5, 21, 22, 23] [2, 20]) (.block 0 (.loop B37_0))) R37_0))))
theorem mc37 : ofCode Try.prog [] Try.f37.ntmps [(0, ⟨[1, 2], [2], [], 0, [], none⟩),
    (1, ⟨[1, 2, 19], [2, 1013], [], 0, [], none⟩),
    (2, ⟨[4], [], [], 0, [], none⟩),
    (3, ⟨[1, 2, 5], [2, 20], [], 0, [], none⟩),
    (4, ⟨[1, 2, 5, 21, 22, 23], [2, 20], [], 0, [], none⟩),
    (5, ⟨[1, 2, 5, 21, 22, 23, 24], [2, 20], [], 0, [], none⟩),
    (6, ⟨[1, 2, 5, 6, 7, 21, 22, 23], [2, 7, 20], [], 0, [], none⟩),
    (7, ⟨[1, 2, 5, 6, 7, 21, 22, 23, 47], [2, 7, 20, 1030, 1044], [(0, 1048575), (1, 1048574), (2, 0), (3, 1048568), (4, 1048560), (5, 1048544), (6, 1048512), (7, 1048448), (8, 997632), (9, 998912), (10, 998400), (11, 997376), (12, 995328), (13, 991232), (14, 1032192), (15, 1015808), (16, 0), (17, 917504), (18, 786432), (19, 524288)], 1048575, [], none⟩),
    (8, ⟨[4], [], [], 0, [], none⟩),
    (9, ⟨[1, 2, 5, 6, 7, 21, 22, 23, 58], [2, 7, 20, 1056], [], 0, [], none⟩),
    (10, ⟨[4], [], [], 0, [], none⟩),
    (11, ⟨[1, 2, 5, 6, 21, 22, 23, 60, 61, 62], [2, 20], [], 0, [], none⟩),
    (12, ⟨[1, 2, 5, 6, 21, 22, 23, 60, 61, 62, 63], [2, 20], [], 0, [], none⟩),
    (13, ⟨[1, 2, 5, 6, 9, 21, 22, 23, 60, 61, 62], [2, 9, 20], [], 0, [], none⟩),
    (14, ⟨[1, 2, 5, 6, 9, 11, 21, 22, 23, 60, 61, 62], [2, 9, 20], [], 0, [], none⟩),
    (15, ⟨[1, 2, 5, 6, 9, 21, 22, 23, 60, 61, 62, 73], [2, 9, 20], [], 0, [], none⟩),
    (16, ⟨[4], [], [], 0, [], none⟩),
    (17, ⟨[1, 2, 5, 6, 21, 22, 23, 60, 61, 62], [2, 20], [], 0, [], none⟩),
    (18, ⟨[1, 2, 5, 6, 21, 22, 23, 60, 61, 62], [2, 20], [], 0, [], none⟩),
    (19, ⟨[1, 2, 5, 21, 22, 23], [2, 20], [], 0, [], none⟩),
    (20, ⟨[4], [], [], 0, [], none⟩)] (Try.f37.body.getD .skip) = some M37 := by kernel_rfl
theorem Run37 {args : List PV} {v : AV} {rs : List (Nat × List PV)} (ids : List Bool) (h : args.length ≤ 80) (hv : run Try.prog (retK [RV.tmp 4] ids v rs) M37 [] ⟨entry 0 args, []⟩) : Fn Try.prog 37 args v rs :=
  Fn_run ids (by kernel_rfl) Try.func37 (by decide) rfl mc37 (by kernel_rfl) (by rw [Try.ntmps37]; exact h) (by rw [Try.ntmps37]; decide) hv

/-- 'trystref10.May' -/
def B38_0 : MC := (.seq (.seq (.reg [⟨(some 9), none, (.q (.mv (.t 5)))⟩, ⟨(some 10), none, (.q (.mv (.t 1)))⟩, ⟨(some 11), none, (.q (.len (.t 10) false))⟩, ⟨(some 12), none, (.q (.bin .lss (.t 9)
  (.t 11)))⟩] [] [1, 2, 5, 12] [2]) (.cond (.t 12) .skip (.exit 0))) (.seq (.block 1 (.seq (.reg [⟨(some 15), none, (.q (.mv (.t 1)))⟩, ⟨(some 16), none, (.q (.mv (.t 5)))⟩, ⟨(some 17), none,
  (.q (.ia (.t 15) (.t 16) 4))⟩, ⟨(some 18), none, (.q (.fa (.t 17) 0))⟩, ⟨(some 19), none, (.q (.ld (.t 18) 3 true))⟩, ⟨(some 20), none, (.call (.f 31) [(.t 19)])⟩, ⟨(some 21), none,
  (.q (.not (.t 20)))⟩, ⟨(some 22), none, (.q (.mv (.t 21)))⟩, ⟨(some 23), (some (22, false)), (.q (.mv (.t 1)))⟩, ⟨(some 24), (some (22, false)), (.q (.mv (.t 5)))⟩, ⟨(some 25), (some (22, false)),
  (.q (.ia (.t 23) (.t 24) 4))⟩, ⟨(some 26), (some (22, false)), (.q (.fa (.t 25) 3))⟩, ⟨(some 27), (some (22, false)), (.q (.ld (.t 26) 1 false))⟩, ⟨(some 28), (some (22, false)), (.q (.len (.t 27)
  false))⟩, ⟨(some 29), (some (22, false)), (.q (.bin .eql (.t 28) (.c (.int .i64 0))))⟩, ⟨(some 30), none, (.q (.pick (.t 22) (.c (.bool true)) (.t 29)))⟩, ⟨(some 31), none, (.q (.mv (.t 30)))⟩,
  ⟨(some 32), (some (31, false)), (.q (.ld (.t 2) 4 true))⟩, ⟨(some 33), (some (31, false)), (.q (.mv (.t 1)))⟩, ⟨(some 34), (some (31, false)), (.q (.mv (.t 5)))⟩, ⟨(some 35), (some (31, false)),
  (.q (.ia (.t 33) (.t 34) 4))⟩, ⟨(some 36), (some (31, false)), (.q (.fa (.t 35) 3))⟩, ⟨(some 37), (some (31, false)), (.q (.ld (.t 36) 1 false))⟩, ⟨(some 38), (some (31, false)), (.call (.f 25)
  [(.t 32), (.t 37)])⟩, ⟨(some 39), (some (31, false)), (.q (.not (.t 38)))⟩, ⟨(some 40), none, (.q (.pick (.t 31) (.c (.bool true)) (.t 39)))⟩, ⟨(some 41), none, (.q (.mv (.t 40)))⟩, ⟨(some 42),
  (some (41, false)), (.q (.mv (.t 5)))⟩, ⟨(some 43), (some (41, false)), (.q (.bin .gtr (.t 42) (.c (.int .i64 0))))⟩, ⟨(some 44), (some (41, false)), (.q (.mv (.t 43)))⟩, ⟨(some 45), (some (44,
  true)), (.q (.mv (.t 1)))⟩, ⟨(some 46), (some (44, true)), (.q (.mv (.t 5)))⟩, ⟨(some 47), (some (44, true)), (.q (.bin .sub (.t 46) (.c (.int .i64 1))))⟩, ⟨(some 48), (some (44, true)),
  (.q (.ia (.t 45) (.t 47) 4))⟩, ⟨(some 49), (some (44, true)), (.q (.fa (.t 48) 0))⟩, ⟨(some 50), (some (44, true)), (.q (.ld (.t 49) 3 true))⟩, ⟨(some 51), (some (44, true)), (.q (.mv (.t 1)))⟩,
  ⟨(some 52), (some (44, true)), (.q (.mv (.t 5)))⟩, ⟨(some 53), (some (44, true)), (.q (.ia (.t 51) (.t 52) 4))⟩, ⟨(some 54), (some (44, true)), (.q (.fa (.t 53) 0))⟩, ⟨(some 55), (some (44, true)),
  (.q (.ld (.t 54) 3 true))⟩, ⟨(some 56), (some (44, true)), (.call (.f 55) [(.t 50), (.t 55)])⟩, ⟨(some 57), (some (44, true)), (.q (.bin .neq (.t 56) (.c (.int .i64 (-1)))))⟩, ⟨(some 58), (some (41,
  false)), (.q (.pick (.t 44) (.t 57) (.c (.bool false))))⟩, ⟨(some 59), none, (.q (.pick (.t 41) (.c (.bool true)) (.t 58)))⟩] [] [1, 2, 5, 59] [2, 1020, 1038, 1056]) (.cond (.t 59)
  (.seq (.reg [⟨(some 4), none, (.q (.mv (.c (.bool false))))⟩] [] [4] [1085]) .ret) .skip))) (.reg [⟨(some 13), none, (.q (.mv (.t 5)))⟩, ⟨(some 14), none, (.q (.bin .add (.t 13)
  (.c (.int .i64 1))))⟩, ⟨(some 5), none, (.q (.mv (.t 14)))⟩] [] [1, 2, 5] [2])))
def B38_2 : MC := (.seq (.seq (.reg [⟨(some 68), none, (.q (.mv (.t 8)))⟩, ⟨(some 69), none, (.q (.mv (.t 7)))⟩, ⟨(some 70), none, (.q (.bin .lss (.t 68) (.t 69)))⟩] [] [1, 2, 6, 7, 8, 70] [2, 1061])
  (.cond (.t 70) .skip (.exit 4))) (.seq (.block 5 (.seq (.reg [⟨(some 73), none, (.q (.mv (.t 6)))⟩, ⟨(some 74), none, (.q (.mv (.t 7)))⟩, ⟨(some 75), none, (.q (.ia (.t 73) (.t 74) 3))⟩, ⟨(some 76),
  none, (.q (.fa (.t 75) 1))⟩, ⟨(some 77), none, (.q (.ld (.t 76) 1 false))⟩, ⟨(some 78), none, (.q (.mv (.t 6)))⟩, ⟨(some 79), none, (.q (.mv (.t 8)))⟩, ⟨(some 80), none, (.q (.ia (.t 78) (.t 79)
  3))⟩, ⟨(some 81), none, (.q (.fa (.t 80) 1))⟩, ⟨(some 82), none, (.q (.ld (.t 81) 1 false))⟩, ⟨(some 83), none, (.q (.bin .eql (.t 77) (.t 82)))⟩] [] [1, 2, 6, 7, 8, 83] [2, 1061]) (.cond (.t 83)
  (.seq (.reg [⟨(some 4), none, (.q (.mv (.c (.bool false))))⟩] [] [4] [1085]) .ret) .skip))) (.reg [⟨(some 71), none, (.q (.mv (.t 8)))⟩, ⟨(some 72), none, (.q (.bin .add (.t 71)
  (.c (.int .i64 1))))⟩, ⟨(some 8), none, (.q (.mv (.t 72)))⟩] [] [1, 2, 6, 7, 8] [2, 1061])))
def B38_1 : MC := (.seq (.seq (.reg [⟨(some 62), none, (.q (.mv (.t 7)))⟩, ⟨(some 63), none, (.q (.mv (.t 6)))⟩, ⟨(some 64), none, (.q (.len (.t 63) false))⟩, ⟨(some 65), none, (.q (.bin .lss (.t 62)
  (.t 64)))⟩] [] [1, 2, 6, 7, 65] [2, 1061]) (.cond (.t 65) .skip (.exit 2))) (.seq (.block 3 (.seq (.reg [⟨(some 8), none, (.q (.mv (.c (.int .i64 0))))⟩] [] [1, 2, 6, 7, 8] [2, 1061])
  (.block 4 (.loop B38_2)))) (.reg [⟨(some 66), none, (.q (.mv (.t 7)))⟩, ⟨(some 67), none, (.q (.bin .add (.t 66) (.c (.int .i64 1))))⟩, ⟨(some 7), none, (.q (.mv (.t 67)))⟩] [] [1, 2, 6, 7] [2,
  1061])))
def R38_1 : MC := (.seq (.reg [⟨(some 84), none, (.q (.ld (.t 2) 4 true))⟩, ⟨(some 85), none, (.call (.f 23) [(.t 84)])⟩, ⟨(some 86), none, (.q (.mv (.t 85)))⟩, ⟨(some 87), (some (86, true)),
  (.q (.mv (.t 1)))⟩, ⟨(some 88), (some (86, true)), (.q (.len (.t 87) false))⟩, ⟨(some 89), (some (86, true)), (.q (.bin .leq (.t 88) (.c (.int .i64 40))))⟩, ⟨(some 90), none, (.q (.pick (.t 86)
  (.t 89) (.c (.bool false))))⟩, ⟨(some 4), none, (.q (.mv (.t 90)))⟩] [] [4] [1085]) .ret)
def R38_0 : MC := (.seq (.reg [⟨(some 60), none, (.q (.mv (.t 1)))⟩, ⟨(some 61), none, (.call (.f 32) [(.t 60)])⟩, ⟨(some 6), none, (.q (.mv (.t 61)))⟩] [] [1, 2, 6] [2, 1061])
  (.seq (.seq (.reg [⟨(some 7), none, (.q (.mv (.c (.int .i64 0))))⟩] [] [1, 2, 6, 7] [2, 1061]) (.block 2 (.loop B38_1))) R38_1))
def M38 : MC := (.seq (.reg [⟨(some 2), none, (.box (.t 0))⟩, ⟨(some 4), none, (.q (.mv (.c (.bool false))))⟩] [] [1, 2] [2]) (.seq (.seq (.reg [⟨(some 5), none, (.q (.mv (.c (.int .i64 0))))⟩] [] [1,
  2, 5] [2]) (.block 0 (.loop B38_0))) R38_0))
theorem mc38 : ofCode Try.prog [] Try.f38.ntmps [(0, ⟨[1, 2], [2], [], 0, [], none⟩),
    (1, ⟨[1, 2, 5], [2], [], 0, [], none⟩),
    (2, ⟨[1, 2, 5, 12], [2], [], 0, [], none⟩),
    (3, ⟨[1, 2, 5], [2], [], 0, [], none⟩),
    (4, ⟨[1, 2, 5, 59], [2, 1020, 1038, 1056], [(0, 35184372088829), (1, 35184372088830), (2, 35184372088828), (3, 35184372088824), (4, 35184372088816), (5, 0), (6, 35184372088768), (7, 35184372088704), (8, 35184372088064), (9, 35184372088320), (10, 35184372087808), (11, 35184372086784), (12, 35184372084736), (13, 35184372080640), (14, 35184372072448), (15, 35184372056064), (16, 35184372023296), (17, 35184363831296), (18, 35184371302400), (19, 35184371564544), (20, 35184371040256), (21, 35184369991680), (22, 35184367894528), (23, 0), (24, 35184355311616), (25, 35184338534400), (26, 35184304979968), (27, 35184237871104), (28, 35184103653376), (29, 35183835217920), (30, 33046552117248), (31, 33051920826368), (32, 33049773342720), (33, 33045478375424), (34, 33036888440832), (35, 33019708571648), (36, 34978213658624), (37, 35046933135360), (38, 34909494181888), (39, 34634616274944), (40, 34084860461056), (41, 0), (42, 30786325577728), (43, 26388279066624), (44, 17592186044416)], 35184372088831, [], none⟩),
    (5, ⟨[4], [1085], [], 0, [], none⟩),
    (6, ⟨[1, 2, 6], [2, 1061], [], 0, [], none⟩),
    (7, ⟨[1, 2, 6, 7], [2, 1061], [], 0, [], none⟩),
    (8, ⟨[1, 2, 6, 7, 65], [2, 1061], [], 0, [], none⟩),
    (9, ⟨[1, 2, 6, 7], [2, 1061], [], 0, [], none⟩),
    (10, ⟨[1, 2, 6, 7, 8], [2, 1061], [], 0, [], none⟩),
    (11, ⟨[1, 2, 6, 7, 8, 70], [2, 1061], [], 0, [], none⟩),
    (12, ⟨[1, 2, 6, 7, 8], [2, 1061], [], 0, [], none⟩),
    (13, ⟨[1, 2, 6, 7, 8, 83], [2, 1061], [(0, 1053), (1, 1054), (2, 1052), (3, 1048), (4, 1040), (5, 1952), (6, 1984), (7, 1920), (8, 1792), (9, 1536), (10, 1024)], 2047, [], none⟩),
    (14, ⟨[4], [1085], [], 0, [], none⟩),
    (15, ⟨[4], [1085], [], 0, [], none⟩)] (Try.f38.body.getD .skip) = some M38 := by kernel_rfl
theorem Run38 {args : List PV} {v : AV} {rs : List (Nat × List PV)} (ids : List Bool) (h : args.length ≤ 91) (hv : run Try.prog (retK [RV.tmp 4] ids v rs) M38 [] ⟨entry 0 args, []⟩) : Fn Try.prog 38 args v rs :=
  Fn_run ids (by kernel_rfl) Try.func38 (by decide) rfl mc38 (by kernel_rfl) (by rw [Try.ntmps38]; exact h) (by rw [Try.ntmps38]; decide) hv

/-- 'inst.Expire' -/
def B43_0 : MC := (.seq (.reg [⟨(some 32), none, (.q (.bin .lss (.t 31) (.t 30)))⟩] [] [2, 3, 10, 11, 29, 30, 31, 32] [3, 49, 59, 2010, 2011]) (.seq (.cond (.t 32) .skip (.exit 0))
  (.seq (.block 1 (.seq (.reg [⟨(some 33), none, (.q (.ia (.t 29) (.t 31) 4))⟩, ⟨(some 34), none, (.q (.ld (.t 33) 4 true))⟩, ⟨(some 13), none, (.alloc [(.pv (.sc (.bool false))),
  (.pv (.sc (.int .i64 0))), (.pv (.sc (.string ⟨#[]⟩))), .e0])⟩, ⟨none, none, (.st (.t 13) (.t 34) 4)⟩] [] [2, 3, 10, 11, 13, 29, 30, 31] [3, 13, 49, 59, 2010, 2011]) (.seq (.reg [⟨(some 36), none,
  (.q (.ld (.t 3) 4 true))⟩, ⟨(some 37), none, (.q (.fa (.t 13) 3))⟩, ⟨(some 38), none, (.q (.ld (.t 37) 1 false))⟩, ⟨(some 39), none, (.q (.mv (.t 2)))⟩, ⟨(some 40), none, (.call (.f 27) [(.t 36),
  (.t 38), (.t 39)])⟩, ⟨(some 35), none, (.q (.mv (.t 40)))⟩, ⟨(some 41), none, (.q (.ext (.t 35) 0))⟩, ⟨(some 42), none, (.q (.ext (.t 35) 1))⟩, ⟨(some 43), none, (.q (.ext (.t 35) 2))⟩, ⟨(some 14),
  none, (.q (.mv (.t 41)))⟩, ⟨(some 15), none, (.q (.mv (.t 42)))⟩, ⟨(some 16), none, (.q (.mv (.t 43)))⟩] [] [2, 3, 10, 11, 13, 14, 15, 16, 29, 30, 31] [3, 13, 49, 59, 1040, 2010, 2011])
  (.seq (.seq (.reg [⟨(some 44), none, (.q (.mv (.t 16)))⟩, ⟨(some 45), none, (.q (.bin .neq (.t 44) (.c (.int .i64 0))))⟩] [] [2, 3, 10, 11, 13, 14, 15, 16, 29, 30, 31, 45] [3, 13, 49, 59, 1040,
  2010, 2011]) (.cond (.t 45) (.seq (.reg [⟨(some 46), none, (.q (.mv (.t 16)))⟩, ⟨(some 6), none, (.q (.mv .nil))⟩, ⟨(some 7), none, (.q (.mv .nil))⟩, ⟨(some 8), none, (.q (.mv (.t 46)))⟩] [] [6, 7,
  8] [49, 59, 1019, 1040, 2010, 2011]) .ret) .skip)) (.seq (.reg [⟨(some 47), none, (.q (.mv (.t 11)))⟩, ⟨(some 48), none, (.q (.mv (.t 15)))⟩, ⟨(some 49), none, (.app (.t 47) (.t 48) 3 24)⟩,
  ⟨(some 11), none, (.q (.mv (.t 49)))⟩] [] [2, 3, 10, 11, 13, 14, 29, 30, 31] [3, 13, 49, 59, 1040, 2010, 2011]) (.seq (.reg [⟨(some 50), none, (.q (.mv (.t 14)))⟩, ⟨(some 51), none,
  (.q (.len (.t 50) false))⟩, ⟨(some 52), none, (.q (.bin .gtr (.t 51) (.c (.int .i64 0))))⟩] [] [2, 3, 10, 11, 13, 14, 29, 30, 31, 52] [3, 13, 49, 59, 1040, 2010, 2011]) (.cond (.t 52)
  (.reg [⟨(some 53), none, (.q (.mv (.t 10)))⟩, ⟨(some 54), none, (.q (.fa (.t 13) 0))⟩, ⟨(some 55), none, (.q (.ld (.t 54) 3 true))⟩, ⟨(some 56), none, (.q (.mv (.t 14)))⟩, ⟨(some 57), none,
  (.q (.mk [(.pv (.sc (.bool false))), (.pv (.sc (.int .i64 0))), (.pv (.sc (.string ⟨#[]⟩))), .e0] [(0, 3, (.t 55)), (3, 1, (.t 56))]))⟩, ⟨(some 58), none, (.lits [(.t 57)] 4)⟩, ⟨(some 59), none,
  (.app (.t 53) (.t 58) 4 56)⟩, ⟨(some 10), none, (.q (.mv (.t 59)))⟩] [] [2, 3, 10, 11, 29, 30, 31] [3, 49, 59, 2010, 2011]) .skip))))))) (.reg [⟨(some 60), none, (.q (.bin .add (.t 31)
  (.c (.int .i64 1))))⟩, ⟨(some 31), none, (.q (.mv (.t 60)))⟩] [] [2, 3, 10, 11, 29, 30, 31] [3, 49, 59, 2010, 2011]))))
def R43_0 : MC := (.seq (.reg [⟨(some 61), none, (.q (.mv (.t 10)))⟩, ⟨(some 62), none, (.q (.mv (.t 11)))⟩, ⟨(some 6), none, (.q (.mv (.t 61)))⟩, ⟨(some 7), none, (.q (.mv (.t 62)))⟩, ⟨(some 8),
  none, (.q (.mv (.c (.int .i64 0))))⟩] [] [6, 7, 8] [49, 59, 1019, 1040, 2010, 2011]) .ret)
def M43 : MC := (.seq (.reg [⟨(some 3), none, (.box (.t 0))⟩, ⟨(some 6), none, (.q (.mv .nil))⟩, ⟨(some 7), none, (.q (.mv .nil))⟩, ⟨(some 8), none, (.q (.mv (.c (.int .i64 0))))⟩] [] [1, 2, 3] [3])
  (.seq (.seq (.reg [⟨(some 17), none, (.q (.ld (.t 3) 4 true))⟩, ⟨(some 18), none, (.q (.mv (.t 1)))⟩, ⟨(some 19), none, (.call (.f 37) [(.t 17), (.t 18)])⟩, ⟨(some 9), none,
  (.q (.mv (.t 19)))⟩] [] [1, 2, 3, 9] [3, 1019]) (.seq (.reg [⟨(some 20), none, (.q (.mv (.t 9)))⟩, ⟨(some 21), none, (.q (.bin .neq (.t 20) (.c (.int .i64 0))))⟩] [] [1, 2, 3, 9, 21] [3, 1019])
  (.cond (.t 21) (.seq (.reg [⟨(some 22), none, (.q (.mv (.t 9)))⟩, ⟨(some 6), none, (.q (.mv .nil))⟩, ⟨(some 7), none, (.q (.mv .nil))⟩, ⟨(some 8), none, (.q (.mv (.t 22)))⟩] [] [6, 7, 8] [49, 59,
  1019, 1040, 2010, 2011]) .ret) .skip))) (.seq (.seq (.reg [⟨(some 23), none, (.q (.mv (.t 2)))⟩, ⟨(some 24), none, (.q (.bin .lss (.t 23) (.c (.int .i64 0))))⟩, ⟨(some 25), none,
  (.q (.mv (.t 24)))⟩, ⟨(some 26), (some (25, false)), (.q (.mv (.t 2)))⟩, ⟨(some 27), (some (25, false)), (.q (.bin .gtr (.t 26) (.c (.int .i64 1099511627775))))⟩, ⟨(some 28), none,
  (.q (.pick (.t 25) (.c (.bool true)) (.t 27)))⟩] [] [1, 2, 3, 28] [3]) (.cond (.t 28) (.seq (.reg [⟨(some 6), none, (.q (.mv .nil))⟩, ⟨(some 7), none, (.q (.mv .nil))⟩, ⟨(some 8), none,
  (.q (.mv (.c (.int .i64 1))))⟩] [] [6, 7, 8] [49, 59, 1019, 1040, 2010, 2011]) .ret) .skip)) (.seq (.reg [⟨(some 10), none, (.q (.mv .nil))⟩] [(10, 2010, 4)] [1, 2, 3, 10] [3, 59, 2010])
  (.seq (.reg [⟨(some 11), none, (.q (.mv .nil))⟩] [(11, 2011, 3)] [1, 2, 3, 10, 11] [3, 49, 59, 2010, 2011]) (.seq (.seq (.reg [⟨(some 29), none, (.q (.mv (.t 1)))⟩, ⟨(some 30), none,
  (.q (.len (.t 29) false))⟩, ⟨(some 31), none, (.q (.mv (.c (.int .i64 0))))⟩] [] [2, 3, 10, 11, 29, 30, 31] [3, 49, 59, 2010, 2011]) (.block 0 (.loop B43_0))) R43_0))))))
theorem mc43 : ofCode Try.prog [] Try.f43.ntmps [(0, ⟨[1, 2, 3], [3], [], 0, [], none⟩),
    (1, ⟨[1, 2, 3, 9], [3, 1019], [], 0, [], none⟩),
    (2, ⟨[1, 2, 3, 9, 21], [3, 1019], [], 0, [], none⟩),
    (3, ⟨[6, 7, 8], [49, 59, 1019, 1040, 2010, 2011], [], 0, [], none⟩),
    (4, ⟨[1, 2, 3, 28], [3], [], 0, [], none⟩),
    (5, ⟨[6, 7, 8], [49, 59, 1019, 1040, 2010, 2011], [], 0, [], none⟩),
    (6, ⟨[1, 2, 3, 10], [3, 59, 2010], [], 0, [(10, 2010, 4)], none⟩),
    (7, ⟨[1, 2, 3, 10, 11], [3, 49, 59, 2010, 2011], [], 0, [(11, 2011, 3)], none⟩),
    (8, ⟨[2, 3, 10, 11, 29, 30, 31], [3, 49, 59, 2010, 2011], [], 0, [], none⟩),
    (9, ⟨[2, 3, 10, 11, 29, 30, 31, 32], [3, 49, 59, 2010, 2011], [], 0, [], none⟩),
    (10, ⟨[2, 3, 10, 11, 13, 29, 30, 31], [3, 13, 49, 59, 2010, 2011], [], 0, [], none⟩),
    (11, ⟨[2, 3, 10, 11, 13, 14, 15, 16, 29, 30, 31], [3, 13, 49, 59, 1040, 2010, 2011], [], 0, [], none⟩),
    (12, ⟨[2, 3, 10, 11, 13, 14, 15, 16, 29, 30, 31, 45], [3, 13, 49, 59, 1040, 2010, 2011], [], 0, [], none⟩),
    (13, ⟨[6, 7, 8], [49, 59, 1019, 1040, 2010, 2011], [], 0, [], none⟩),
    (14, ⟨[2, 3, 10, 11, 13, 14, 29, 30, 31], [3, 13, 49, 59, 1040, 2010, 2011], [], 0, [], none⟩),
    (15, ⟨[2, 3, 10, 11, 13, 14, 29, 30, 31, 52], [3, 13, 49, 59, 1040, 2010, 2011], [], 0, [], none⟩),
    (16, ⟨[2, 3, 10, 11, 29, 30, 31], [3, 49, 59, 2010, 2011], [], 0, [], none⟩),
    (17, ⟨[2, 3, 10, 11, 29, 30, 31], [3, 49, 59, 2010, 2011], [], 0, [], none⟩),
    (18, ⟨[6, 7, 8], [49, 59, 1019, 1040, 2010, 2011], [], 0, [], none⟩)] (Try.f43.body.getD .skip) = some M43 := by kernel_rfl
theorem Run43 {args : List PV} {v : AV} {rs : List (Nat × List PV)} (ids : List Bool) (h : args.length ≤ 63) (hv : run Try.prog (retK [RV.tmp 6, RV.tmp 7, RV.tmp 8] ids v rs) M43 [] ⟨entry 0 args, []⟩) : Fn Try.prog 43 args v rs :=
  Fn_run ids (by kernel_rfl) Try.func43 (by decide) rfl mc43 (by kernel_rfl) (by rw [Try.ntmps43]; exact h) (by rw [Try.ntmps43]; decide) hv

/-- 'trystref10.Expire' -/
def B44_0 : MC := (.seq (.seq (.reg [⟨(some 26), none, (.q (.mv (.t 11)))⟩, ⟨(some 27), none, (.q (.mv (.t 1)))⟩, ⟨(some 28), none, (.q (.len (.t 27) false))⟩, ⟨(some 29), none, (.q (.bin .lss (.t 26)
  (.t 28)))⟩] [] [1, 2, 3, 9, 10, 11, 29] [3, 62, 75, 2009, 2010]) (.cond (.t 29) .skip (.exit 0))) (.seq (.block 1 (.seq (.seq (.reg [⟨(some 32), none, (.q (.mv (.t 1)))⟩, ⟨(some 33), none,
  (.q (.mv (.t 11)))⟩, ⟨(some 34), none, (.q (.ia (.t 32) (.t 33) 4))⟩, ⟨(some 35), none, (.q (.fa (.t 34) 3))⟩, ⟨(some 36), none, (.q (.ld (.t 35) 1 false))⟩, ⟨(some 37), none, (.q (.mv (.t 1)))⟩,
  ⟨(some 38), none, (.q (.mv (.t 11)))⟩, ⟨(some 39), none, (.q (.ia (.t 37) (.t 38) 4))⟩, ⟨(some 40), none, (.q (.fa (.t 39) 3))⟩, ⟨(some 41), none, (.q (.ld (.t 40) 1 false))⟩, ⟨(some 42), none,
  (.q (.len (.t 41) false))⟩, ⟨(some 43), none, (.q (.bin .sub (.t 42) (.c (.int .i64 1))))⟩, ⟨(some 44), none, (.q (.ia (.t 36) (.t 43) 3))⟩, ⟨(some 45), none, (.q (.fa (.t 44) 2))⟩, ⟨(some 46),
  none, (.q (.ld (.t 45) 1 false))⟩, ⟨(some 47), none, (.q (.mv (.t 2)))⟩, ⟨(some 48), none, (.q (.bin .gtr (.t 46) (.t 47)))⟩] [] [1, 2, 3, 9, 10, 11, 48] [3, 62, 75, 2009, 2010]) (.cond (.t 48)
  (.seq (.reg [⟨(some 6), none, (.q (.mv .nil))⟩, ⟨(some 7), none, (.q (.mv .nil))⟩, ⟨(some 8), none, (.q (.mv (.c (.bool false))))⟩] [] [6, 7, 8] [62, 75, 2009, 2010]) .ret) .skip))
  (.seq (.reg [⟨(some 50), none, (.q (.ld (.t 3) 4 true))⟩, ⟨(some 51), none, (.q (.mv (.t 1)))⟩, ⟨(some 52), none, (.q (.mv (.t 11)))⟩, ⟨(some 53), none, (.q (.ia (.t 51) (.t 52) 4))⟩, ⟨(some 54),
  none, (.q (.fa (.t 53) 3))⟩, ⟨(some 55), none, (.q (.ld (.t 54) 1 false))⟩, ⟨(some 56), none, (.q (.mv (.t 2)))⟩, ⟨(some 57), none, (.call (.f 28) [(.t 50), (.t 55), (.t 56)])⟩, ⟨(some 49), none,
  (.q (.mv (.t 57)))⟩, ⟨(some 58), none, (.q (.ext (.t 49) 0))⟩, ⟨(some 59), none, (.q (.ext (.t 49) 1))⟩, ⟨(some 12), none, (.q (.mv (.t 58)))⟩, ⟨(some 13), none, (.q (.mv (.t 59)))⟩] [] [1, 2, 3, 9,
  10, 11, 12, 13] [3, 62, 75, 1057, 2009, 2010]) (.seq (.reg [⟨(some 60), none, (.q (.mv (.t 10)))⟩, ⟨(some 61), none, (.q (.mv (.t 13)))⟩, ⟨(some 62), none, (.app (.t 60) (.t 61) 3 24)⟩, ⟨(some 10),
  none, (.q (.mv (.t 62)))⟩] [] [1, 2, 3, 9, 10, 11, 12] [3, 62, 75, 1057, 2009, 2010]) (.seq (.reg [⟨(some 63), none, (.q (.mv (.t 12)))⟩, ⟨(some 64), none, (.q (.len (.t 63) false))⟩, ⟨(some 65),
  none, (.q (.bin .gtr (.t 64) (.c (.int .i64 0))))⟩] [] [1, 2, 3, 9, 10, 11, 12, 65] [3, 62, 75, 1057, 2009, 2010]) (.cond (.t 65) (.reg [⟨(some 66), none, (.q (.mv (.t 9)))⟩, ⟨(some 67), none,
  (.q (.mv (.t 1)))⟩, ⟨(some 68), none, (.q (.mv (.t 11)))⟩, ⟨(some 69), none, (.q (.ia (.t 67) (.t 68) 4))⟩, ⟨(some 70), none, (.q (.fa (.t 69) 0))⟩, ⟨(some 71), none, (.q (.ld (.t 70) 3 true))⟩,
  ⟨(some 72), none, (.q (.mv (.t 12)))⟩, ⟨(some 73), none, (.q (.mk [(.pv (.sc (.bool false))), (.pv (.sc (.int .i64 0))), (.pv (.sc (.string ⟨#[]⟩))), .e0] [(0, 3, (.t 71)), (3, 1, (.t 72))]))⟩,
  ⟨(some 74), none, (.lits [(.t 73)] 4)⟩, ⟨(some 75), none, (.app (.t 66) (.t 74) 4 56)⟩, ⟨(some 9), none, (.q (.mv (.t 75)))⟩] [] [1, 2, 3, 9, 10, 11] [3, 62, 75, 2009, 2010]) .skip))))))
  (.reg [⟨(some 30), none, (.q (.mv (.t 11)))⟩, ⟨(some 31), none, (.q (.bin .add (.t 30) (.c (.int .i64 1))))⟩, ⟨(some 11), none, (.q (.mv (.t 31)))⟩] [] [1, 2, 3, 9, 10, 11] [3, 62, 75, 2009,
  2010])))
def R44_0 : MC := (.seq (.reg [⟨(some 76), none, (.q (.mv (.t 9)))⟩, ⟨(some 77), none, (.q (.mv (.t 10)))⟩, ⟨(some 6), none, (.q (.mv (.t 76)))⟩, ⟨(some 7), none, (.q (.mv (.t 77)))⟩, ⟨(some 8), none,
  (.q (.mv (.c (.bool true))))⟩] [] [6, 7, 8] [62, 75, 2009, 2010]) .ret)
def M44 : MC := (.seq (.reg [⟨(some 3), none, (.box (.t 0))⟩, ⟨(some 6), none, (.q (.mv .nil))⟩, ⟨(some 7), none, (.q (.mv .nil))⟩, ⟨(some 8), none, (.q (.mv (.c (.bool false))))⟩] [] [1, 2, 3] [3])
  (.seq (.seq (.reg [⟨(some 14), none, (.q (.ld (.t 3) 4 true))⟩, ⟨(some 15), none, (.q (.mv (.t 1)))⟩, ⟨(some 16), none, (.call (.f 38) [(.t 14), (.t 15)])⟩, ⟨(some 17), none, (.q (.not (.t 16)))⟩,
  ⟨(some 18), none, (.q (.mv (.t 17)))⟩, ⟨(some 19), (some (18, false)), (.q (.mv (.t 2)))⟩, ⟨(some 20), (some (18, false)), (.q (.bin .lss (.t 19) (.c (.int .i64 0))))⟩, ⟨(some 21), none,
  (.q (.pick (.t 18) (.c (.bool true)) (.t 20)))⟩, ⟨(some 22), none, (.q (.mv (.t 21)))⟩, ⟨(some 23), (some (22, false)), (.q (.mv (.t 2)))⟩, ⟨(some 24), (some (22, false)), (.q (.bin .gtr (.t 23)
  (.c (.int .i64 1099511627775))))⟩, ⟨(some 25), none, (.q (.pick (.t 22) (.c (.bool true)) (.t 24)))⟩] [] [1, 2, 3, 25] [3, 1016]) (.cond (.t 25) (.seq (.reg [⟨(some 6), none, (.q (.mv .nil))⟩,
  ⟨(some 7), none, (.q (.mv .nil))⟩, ⟨(some 8), none, (.q (.mv (.c (.bool false))))⟩] [] [6, 7, 8] [62, 75, 2009, 2010]) .ret) .skip)) (.seq (.reg [⟨(some 9), none, (.q (.mv .nil))⟩] [(9, 2009,
  4)] [1, 2, 3, 9] [3, 75, 2009]) (.seq (.reg [⟨(some 10), none, (.q (.mv .nil))⟩] [(10, 2010, 3)] [1, 2, 3, 9, 10] [3, 62, 75, 2009, 2010]) (.seq (.seq (.reg [⟨(some 11), none,
  (.q (.mv (.c (.int .i64 0))))⟩] [] [1, 2, 3, 9, 10, 11] [3, 62, 75, 2009, 2010]) (.block 0 (.loop B44_0))) R44_0)))))
theorem mc44 : ofCode Try.prog [] Try.f44.ntmps [(0, ⟨[1, 2, 3], [3], [], 0, [], none⟩),
    (1, ⟨[1, 2, 3, 25], [3, 1016], [], 0, [], none⟩),
    (2, ⟨[6, 7, 8], [62, 75, 2009, 2010], [], 0, [], none⟩),
    (3, ⟨[1, 2, 3, 9], [3, 75, 2009], [], 0, [(9, 2009, 4)], none⟩),
    (4, ⟨[1, 2, 3, 9, 10], [3, 62, 75, 2009, 2010], [], 0, [(10, 2010, 3)], none⟩),
    (5, ⟨[1, 2, 3, 9, 10, 11], [3, 62, 75, 2009, 2010], [], 0, [], none⟩),
    (6, ⟨[1, 2, 3, 9, 10, 11, 29], [3, 62, 75, 2009, 2010], [], 0, [], none⟩),
    (7, ⟨[1, 2, 3, 9, 10, 11], [3, 62, 75, 2009, 2010], [], 0, [], none⟩),
    (8, ⟨[1, 2, 3, 9, 10, 11, 48], [3, 62, 75, 2009, 2010], [(0, 94237), (1, 94238), (2, 94236), (3, 94232), (4, 94224), (5, 98208), (6, 98240), (7, 98176), (8, 98048), (9, 97792), (10, 97280), (11, 96256), (12, 94208), (13, 90112), (14, 81920), (15, 98304), (16, 65536)], 131071, [], none⟩),
    (9, ⟨[6, 7, 8], [62, 75, 2009, 2010], [], 0, [], none⟩),
    (10, ⟨[1, 2, 3, 9, 10, 11, 12, 13], [3, 62, 75, 1057, 2009, 2010], [(0, 8065), (1, 8122), (2, 8124), (3, 8120), (4, 8112), (5, 8096), (6, 8128), (7, 0), (8, 7936), (9, 6656), (10, 5120), (11, 6144), (12, 4096)], 8191, [], none⟩),
    (11, ⟨[1, 2, 3, 9, 10, 11, 12], [3, 62, 75, 1057, 2009, 2010], [], 0, [], none⟩),
    (12, ⟨[1, 2, 3, 9, 10, 11, 12, 65], [3, 62, 75, 1057, 2009, 2010], [], 0, [], none⟩),
    (13, ⟨[1, 2, 3, 9, 10, 11], [3, 62, 75, 2009, 2010], [], 0, [], none⟩),
    (14, ⟨[6, 7, 8], [62, 75, 2009, 2010], [], 0, [], none⟩)] (Try.f44.body.getD .skip) = some M44 := by kernel_rfl
theorem Run44 {args : List PV} {v : AV} {rs : List (Nat × List PV)} (ids : List Bool) (h : args.length ≤ 78) (hv : run Try.prog (retK [RV.tmp 6, RV.tmp 7, RV.tmp 8] ids v rs) M44 [] ⟨entry 0 args, []⟩) : Fn Try.prog 44 args v rs :=
  Fn_run ids (by kernel_rfl) Try.func44 (by decide) rfl mc44 (by kernel_rfl) (by rw [Try.ntmps44]; exact h) (by rw [Try.ntmps44]; decide) hv

end Go.Vc

namespace Go.Vc
open Go.Proofs
set_option linter.unusedSimpArgs false
set_option linter.unusedVariables false

structure In where
  key : Vl
  l : List Kp
  deriving DecidableEq
instance : Inhabited In := ⟨⟨⟨false, 0, ⟨#[]⟩⟩, []⟩⟩
abbrev In.pv (i : In) : PV := .agg [pB i.key.num, pI i.key.n, pS i.key.s, ks i.l]
abbrev ins (l : List In) : PV := .lst (l.map In.pv)
theorem wf_ins (l : List In) : WfL 4 (l.map In.pv) := by
  intro p hp
  obtain ⟨k, _, rfl⟩ := List.mem_map.1 hp
  refine ⟨rfl, fun c hc => ?_⟩
  simp only [PV.cells, List.mem_cons, List.not_mem_nil, or_false] at hc
  rcases hc with rfl | rfl | rfl | rfl <;> rfl
theorem getD_ins {l : List In} {i : Nat} (h : i < l.length) : (l.map In.pv).getD i default = (l.getD i default).pv := by
  simp [List.getD_eq_getElem?_getD, h]
theorem getI {l : List In} {i : Nat} (h : i < l.length) : l.getD i default = l[i] := by simp [List.getD_eq_getElem?_getD, h]
abbrev Vl.pt (v : Vl) : PV := .pt [pB v.num, pI v.n, pS v.s]
theorem fn58 (x : In) (k : Vl) : Fn Try.prog 58 [x.pv, k.pt] (.pv (pB (decide (x.key = k)))) [] := by
  refine Run58 [] (by simp) ?_
  simp only [go_sem, Nat.reduceEqDiff, Nat.reduceBEq, Nat.reduceAdd, Nat.reduceMul, Nat.reduceSub, Nat.reduceLeDiff, Nat.reduceLT, reduceIte, reduceCtorEq, Int.reduceToNat, Int.reduceLE, Int.reduceLT, Int.reduceNeg, Bool.not_not, and_self, Bool.and_eq_false_iff, Int.cast_ofNat_Int, Int.reduceAdd, Int.reduceSub, Int.reduceMul, Int.reduceEq, Int.reduceNe, M58]
  obtain ⟨⟨a, b, c⟩, l⟩ := x
  obtain ⟨a', b', c'⟩ := k
  simp
def idxA (q : In → Bool) (l : List In) : Int := if l.any q then (l.findIdx q : Int) else -1
theorem fn57 (l : List In) (g : Nat) (caps : List PV) (q : In → Bool) (hl : l.length < 100000) (hg : ∀ k ∈ l, Fn Try.prog g (k.pv :: caps) (.pv (pB (q k))) []) :
    Fn Try.prog 57 [ins l, .fn g caps] (.pv (pI (idxA q l))) [] := by
  refine Run57 [] (by simp) ?_
  simp only [go_sem, Nat.reduceEqDiff, Nat.reduceBEq, Nat.reduceAdd, Nat.reduceMul, Nat.reduceSub, Nat.reduceLeDiff, Nat.reduceLT, reduceIte, reduceCtorEq, Int.reduceToNat, Int.reduceLE, Int.reduceLT, Int.reduceNeg, Bool.not_not, and_self, Bool.and_eq_false_iff, Int.cast_ofNat_Int, Int.reduceAdd, Int.reduceSub, Int.reduceMul, Int.reduceEq, Int.reduceNe, M57]
  refine run_loop (T := Nat) (fun i => ⟨[(0, .pv (ins l)), (1, .pv (.fn g caps)), (7, .pv (pI l.length)), (8, .pv (pI i))], []⟩) (fun i => i ≤ l.length ∧ ∀ j (h : j < l.length), j < i → q l[j] = false) (fun i => l.length - i) 0 rfl ⟨Nat.zero_le _, fun j _ h => absurd h (by omega)⟩ ?_
  intro i ⟨hi, hq⟩
  by_cases hlt : i < l.length
  · simp only [go_sem, Nat.reduceEqDiff, Nat.reduceBEq, Nat.reduceAdd, Nat.reduceMul, Nat.reduceSub, Nat.reduceLeDiff, Nat.reduceLT, reduceIte, reduceCtorEq, Int.reduceToNat, Int.reduceLE, Int.reduceLT, Int.reduceNeg, Bool.not_not, and_self, Bool.and_eq_false_iff, Int.cast_ofNat_Int, Int.reduceAdd, Int.reduceSub, Int.reduceMul, Int.reduceEq, Int.reduceNe, B57_0, wf_ins, getD_ins hlt, getI hlt, show (i : Int) < (l.length : Int) by omega]
    refine runR_callf (by simp only [go_sem, Nat.reduceEqDiff, Nat.reduceBEq, Nat.reduceAdd, Nat.reduceMul, Nat.reduceSub, Nat.reduceLeDiff, Nat.reduceLT, reduceIte, reduceCtorEq, Int.reduceToNat, Int.reduceLE, Int.reduceLT, Int.reduceNeg, Bool.not_not, and_self, Bool.and_eq_false_iff, Int.cast_ofNat_Int, Int.reduceAdd, Int.reduceSub, Int.reduceMul, Int.reduceEq, Int.reduceNe]) (by simp only [go_sem, Nat.reduceEqDiff, Nat.reduceBEq, Nat.reduceAdd, Nat.reduceMul, Nat.reduceSub, Nat.reduceLeDiff, Nat.reduceLT, reduceIte, reduceCtorEq, Int.reduceToNat, Int.reduceLE, Int.reduceLT, Int.reduceNeg, Bool.not_not, and_self, Bool.and_eq_false_iff, Int.cast_ofNat_Int, Int.reduceAdd, Int.reduceSub, Int.reduceMul, Int.reduceEq, Int.reduceNe, snapL_pv _ 3]) (hg _ (List.getElem_mem hlt)) ⟨rfl, trivial⟩ trivial ?_
    simp only [go_sem, Nat.reduceEqDiff, Nat.reduceBEq, Nat.reduceAdd, Nat.reduceMul, Nat.reduceSub, Nat.reduceLeDiff, Nat.reduceLT, reduceIte, reduceCtorEq, Int.reduceToNat, Int.reduceLE, Int.reduceLT, Int.reduceNeg, Bool.not_not, and_self, Bool.and_eq_false_iff, Int.cast_ofNat_Int, Int.reduceAdd, Int.reduceSub, Int.reduceMul, Int.reduceEq, Int.reduceNe]
    refine ⟨fun hq1 => ?_, fun hq0 => ⟨⟨by omega, by omega⟩, i + 1, rfl, ⟨hlt, fun j hj hji => ?_⟩, by omega⟩⟩
    · have h1 : l.any q = true := List.any_eq_true.2 ⟨_, List.getElem_mem hlt, hq1⟩
      have h2 : l.findIdx q = i := (List.findIdx_eq hlt).2 ⟨hq1, fun j hji => hq j (by omega) hji⟩
      simp [idxA, h1, h2]
    · by_cases hj2 : j = i
      · subst hj2; exact hq0
      · exact hq j hj (by omega)
  · simp only [go_sem, Nat.reduceEqDiff, Nat.reduceBEq, Nat.reduceAdd, Nat.reduceMul, Nat.reduceSub, Nat.reduceLeDiff, Nat.reduceLT, reduceIte, reduceCtorEq, Int.reduceToNat, Int.reduceLE, Int.reduceLT, Int.reduceNeg, Bool.not_not, and_self, Bool.and_eq_false_iff, Int.cast_ofNat_Int, Int.reduceAdd, Int.reduceSub, Int.reduceMul, Int.reduceEq, Int.reduceNe, B57_0, R57_0, show ¬ ((i : Int) < (l.length : Int)) by omega]
    have h1 : l.any q = false := by
      rw [List.any_eq_false]
      intro k hk
      obtain ⟨j, hj, rfl⟩ := List.getElem_of_mem hk
      simp [hq j hj (by omega)]
    simp [idxA, h1]
def findI (l : List In) (k : Vl) : Int := idxA (fun x => decide (x.key = k)) l
theorem fn39 (l : List In) (k : Vl) (hl : l.length < 100000) : Fn Try.prog 39 [ins l, k.pv] (.pv (pI (findI l k))) [] := by
  refine Run39 [] (by simp) ?_
  simp only [go_sem, Nat.reduceEqDiff, Nat.reduceBEq, Nat.reduceAdd, Nat.reduceMul, Nat.reduceSub, Nat.reduceLeDiff, Nat.reduceLT, reduceIte, reduceCtorEq, Int.reduceToNat, Int.reduceLE, Int.reduceLT, Int.reduceNeg, Bool.not_not, and_self, Bool.and_eq_false_iff, Int.cast_ofNat_Int, Int.reduceAdd, Int.reduceSub, Int.reduceMul, Int.reduceEq, Int.reduceNe, M39]
  refine runR_callf (by simp only [go_sem, Nat.reduceEqDiff, Nat.reduceBEq, Nat.reduceAdd, Nat.reduceMul, Nat.reduceSub, Nat.reduceLeDiff, Nat.reduceLT, reduceIte, reduceCtorEq, Int.reduceToNat, Int.reduceLE, Int.reduceLT, Int.reduceNeg, Bool.not_not, and_self, Bool.and_eq_false_iff, Int.cast_ofNat_Int, Int.reduceAdd, Int.reduceSub, Int.reduceMul, Int.reduceEq, Int.reduceNe]) (by simp only [go_sem, Nat.reduceEqDiff, Nat.reduceBEq, Nat.reduceAdd, Nat.reduceMul, Nat.reduceSub, Nat.reduceLeDiff, Nat.reduceLT, reduceIte, reduceCtorEq, Int.reduceToNat, Int.reduceLE, Int.reduceLT, Int.reduceNeg, Bool.not_not, and_self, Bool.and_eq_false_iff, Int.cast_ofNat_Int, Int.reduceAdd, Int.reduceSub, Int.reduceMul, Int.reduceEq, Int.reduceNe]) (fn57 l 58 [k.pt] (fun x => decide (x.key = k)) hl (fun x hx => fn58 x k)) ⟨rfl, trivial⟩ trivial ?_
  simp only [go_sem, Nat.reduceEqDiff, Nat.reduceBEq, Nat.reduceAdd, Nat.reduceMul, Nat.reduceSub, Nat.reduceLeDiff, Nat.reduceLT, reduceIte, reduceCtorEq, Int.reduceToNat, Int.reduceLE, Int.reduceLT, Int.reduceNeg, Bool.not_not, and_self, Bool.and_eq_false_iff, Int.cast_ofNat_Int, Int.reduceAdd, Int.reduceSub, Int.reduceMul, Int.reduceEq, Int.reduceNe]
  rfl
theorem fn42 (n : Int) : Fn Try.prog 42 [pI n] (.pv (Vl.pv ⟨true, n, ⟨#[]⟩⟩)) [] := by
  refine Run42 [] (by simp) ?_
  simp only [go_sem, Nat.reduceEqDiff, Nat.reduceBEq, Nat.reduceAdd, Nat.reduceMul, Nat.reduceSub, Nat.reduceLeDiff, Nat.reduceLT, reduceIte, reduceCtorEq, Int.reduceToNat, Int.reduceLE, Int.reduceLT, Int.reduceNeg, Bool.not_not, and_self, Bool.and_eq_false_iff, Int.cast_ofNat_Int, Int.reduceAdd, Int.reduceSub, Int.reduceMul, Int.reduceEq, Int.reduceNe, M42]
theorem fn40 (l : List In) (k : Vl) (hl : l.length < 100000) : Fn Try.prog 40 [ins l, k.pv] (.pv (pI (findI l k))) [] := by
  refine Run40 [] (by simp) ?_
  simp only [go_sem, Nat.reduceEqDiff, Nat.reduceBEq, Nat.reduceAdd, Nat.reduceMul, Nat.reduceSub, Nat.reduceLeDiff, Nat.reduceLT, reduceIte, reduceCtorEq, Int.reduceToNat, Int.reduceLE, Int.reduceLT, Int.reduceNeg, Bool.not_not, and_self, Bool.and_eq_false_iff, Int.cast_ofNat_Int, Int.reduceAdd, Int.reduceSub, Int.reduceMul, Int.reduceEq, Int.reduceNe, M40]
  refine run_loop (T := Nat) (fun i => ⟨[(0, .pv (ins l)), (3, .ptr 3 0), (5, .pv (pI i))], [(3, .box [.pv (pB k.num), .pv (pI k.n), .pv (pS k.s)])]⟩) (fun i => i ≤ l.length ∧ ∀ j (h : j < l.length), j < i → decide (l[j].key = k) = false) (fun i => l.length - i) 0 rfl ⟨Nat.zero_le _, fun j _ h => absurd h (by omega)⟩ ?_
  intro i ⟨hi, hq⟩
  by_cases hlt : i < l.length
  · have hkey : (decide (l[i].key.num = k.num) && (decide (l[i].key.n = k.n) && decide (l[i].key.s = k.s))) = decide (l[i].key = k) := by
      obtain ⟨⟨a, b, c⟩, ll⟩ := l[i]
      obtain ⟨a', b', c'⟩ := k
      simp
    simp only [go_sem, Nat.reduceEqDiff, Nat.reduceBEq, Nat.reduceAdd, Nat.reduceMul, Nat.reduceSub, Nat.reduceLeDiff, Nat.reduceLT, reduceIte, reduceCtorEq, Int.reduceToNat, Int.reduceLE, Int.reduceLT, Int.reduceNeg, Bool.not_not, and_self, Bool.and_eq_false_iff, Int.cast_ofNat_Int, Int.reduceAdd, Int.reduceSub, Int.reduceMul, Int.reduceEq, Int.reduceNe, B40_0, wf_ins, getD_ins hlt, getI hlt, show (i : Int) < (l.length : Int) by omega, hkey]
    refine ⟨fun hq1 => ?_, fun hq0 => ⟨⟨by omega, by omega⟩, i + 1, rfl, ⟨hlt, fun j hj hji => ?_⟩, by omega⟩⟩
    · have h1 : l.any (fun x => decide (x.key = k)) = true := List.any_eq_true.2 ⟨_, List.getElem_mem hlt, by simpa using hq1⟩
      have h2 : l.findIdx (fun x => decide (x.key = k)) = i := (List.findIdx_eq hlt).2 ⟨by simpa using hq1, fun j hji => hq j (by omega) hji⟩
      unfold findI idxA
      rw [h1, h2]; rfl
    · by_cases hj2 : j = i
      · subst hj2; exact hq0
      · have := hq j hj (by omega)
        simpa using this
  · simp only [go_sem, Nat.reduceEqDiff, Nat.reduceBEq, Nat.reduceAdd, Nat.reduceMul, Nat.reduceSub, Nat.reduceLeDiff, Nat.reduceLT, reduceIte, reduceCtorEq, Int.reduceToNat, Int.reduceLE, Int.reduceLT, Int.reduceNeg, Bool.not_not, and_self, Bool.and_eq_false_iff, Int.cast_ofNat_Int, Int.reduceAdd, Int.reduceSub, Int.reduceMul, Int.reduceEq, Int.reduceNe, B40_0, R40_0, show ¬ ((i : Int) < (l.length : Int)) by omega]
    have h1 : l.any (fun x => decide (x.key = k)) = false := by
      rw [List.any_eq_false]
      intro x hx
      obtain ⟨j, hj, rfl⟩ := List.getElem_of_mem hx
      simpa using hq j hj (by omega)
    unfold findI idxA
    rw [h1]; rfl
def countI (l : List In) : Nat := (l.map fun x => x.l.length).sum
def allI (l : List In) : List Kp := (l.map fun x => x.l).flatten
theorem allI_len (l : List In) : (allI l).length = countI l := by simp [allI, countI, List.length_flatten, List.map_map, Function.comp_def]
theorem countI_succ {l : List In} {i : Nat} (h : i < l.length) : countI (l.take (i + 1)) = countI (l.take i) + l[i].l.length := by
  unfold countI
  rw [take_snoc h, getI h, List.map_append, List.sum_append]
  simp only [List.map_cons, List.map_nil, List.sum_cons, List.sum_nil, Nat.add_zero]
theorem allI_succ {l : List In} {i : Nat} (h : i < l.length) : allI (l.take (i + 1)) = allI (l.take i) ++ l[i].l := by
  unfold allI
  rw [take_snoc h, getI h, List.map_append, List.flatten_append]
  simp only [List.map_cons, List.map_nil, List.flatten_cons, List.flatten_nil, List.append_nil]
theorem countI_le {l : List In} (hk : ∀ x ∈ l, x.l.length < 100000) : ∀ i, countI (l.take i) ≤ i * 100000
  | 0 => by simp [countI]
  | i + 1 => by
    have ih := countI_le hk i
    by_cases h : i < l.length
    · rw [countI_succ h]
      have := hk _ (List.getElem_mem h)
      omega
    · rw [List.take_of_length_le (by omega)]
      rw [List.take_of_length_le (by omega)] at ih
      exact Nat.le_trans ih (Nat.mul_le_mul_right _ (Nat.le_succ i))
theorem fn41 (l : List In) (hl : l.length < 100000) (hk : ∀ x ∈ l, x.l.length < 100000) : Fn Try.prog 41 [ins l] (.pv (pI (countI l))) [] := by
  refine Run41 [] (by simp) ?_
  simp only [go_sem, Nat.reduceEqDiff, Nat.reduceBEq, Nat.reduceAdd, Nat.reduceMul, Nat.reduceSub, Nat.reduceLeDiff, Nat.reduceLT, reduceIte, reduceCtorEq, Int.reduceToNat, Int.reduceLE, Int.reduceLT, Int.reduceNeg, Bool.not_not, and_self, Bool.and_eq_false_iff, Int.cast_ofNat_Int, Int.reduceAdd, Int.reduceSub, Int.reduceMul, Int.reduceEq, Int.reduceNe, M41]
  refine run_loop (T := Nat) (fun i => ⟨[(3, .pv (pI (countI (l.take i)))), (6, .pv (ins l)), (7, .pv (pI l.length)), (8, .pv (pI i))], []⟩) (fun i => i ≤ l.length) (fun i => l.length - i) 0 rfl (Nat.zero_le _) ?_
  intro i hi
  by_cases hlt : i < l.length
  · have hb := countI_le hk i
    have hx := hk _ (List.getElem_mem hlt)
    have hs := countI_succ hlt
    simp only [go_sem, Nat.reduceEqDiff, Nat.reduceBEq, Nat.reduceAdd, Nat.reduceMul, Nat.reduceSub, Nat.reduceLeDiff, Nat.reduceLT, reduceIte, reduceCtorEq, Int.reduceToNat, Int.reduceLE, Int.reduceLT, Int.reduceNeg, Bool.not_not, and_self, Bool.and_eq_false_iff, Int.cast_ofNat_Int, Int.reduceAdd, Int.reduceSub, Int.reduceMul, Int.reduceEq, Int.reduceNe, B41_0, wf_ins, getD_ins hlt, getI hlt, show (i : Int) < (l.length : Int) by omega]
    refine ⟨⟨by omega, by omega⟩, ⟨by omega, by omega⟩, i + 1, ?_, hlt, by omega⟩
    rw [hs]; rfl
  · have hie : i = l.length := by omega
    subst hie
    simp only [go_sem, Nat.reduceEqDiff, Nat.reduceBEq, Nat.reduceAdd, Nat.reduceMul, Nat.reduceSub, Nat.reduceLeDiff, Nat.reduceLT, reduceIte, reduceCtorEq, Int.reduceToNat, Int.reduceLE, Int.reduceLT, Int.reduceNeg, Bool.not_not, and_self, Bool.and_eq_false_iff, Int.cast_ofNat_Int, Int.reduceAdd, Int.reduceSub, Int.reduceMul, Int.reduceEq, Int.reduceNe, B41_0, R41_0, show ¬ ((l.length : Int) < (l.length : Int)) by omega]
theorem fn32 (l : List In) (hl : l.length < 100000) (hk : ∀ x ∈ l, x.l.length < 100000) : Fn Try.prog 32 [ins l] (.pv (ks (allI l))) [] := by
  refine Run32 [false] (by simp) ?_
  simp only [go_sem, Nat.reduceEqDiff, Nat.reduceBEq, Nat.reduceAdd, Nat.reduceMul, Nat.reduceSub, Nat.reduceLeDiff, Nat.reduceLT, reduceIte, reduceCtorEq, Int.reduceToNat, Int.reduceLE, Int.reduceLT, Int.reduceNeg, Bool.not_not, and_self, Bool.and_eq_false_iff, Int.cast_ofNat_Int, Int.reduceAdd, Int.reduceSub, Int.reduceMul, Int.reduceEq, Int.reduceNe, M32]
  refine run_loop (T := Nat) (fun i => ⟨[(0, .pv (ins l)), (3, .row 2003 0 (allI (l.take i)).length), (4, .pv (pI i))], [(2003, .sl 3 ((allI (l.take i)).map Kp.pv))]⟩) (fun i => i ≤ l.length) (fun i => l.length - i) 0 rfl (Nat.zero_le _) ?_
  intro i hi
  by_cases hlt : i < l.length
  · have hb := countI_le hk i
    rw [← allI_len] at hb
    have hx := hk _ (List.getElem_mem hlt)
    have hs := allI_succ hlt
    simp only [go_sem, Nat.reduceEqDiff, Nat.reduceBEq, Nat.reduceAdd, Nat.reduceMul, Nat.reduceSub, Nat.reduceLeDiff, Nat.reduceLT, reduceIte, reduceCtorEq, Int.reduceToNat, Int.reduceLE, Int.reduceLT, Int.reduceNeg, Bool.not_not, and_self, Bool.and_eq_false_iff, Int.cast_ofNat_Int, Int.reduceAdd, Int.reduceSub, Int.reduceMul, Int.reduceEq, Int.reduceNe, B32_0, wf_ins, getD_ins hlt, getI hlt, show (i : Int) < (l.length : Int) by omega, wf_ks]
    refine ⟨⟨by omega, by omega⟩, ⟨by omega, by omega⟩, i + 1, ?_, hlt, by omega⟩
    rw [take_len_map, hs, List.length_append, List.map_append]; rfl
  · have hie : i = l.length := by omega
    subst hie
    simp only [go_sem, Nat.reduceEqDiff, Nat.reduceBEq, Nat.reduceAdd, Nat.reduceMul, Nat.reduceSub, Nat.reduceLeDiff, Nat.reduceLT, reduceIte, reduceCtorEq, Int.reduceToNat, Int.reduceLE, Int.reduceLT, Int.reduceNeg, Bool.not_not, and_self, Bool.and_eq_false_iff, Int.cast_ofNat_Int, Int.reduceAdd, Int.reduceSub, Int.reduceMul, Int.reduceEq, Int.reduceNe, B32_0, R32_0, show ¬ ((l.length : Int) < (l.length : Int)) by omega]
    rw [List.take_of_length_le (by simp)]
theorem fn67 (k : Kp) (n : Int) : Fn Try.prog 67 [k.pv, .pt [pU n]] (.pv (pB (decide (k.id = n)))) [] := by
  refine Run67 [] (by simp) ?_
  simp only [go_sem, Nat.reduceEqDiff, Nat.reduceBEq, Nat.reduceAdd, Nat.reduceMul, Nat.reduceSub, Nat.reduceLeDiff, Nat.reduceLT, reduceIte, reduceCtorEq, Int.reduceToNat, Int.reduceLE, Int.reduceLT, Int.reduceNeg, Bool.not_not, and_self, Bool.and_eq_false_iff, Int.cast_ofNat_Int, Int.reduceAdd, Int.reduceSub, Int.reduceMul, Int.reduceEq, Int.reduceNe, M67]
theorem fn66 (x : In) (n : Int) (hx : x.l.length < 100000) : Fn Try.prog 66 [x.pv, .pt [pU n]] (.pv (pB (idIn x.l n))) [] := by
  refine Run66 [] (by simp) ?_
  simp only [go_sem, Nat.reduceEqDiff, Nat.reduceBEq, Nat.reduceAdd, Nat.reduceMul, Nat.reduceSub, Nat.reduceLeDiff, Nat.reduceLT, reduceIte, reduceCtorEq, Int.reduceToNat, Int.reduceLE, Int.reduceLT, Int.reduceNeg, Bool.not_not, and_self, Bool.and_eq_false_iff, Int.cast_ofNat_Int, Int.reduceAdd, Int.reduceSub, Int.reduceMul, Int.reduceEq, Int.reduceNe, M66]
  refine runR_callf (by simp only [go_sem, Nat.reduceEqDiff, Nat.reduceBEq, Nat.reduceAdd, Nat.reduceMul, Nat.reduceSub, Nat.reduceLeDiff, Nat.reduceLT, reduceIte, reduceCtorEq, Int.reduceToNat, Int.reduceLE, Int.reduceLT, Int.reduceNeg, Bool.not_not, and_self, Bool.and_eq_false_iff, Int.cast_ofNat_Int, Int.reduceAdd, Int.reduceSub, Int.reduceMul, Int.reduceEq, Int.reduceNe]) (by simp only [go_sem, Nat.reduceEqDiff, Nat.reduceBEq, Nat.reduceAdd, Nat.reduceMul, Nat.reduceSub, Nat.reduceLeDiff, Nat.reduceLT, reduceIte, reduceCtorEq, Int.reduceToNat, Int.reduceLE, Int.reduceLT, Int.reduceNeg, Bool.not_not, and_self, Bool.and_eq_false_iff, Int.cast_ofNat_Int, Int.reduceAdd, Int.reduceSub, Int.reduceMul, Int.reduceEq, Int.reduceNe]) (fn59 x.l 67 [.pt [pU n]] (fun k => decide (k.id = n)) hx (fun k _ => fn67 k n)) ⟨rfl, trivial⟩ trivial ?_
  simp only [go_sem, Nat.reduceEqDiff, Nat.reduceBEq, Nat.reduceAdd, Nat.reduceMul, Nat.reduceSub, Nat.reduceLeDiff, Nat.reduceLT, reduceIte, reduceCtorEq, Int.reduceToNat, Int.reduceLE, Int.reduceLT, Int.reduceNeg, Bool.not_not, and_self, Bool.and_eq_false_iff, Int.cast_ofNat_Int, Int.reduceAdd, Int.reduceSub, Int.reduceMul, Int.reduceEq, Int.reduceNe]
  rfl
theorem fn65 (l : List In) (g : Nat) (caps : List PV) (q : In → Bool) (hl : l.length < 100000) (hg : ∀ k ∈ l, Fn Try.prog g (k.pv :: caps) (.pv (pB (q k))) []) :
    Fn Try.prog 65 [ins l, .fn g caps] (.pv (pB (l.any q))) [] := by
  refine Run65 [] (by simp) ?_
  simp only [go_sem, Nat.reduceEqDiff, Nat.reduceBEq, Nat.reduceAdd, Nat.reduceMul, Nat.reduceSub, Nat.reduceLeDiff, Nat.reduceLT, reduceIte, reduceCtorEq, Int.reduceToNat, Int.reduceLE, Int.reduceLT, Int.reduceNeg, Bool.not_not, and_self, Bool.and_eq_false_iff, Int.cast_ofNat_Int, Int.reduceAdd, Int.reduceSub, Int.reduceMul, Int.reduceEq, Int.reduceNe, M65]
  refine runR_callf (by simp only [go_sem, Nat.reduceEqDiff, Nat.reduceBEq, Nat.reduceAdd, Nat.reduceMul, Nat.reduceSub, Nat.reduceLeDiff, Nat.reduceLT, reduceIte, reduceCtorEq, Int.reduceToNat, Int.reduceLE, Int.reduceLT, Int.reduceNeg, Bool.not_not, and_self, Bool.and_eq_false_iff, Int.cast_ofNat_Int, Int.reduceAdd, Int.reduceSub, Int.reduceMul, Int.reduceEq, Int.reduceNe]) (by simp only [go_sem, Nat.reduceEqDiff, Nat.reduceBEq, Nat.reduceAdd, Nat.reduceMul, Nat.reduceSub, Nat.reduceLeDiff, Nat.reduceLT, reduceIte, reduceCtorEq, Int.reduceToNat, Int.reduceLE, Int.reduceLT, Int.reduceNeg, Bool.not_not, and_self, Bool.and_eq_false_iff, Int.cast_ofNat_Int, Int.reduceAdd, Int.reduceSub, Int.reduceMul, Int.reduceEq, Int.reduceNe]) (fn57 l g caps q hl hg) ⟨rfl, trivial⟩ trivial ?_
  simp only [go_sem, Nat.reduceEqDiff, Nat.reduceBEq, Nat.reduceAdd, Nat.reduceMul, Nat.reduceSub, Nat.reduceLeDiff, Nat.reduceLT, reduceIte, reduceCtorEq, Int.reduceToNat, Int.reduceLE, Int.reduceLT, Int.reduceNeg, Bool.not_not, and_self, Bool.and_eq_false_iff, Int.cast_ofNat_Int, Int.reduceAdd, Int.reduceSub, Int.reduceMul, Int.reduceEq, Int.reduceNe]
  unfold idxA
  split
  · rename_i h; simp [h]
  · rename_i h; simp [h]
theorem fn53 (l : List In) (n : Int) (hl : l.length < 100000) (hk : ∀ x ∈ l, x.l.length < 100000) : Fn Try.prog 53 [ins l, pU n] (.pv (pB (l.any fun x => idIn x.l n))) [] := by
  refine Run53 [] (by simp) ?_
  simp only [go_sem, Nat.reduceEqDiff, Nat.reduceBEq, Nat.reduceAdd, Nat.reduceMul, Nat.reduceSub, Nat.reduceLeDiff, Nat.reduceLT, reduceIte, reduceCtorEq, Int.reduceToNat, Int.reduceLE, Int.reduceLT, Int.reduceNeg, Bool.not_not, and_self, Bool.and_eq_false_iff, Int.cast_ofNat_Int, Int.reduceAdd, Int.reduceSub, Int.reduceMul, Int.reduceEq, Int.reduceNe, M53]
  refine runR_callf (by simp only [go_sem, Nat.reduceEqDiff, Nat.reduceBEq, Nat.reduceAdd, Nat.reduceMul, Nat.reduceSub, Nat.reduceLeDiff, Nat.reduceLT, reduceIte, reduceCtorEq, Int.reduceToNat, Int.reduceLE, Int.reduceLT, Int.reduceNeg, Bool.not_not, and_self, Bool.and_eq_false_iff, Int.cast_ofNat_Int, Int.reduceAdd, Int.reduceSub, Int.reduceMul, Int.reduceEq, Int.reduceNe]) (by simp only [go_sem, Nat.reduceEqDiff, Nat.reduceBEq, Nat.reduceAdd, Nat.reduceMul, Nat.reduceSub, Nat.reduceLeDiff, Nat.reduceLT, reduceIte, reduceCtorEq, Int.reduceToNat, Int.reduceLE, Int.reduceLT, Int.reduceNeg, Bool.not_not, and_self, Bool.and_eq_false_iff, Int.cast_ofNat_Int, Int.reduceAdd, Int.reduceSub, Int.reduceMul, Int.reduceEq, Int.reduceNe]) (fn65 l 66 [.pt [pU n]] (fun x => idIn x.l n) hl (fun x hx => fn66 x n (hk x hx))) ⟨rfl, trivial⟩ trivial ?_
  simp only [go_sem, Nat.reduceEqDiff, Nat.reduceBEq, Nat.reduceAdd, Nat.reduceMul, Nat.reduceSub, Nat.reduceLeDiff, Nat.reduceLT, reduceIte, reduceCtorEq, Int.reduceToNat, Int.reduceLE, Int.reduceLT, Int.reduceNeg, Bool.not_not, and_self, Bool.and_eq_false_iff, Int.cast_ofNat_Int, Int.reduceAdd, Int.reduceSub, Int.reduceMul, Int.reduceEq, Int.reduceNe]
theorem fn51p (l : List Kp) (hl : l.length < 100000) : Fn Try.prog 51 [ks l] (.pv (ks l)) [] := by
  refine Run51 [false] (by simp) ?_
  simp only [go_sem, Nat.reduceEqDiff, Nat.reduceBEq, Nat.reduceAdd, Nat.reduceMul, Nat.reduceSub, Nat.reduceLeDiff, Nat.reduceLT, reduceIte, reduceCtorEq, Int.reduceToNat, Int.reduceLE, Int.reduceLT, Int.reduceNeg, Bool.not_not, and_self, Bool.and_eq_false_iff, Int.cast_ofNat_Int, Int.reduceAdd, Int.reduceSub, Int.reduceMul, Int.reduceEq, Int.reduceNe, M51, wf_ks]
  refine runR_isnil rfl rfl ?_
  intro b hb
  simp only [go_sem, Nat.reduceEqDiff, Nat.reduceBEq, Nat.reduceAdd, Nat.reduceMul, Nat.reduceSub, Nat.reduceLeDiff, Nat.reduceLT, reduceIte, reduceCtorEq, Int.reduceToNat, Int.reduceLE, Int.reduceLT, Int.reduceNeg, Bool.not_not, and_self, Bool.and_eq_false_iff, Int.cast_ofNat_Int, Int.reduceAdd, Int.reduceSub, Int.reduceMul, Int.reduceEq, Int.reduceNe, wf_ks]
  refine ⟨fun h => ?_, fun h => ⟨⟨by omega, by omega⟩, ?_⟩⟩
  · have : l = [] := by simpa using hb h
    subst this; rfl
  · rw [List.take_of_length_le (by simp)]
end Go.Vc
