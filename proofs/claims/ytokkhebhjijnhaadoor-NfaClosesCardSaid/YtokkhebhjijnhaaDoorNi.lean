/- A part of the proofs of the seat YtokkhebhjijnhaaDoor: the contracts of functions, each proved out of its code. -/
import Derived.Test.YtokkhebhjijnhaaDoorVh
import Derived.Test.YtokkhebhjijnhaaDoorProg
import Derived.Test.YtokkhebhjijnhaaDoorNh
import Derived.Test.YtokkhebhjijnhaaDoorVf
import Derived.Test.YtokkhebhjijnhaaDoorRows
import Derived.LaidHandle
namespace Go.Vc
open Go.Proofs
set_option maxRecDepth 100000

/-- 'trystlaw06.awake' -/
def M15 : MC := (.seq (.reg [⟨(some 0), none, (.q (.mv (.c (.bool false))))⟩] [] [] []) (.seq (.reg [⟨(some 6), none, (.lits [(.c (.string ⟨#[97, 46, 42]⟩)), (.c (.string ⟨#[42, 42]⟩))] 1)⟩,
  ⟨(some 7), none, (.call (.f 11) [(.t 6)])⟩, ⟨(some 5), none, (.q (.mv (.t 7)))⟩, ⟨(some 8), none, (.q (.ext (.t 5) 0))⟩, ⟨(some 9), none, (.q (.ext (.t 5) 1))⟩, ⟨(some 1), none, (.alloc [.e0, .e0,
  .e0, .e0])⟩, ⟨none, none, (.st (.t 1) (.t 8) 4)⟩, ⟨(some 2), none, (.q (.mv (.t 9)))⟩] [] [1, 2] [1, 1007]) (.seq (.reg [⟨(some 11), none, (.lits [(.c (.string ⟨#[97, 46, 46, 98]⟩))] 1)⟩,
  ⟨(some 12), none, (.call (.f 11) [(.t 11)])⟩, ⟨(some 10), none, (.q (.mv (.t 12)))⟩, ⟨(some 13), none, (.q (.ext (.t 10) 0))⟩, ⟨(some 14), none, (.q (.ext (.t 10) 1))⟩, ⟨(some 3), none,
  (.alloc [.e0, .e0, .e0, .e0])⟩, ⟨none, none, (.st (.t 3) (.t 13) 4)⟩, ⟨(some 4), none, (.q (.mv (.t 14)))⟩] [] [1, 2, 4] [1, 1007, 1012]) (.seq (.reg [⟨(some 15), none, (.q (.mv (.t 2)))⟩,
  ⟨(some 16), none, (.q (.bin .eql (.t 15) (.c (.int .i64 0))))⟩, ⟨(some 17), none, (.q (.mv (.t 16)))⟩, ⟨(some 18), (some (17, true)), (.q (.ld (.t 1) 4 true))⟩, ⟨(some 19), (some (17, true)),
  (.call (.f 21) [(.t 18), (.c (.string ⟨#[97, 46, 98]⟩))])⟩, ⟨(some 20), (some (17, true)), (.lits [(.c (.int .i64 0)), (.c (.int .i64 1))] 1)⟩, ⟨(some 21), (some (17, true)), (.call (.f 16)
  [(.t 19), (.t 20)])⟩, ⟨(some 22), none, (.q (.pick (.t 17) (.t 21) (.c (.bool false))))⟩, ⟨(some 23), none, (.q (.mv (.t 22)))⟩, ⟨(some 24), (some (23, true)), (.q (.ld (.t 1) 4 true))⟩, ⟨(some 25),
  (some (23, true)), (.call (.f 21) [(.t 24), (.c (.string ⟨#[97]⟩))])⟩, ⟨(some 26), (some (23, true)), (.lits [(.c (.int .i64 1))] 1)⟩, ⟨(some 27), (some (23, true)), (.call (.f 16) [(.t 25),
  (.t 26)])⟩, ⟨(some 28), none, (.q (.pick (.t 23) (.t 27) (.c (.bool false))))⟩, ⟨(some 29), none, (.q (.mv (.t 28)))⟩, ⟨(some 30), (some (29, true)), (.q (.mv (.t 4)))⟩, ⟨(some 31), (some (29,
  true)), (.q (.bin .eql (.t 30) (.c (.int .i64 1))))⟩, ⟨(some 32), none, (.q (.pick (.t 29) (.t 31) (.c (.bool false))))⟩, ⟨(some 33), none, (.q (.mv (.t 32)))⟩, ⟨(some 34), none, (.q (.pick (.t 33)
  (.c (.bool true)) (.c (.bool false))))⟩, ⟨(some 0), none, (.q (.mv (.t 34)))⟩] [] [0] [1007, 1012, 1021, 1027]) .ret))))
theorem mc15 : ofCode Tryd.prog [] Tryd.f15.ntmps [(0, ⟨[], [], [], 0, [], none⟩),
    (1, ⟨[1, 2], [1, 1007], [], 0, [], none⟩),
    (2, ⟨[1, 2, 4], [1, 1007, 1012], [], 0, [], none⟩),
    (3, ⟨[0], [1007, 1012, 1021, 1027], [], 0, [], none⟩)] (Tryd.f15.body.getD .skip) = some M15 := by kernel_rfl
theorem Run15 {args : List PV} {v : AV} {rs : List (Nat × List PV)} (ids : List Bool) (h : args.length ≤ 35) (hv : run Tryd.prog (retK [RV.tmp 0] ids v rs) M15 [] ⟨entry 0 args, []⟩) : Fn Tryd.prog 15 args v rs :=
  Fn_run ids (by kernel_rfl) Tryd.func15 (by decide) rfl mc15 (by kernel_rfl) (by rw [Tryd.ntmps15]; exact h) (by rw [Tryd.ntmps15]; decide) hv

/-- 'trystlaw06.NfaBuilds' -/
def B3_0 : MC := (.seq (.seq (.reg [⟨(some 46), none, (.q (.mv (.t 10)))⟩, ⟨(some 47), none, (.q (.fa (.t 7) 0))⟩, ⟨(some 48), none, (.q (.ld (.t 47) 1 false))⟩, ⟨(some 49), none, (.q (.len (.t 48)
  false))⟩, ⟨(some 50), none, (.q (.bin .lss (.t 46) (.t 49)))⟩] [] [1, 5, 7, 9, 10, 50] [5, 7, 1014, 1017, 1022]) (.cond (.t 50) .skip (.exit 0))) (.seq (.block 1 (.seq (.reg [⟨(some 53), none,
  (.q (.fa (.t 7) 0))⟩, ⟨(some 54), none, (.q (.ld (.t 53) 1 false))⟩, ⟨(some 55), none, (.q (.mv (.t 10)))⟩, ⟨(some 56), none, (.q (.ia (.t 54) (.t 55) 1))⟩, ⟨(some 57), none, (.q (.ld (.t 56)
  1 false))⟩, ⟨(some 58), none, (.q (.mv (.t 1)))⟩, ⟨(some 59), none, (.q (.bin .eql (.t 57) (.t 58)))⟩] [] [1, 5, 7, 9, 10, 59] [5, 7, 1014, 1017, 1022]) (.cond (.t 59) (.reg [⟨(some 60), none,
  (.q (.mv (.t 10)))⟩, ⟨(some 9), none, (.q (.mv (.t 60)))⟩] [] [1, 5, 7, 9, 10] [5, 7, 1014, 1017, 1022]) .skip))) (.reg [⟨(some 51), none, (.q (.mv (.t 10)))⟩, ⟨(some 52), none,
  (.q (.bin .add (.t 51) (.c (.int .i64 1))))⟩, ⟨(some 10), none, (.q (.mv (.t 52)))⟩] [] [1, 5, 7, 9, 10] [5, 7, 1014, 1017, 1022])))
def R3_0 : MC := (.seq (.reg [⟨(some 61), none, (.q (.ld (.t 5) 4 true))⟩, ⟨(some 62), none, (.q (.mv (.t 1)))⟩, ⟨(some 63), none, (.call (.f 14) [(.t 61), (.t 62)])⟩, ⟨(some 64), none,
  (.q (.mv (.t 9)))⟩, ⟨(some 65), none, (.q (.bin .eql (.t 63) (.t 64)))⟩, ⟨(some 66), none, (.q (.mv (.t 65)))⟩, ⟨(some 67), (some (66, true)), (.call (.f 15) [])⟩, ⟨(some 68), none,
  (.q (.pick (.t 66) (.t 67) (.c (.bool false))))⟩, ⟨(some 4), none, (.q (.mv (.t 68)))⟩] [] [4] [1063, 1067]) .ret)
def M3 : MC := (.seq (.reg [⟨(some 4), none, (.q (.mv (.c (.bool false))))⟩] [] [0, 1] [1012, 1014]) (.seq (.reg [⟨(some 11), none, (.q (.mv (.t 0)))⟩, ⟨(some 12), none, (.call (.f 9) [(.t 11)])⟩,
  ⟨(some 13), none, (.q (.mv (.t 1)))⟩, ⟨(some 14), none, (.call (.f 10) [(.t 13)])⟩, ⟨(some 0), none, (.q (.mv (.t 12)))⟩, ⟨(some 1), none, (.q (.mv (.t 14)))⟩] [] [0, 1] [1012, 1014])
  (.seq (.reg [⟨(some 16), none, (.q (.mv (.t 0)))⟩, ⟨(some 17), none, (.call (.f 11) [(.t 16)])⟩, ⟨(some 15), none, (.q (.mv (.t 17)))⟩, ⟨(some 18), none, (.q (.ext (.t 15) 0))⟩, ⟨(some 19), none,
  (.q (.ext (.t 15) 1))⟩, ⟨(some 5), none, (.alloc [.e0, .e0, .e0, .e0])⟩, ⟨none, none, (.st (.t 5) (.t 18) 4)⟩, ⟨(some 6), none, (.q (.mv (.t 19)))⟩] [] [0, 1, 5, 6] [5, 1012, 1014, 1017])
  (.seq (.reg [⟨(some 21), none, (.q (.mv (.t 0)))⟩, ⟨(some 22), none, (.call (.f 12) [(.t 21)])⟩, ⟨(some 20), none, (.q (.mv (.t 22)))⟩, ⟨(some 23), none, (.q (.ext (.t 20) 0))⟩, ⟨(some 24), none,
  (.q (.ext (.t 20) 1))⟩, ⟨(some 7), none, (.alloc [.e0, .e0, .e0, .e0])⟩, ⟨none, none, (.st (.t 7) (.t 23) 4)⟩, ⟨(some 8), none, (.q (.mv (.t 24)))⟩] [] [1, 5, 6, 7, 8] [5, 7, 1014, 1017, 1022])
  (.seq (.seq (.reg [⟨(some 25), none, (.q (.ld (.t 5) 4 true))⟩, ⟨(some 26), none, (.q (.ld (.t 7) 4 true))⟩, ⟨(some 27), none, (.call (.f 13) [(.t 25), (.t 26)])⟩, ⟨(some 28), none,
  (.q (.not (.t 27)))⟩, ⟨(some 29), none, (.q (.mv (.t 28)))⟩, ⟨(some 30), (some (29, false)), (.q (.mv (.t 6)))⟩, ⟨(some 31), (some (29, false)), (.q (.bin .eql (.t 30) (.c (.int .i64 0))))⟩,
  ⟨(some 32), (some (29, false)), (.q (.mv (.t 8)))⟩, ⟨(some 33), (some (29, false)), (.q (.beq true (.t 31) (.t 32)))⟩, ⟨(some 34), none, (.q (.pick (.t 29) (.c (.bool true)) (.t 33)))⟩, ⟨(some 35),
  none, (.q (.mv (.t 34)))⟩, ⟨(some 36), (some (35, false)), (.q (.mv (.t 8)))⟩, ⟨(some 37), (some (35, false)), (.q (.not (.t 36)))⟩, ⟨(some 38), (some (35, false)), (.q (.mv (.t 37)))⟩, ⟨(some 39),
  (some (38, true)), (.q (.mv (.t 6)))⟩, ⟨(some 40), (some (38, true)), (.q (.bin .neq (.t 39) (.c (.int .i64 1))))⟩, ⟨(some 41), (some (35, false)), (.q (.pick (.t 38) (.t 40) (.c (.bool false))))⟩,
  ⟨(some 42), none, (.q (.pick (.t 35) (.c (.bool true)) (.t 41)))⟩] [] [1, 5, 7, 42] [5, 7, 1014, 1017, 1022, 1027]) (.cond (.t 42) (.seq (.reg [⟨(some 4), none,
  (.q (.mv (.c (.bool false))))⟩] [] [4] [1063, 1067]) .ret) .skip)) (.seq (.reg [⟨(some 43), none, (.q (.fa (.t 7) 0))⟩, ⟨(some 44), none, (.q (.ld (.t 43) 1 false))⟩, ⟨(some 45), none,
  (.q (.len (.t 44) false))⟩, ⟨(some 9), none, (.q (.mv (.t 45)))⟩] [] [1, 5, 7, 9] [5, 7, 1014, 1017, 1022]) (.seq (.seq (.reg [⟨(some 10), none, (.q (.mv (.c (.int .i64 0))))⟩] [] [1, 5, 7, 9,
  10] [5, 7, 1014, 1017, 1022]) (.block 0 (.loop B3_0))) R3_0)))))))
theorem mc3 : ofCode Tryd.prog [] Tryd.f3.ntmps [(0, ⟨[0, 1], [1012, 1014], [], 0, [], none⟩),
    (1, ⟨[0, 1], [1012, 1014], [], 0, [], none⟩),
    (2, ⟨[0, 1, 5, 6], [5, 1012, 1014, 1017], [], 0, [], none⟩),
    (3, ⟨[1, 5, 6, 7, 8], [5, 7, 1014, 1017, 1022], [], 0, [], none⟩),
    (4, ⟨[1, 5, 7, 42], [5, 7, 1014, 1017, 1022, 1027], [], 0, [], none⟩),
    (5, ⟨[4], [1063, 1067], [], 0, [], none⟩),
    (6, ⟨[1, 5, 7, 9], [5, 7, 1014, 1017, 1022], [], 0, [], none⟩),
    (7, ⟨[1, 5, 7, 9, 10], [5, 7, 1014, 1017, 1022], [], 0, [], none⟩),
    (8, ⟨[1, 5, 7, 9, 10, 50], [5, 7, 1014, 1017, 1022], [], 0, [], none⟩),
    (9, ⟨[1, 5, 7, 9, 10], [5, 7, 1014, 1017, 1022], [], 0, [], none⟩),
    (10, ⟨[1, 5, 7, 9, 10, 59], [5, 7, 1014, 1017, 1022], [], 0, [], none⟩),
    (11, ⟨[1, 5, 7, 9, 10], [5, 7, 1014, 1017, 1022], [], 0, [], none⟩),
    (12, ⟨[4], [1063, 1067], [], 0, [], none⟩)] (Tryd.f3.body.getD .skip) = some M3 := by kernel_rfl
theorem Run3 {args : List PV} {v : AV} {rs : List (Nat × List PV)} (ids : List Bool) (h : args.length ≤ 69) (hv : run Tryd.prog (retK [RV.tmp 4] ids v rs) M3 [] ⟨entry 0 args, []⟩) : Fn Tryd.prog 3 args v rs :=
  Fn_run ids (by kernel_rfl) Tryd.func3 (by decide) rfl mc3 (by kernel_rfl) (by rw [Tryd.ntmps3]; exact h) (by rw [Tryd.ntmps3]; decide) hv

/-- 'trystlaw06.NfaSteps' -/
def M4 : MC := (.seq (.reg [⟨(some 6), none, (.q (.mv (.c (.bool false))))⟩] [] [0, 1, 2] [1012]) (.seq (.reg [⟨(some 11), none, (.q (.mv (.t 0)))⟩, ⟨(some 12), none, (.call (.f 9) [(.t 11)])⟩,
  ⟨(some 0), none, (.q (.mv (.t 12)))⟩] [] [0, 1, 2] [1012]) (.seq (.seq (.reg [⟨(some 13), none, (.q (.mv (.t 1)))⟩, ⟨(some 14), none, (.q (.len (.t 13) false))⟩, ⟨(some 15), none,
  (.q (.bin .gtr (.t 14) (.c (.int .i64 60))))⟩] [] [0, 1, 2, 15] [1012]) (.cond (.t 15) (.reg [⟨(some 16), none, (.q (.mv (.t 1)))⟩, ⟨(some 17), none, (.q (.slc (.t 16)
  none (some (.c (.int .i64 60))) 1 false))⟩, ⟨(some 1), none, (.q (.mv (.t 17)))⟩] [] [0, 1, 2] [1012]) .skip)) (.seq (.reg [⟨(some 19), none, (.q (.mv (.t 0)))⟩, ⟨(some 20), none, (.call (.f 11)
  [(.t 19)])⟩, ⟨(some 18), none, (.q (.mv (.t 20)))⟩, ⟨(some 21), none, (.q (.ext (.t 18) 0))⟩, ⟨(some 22), none, (.q (.ext (.t 18) 1))⟩, ⟨(some 7), none, (.alloc [.e0, .e0, .e0, .e0])⟩, ⟨none, none,
  (.st (.t 7) (.t 21) 4)⟩, ⟨(some 8), none, (.q (.mv (.t 22)))⟩] [] [0, 1, 2, 7, 8] [7, 1012, 1020]) (.seq (.reg [⟨(some 24), none, (.q (.mv (.t 0)))⟩, ⟨(some 25), none, (.call (.f 12) [(.t 24)])⟩,
  ⟨(some 23), none, (.q (.mv (.t 25)))⟩, ⟨(some 26), none, (.q (.ext (.t 23) 0))⟩, ⟨(some 27), none, (.q (.ext (.t 23) 1))⟩, ⟨(some 9), none, (.alloc [.e0, .e0, .e0, .e0])⟩, ⟨none, none, (.st (.t 9)
  (.t 26) 4)⟩, ⟨(some 10), none, (.q (.mv (.t 27)))⟩] [] [1, 2, 7, 8, 9, 10] [7, 9, 1020, 1025]) (.seq (.seq (.reg [⟨(some 28), none, (.q (.mv (.t 10)))⟩, ⟨(some 29), none,
  (.q (.not (.t 28)))⟩] [] [1, 2, 7, 8, 9, 29] [7, 9, 1020, 1025]) (.cond (.t 29) (.seq (.reg [⟨(some 30), none, (.q (.mv (.t 8)))⟩, ⟨(some 31), none, (.q (.bin .eql (.t 30) (.c (.int .i64 1))))⟩,
  ⟨(some 32), none, (.q (.mv (.t 31)))⟩, ⟨(some 33), (some (32, true)), (.call (.f 15) [])⟩, ⟨(some 34), none, (.q (.pick (.t 32) (.t 33) (.c (.bool false))))⟩, ⟨(some 6), none,
  (.q (.mv (.t 34)))⟩] [] [6] [1020, 1033, 1037, 1045, 1056, 1059]) .ret) .skip)) (.seq (.reg [⟨(some 35), none, (.q (.ld (.t 7) 4 true))⟩, ⟨(some 36), none, (.q (.ld (.t 9) 4 true))⟩, ⟨(some 37),
  none, (.call (.f 13) [(.t 35), (.t 36)])⟩, ⟨(some 38), none, (.q (.mv (.t 37)))⟩, ⟨(some 39), (some (38, true)), (.q (.ld (.t 7) 4 true))⟩, ⟨(some 40), (some (38, true)), (.q (.mv (.t 1)))⟩,
  ⟨(some 42), (some (38, true)), (.q (.ld (.t 9) 4 true))⟩, ⟨(some 43), (some (38, true)), (.q (.mv (.t 1)))⟩, ⟨(some 41), (some (38, true)), (.call (.f 17) [(.t 39), (.t 40)])⟩, ⟨(some 44),
  (some (38, true)), (.call (.f 18) [(.t 42), (.t 43)])⟩, ⟨(some 45), (some (38, true)), (.call (.f 16) [(.t 41), (.t 44)])⟩, ⟨(some 46), none, (.q (.pick (.t 38) (.t 45) (.c (.bool false))))⟩,
  ⟨(some 47), none, (.q (.mv (.t 46)))⟩, ⟨(some 48), (some (47, true)), (.q (.ld (.t 7) 4 true))⟩, ⟨(some 49), (some (47, true)), (.q (.mv (.t 1)))⟩, ⟨(some 50), (some (47, true)), (.q (.mv (.t 2)))⟩,
  ⟨(some 52), (some (47, true)), (.q (.ld (.t 9) 4 true))⟩, ⟨(some 53), (some (47, true)), (.q (.mv (.t 1)))⟩, ⟨(some 54), (some (47, true)), (.q (.mv (.t 2)))⟩, ⟨(some 51), (some (47, true)),
  (.call (.f 19) [(.t 48), (.t 49), (.t 50)])⟩, ⟨(some 55), (some (47, true)), (.call (.f 20) [(.t 52), (.t 53), (.t 54)])⟩, ⟨(some 56), (some (47, true)), (.call (.f 16) [(.t 51), (.t 55)])⟩,
  ⟨(some 57), none, (.q (.pick (.t 47) (.t 56) (.c (.bool false))))⟩, ⟨(some 58), none, (.q (.mv (.t 57)))⟩, ⟨(some 59), (some (58, true)), (.call (.f 15) [])⟩, ⟨(some 60), none, (.q (.pick (.t 58)
  (.t 59) (.c (.bool false))))⟩, ⟨(some 6), none, (.q (.mv (.t 60)))⟩] [] [6] [1020, 1033, 1037, 1045, 1056, 1059]) .ret)))))))
theorem mc4 : ofCode Tryd.prog [] Tryd.f4.ntmps [(0, ⟨[0, 1, 2], [1012], [], 0, [], none⟩),
    (1, ⟨[0, 1, 2], [1012], [], 0, [], none⟩),
    (2, ⟨[0, 1, 2, 15], [1012], [], 0, [], none⟩),
    (3, ⟨[0, 1, 2], [1012], [], 0, [], none⟩),
    (4, ⟨[0, 1, 2, 7, 8], [7, 1012, 1020], [], 0, [], none⟩),
    (5, ⟨[1, 2, 7, 8, 9, 10], [7, 9, 1020, 1025], [], 0, [], none⟩),
    (6, ⟨[1, 2, 7, 8, 9, 29], [7, 9, 1020, 1025], [], 0, [], none⟩),
    (7, ⟨[6], [1020, 1033, 1037, 1045, 1056, 1059], [], 0, [], none⟩),
    (8, ⟨[6], [1020, 1033, 1037, 1045, 1056, 1059], [(0, 134217725), (1, 134217726), (2, 0), (3, 134217720), (4, 134217296), (5, 134217312), (7, 134217344), (8, 134217472), (6, 0), (9, 0), (10, 0), (11, 134215680), (12, 134213632), (13, 133242880), (14, 133251072), (15, 133267456), (17, 133300224), (18, 133431296), (19, 133693440), (16, 0), (20, 0), (21, 0), (22, 130023424), (23, 125829120), (24, 0), (25, 100663296), (26, 67108864)], 134217727, [], none⟩)] (Tryd.f4.body.getD .skip) = some M4 := by kernel_rfl
theorem Run4 {args : List PV} {v : AV} {rs : List (Nat × List PV)} (ids : List Bool) (h : args.length ≤ 61) (hv : run Tryd.prog (retK [RV.tmp 6] ids v rs) M4 [] ⟨entry 0 args, []⟩) : Fn Tryd.prog 4 args v rs :=
  Fn_run ids (by kernel_rfl) Tryd.func4 (by decide) rfl mc4 (by kernel_rfl) (by rw [Tryd.ntmps4]; exact h) (by rw [Tryd.ntmps4]; decide) hv

/-- 'trystlaw06.NfaMeets' -/
def M5 : MC := (.seq (.reg [⟨(some 4), none, (.q (.mv (.c (.bool false))))⟩] [] [0, 1] [1008, 1010]) (.seq (.reg [⟨(some 7), none, (.q (.mv (.t 0)))⟩, ⟨(some 8), none, (.call (.f 9) [(.t 7)])⟩,
  ⟨(some 9), none, (.q (.mv (.t 1)))⟩, ⟨(some 10), none, (.call (.f 10) [(.t 9)])⟩, ⟨(some 0), none, (.q (.mv (.t 8)))⟩, ⟨(some 1), none, (.q (.mv (.t 10)))⟩] [] [0, 1] [1008, 1010])
  (.seq (.reg [⟨(some 12), none, (.q (.mv (.t 0)))⟩, ⟨(some 13), none, (.call (.f 11) [(.t 12)])⟩, ⟨(some 11), none, (.q (.mv (.t 13)))⟩, ⟨(some 14), none, (.q (.ext (.t 11) 0))⟩, ⟨(some 15), none,
  (.q (.ext (.t 11) 1))⟩, ⟨(some 5), none, (.alloc [.e0, .e0, .e0, .e0])⟩, ⟨none, none, (.st (.t 5) (.t 14) 4)⟩, ⟨(some 6), none, (.q (.mv (.t 15)))⟩] [] [0, 1, 5, 6] [5, 1008, 1010, 1013])
  (.seq (.seq (.reg [⟨(some 16), none, (.q (.mv (.t 6)))⟩, ⟨(some 17), none, (.q (.bin .neq (.t 16) (.c (.int .i64 0))))⟩] [] [0, 1, 5, 17] [5, 1008, 1010, 1013]) (.cond (.t 17)
  (.seq (.reg [⟨(some 18), none, (.q (.ld (.t 5) 4 true))⟩, ⟨(some 19), none, (.q (.mv (.t 1)))⟩, ⟨(some 20), none, (.call (.f 21) [(.t 18), (.t 19)])⟩, ⟨(some 21), none, (.q (.len (.t 20) false))⟩,
  ⟨(some 22), none, (.q (.bin .eql (.t 21) (.c (.int .i64 0))))⟩, ⟨(some 23), none, (.q (.mv (.t 22)))⟩, ⟨(some 24), (some (23, true)), (.call (.f 15) [])⟩, ⟨(some 25), none, (.q (.pick (.t 23)
  (.t 24) (.c (.bool false))))⟩, ⟨(some 4), none, (.q (.mv (.t 25)))⟩] [] [4] [1024, 1032, 1034]) .ret) .skip)) (.seq (.reg [⟨(some 26), none, (.q (.ld (.t 5) 4 true))⟩, ⟨(some 27), none,
  (.q (.mv (.t 1)))⟩, ⟨(some 28), none, (.call (.f 21) [(.t 26), (.t 27)])⟩, ⟨(some 29), none, (.q (.mv (.t 0)))⟩, ⟨(some 30), none, (.q (.mv (.t 1)))⟩, ⟨(some 31), none, (.call (.f 22) [(.t 29),
  (.t 30)])⟩, ⟨(some 32), none, (.call (.f 16) [(.t 28), (.t 31)])⟩, ⟨(some 33), none, (.q (.mv (.t 32)))⟩, ⟨(some 34), (some (33, true)), (.call (.f 15) [])⟩, ⟨(some 35), none, (.q (.pick (.t 33)
  (.t 34) (.c (.bool false))))⟩, ⟨(some 4), none, (.q (.mv (.t 35)))⟩] [] [4] [1024, 1032, 1034]) .ret)))))
theorem mc5 : ofCode Tryd.prog [] Tryd.f5.ntmps [(0, ⟨[0, 1], [1008, 1010], [], 0, [], none⟩),
    (1, ⟨[0, 1], [1008, 1010], [], 0, [], none⟩),
    (2, ⟨[0, 1, 5, 6], [5, 1008, 1010, 1013], [], 0, [], none⟩),
    (3, ⟨[0, 1, 5, 17], [5, 1008, 1010, 1013], [], 0, [], none⟩),
    (4, ⟨[4], [1024, 1032, 1034], [], 0, [], none⟩),
    (5, ⟨[4], [1024, 1032, 1034], [], 0, [], none⟩)] (Tryd.f5.body.getD .skip) = some M5 := by kernel_rfl
theorem Run5 {args : List PV} {v : AV} {rs : List (Nat × List PV)} (ids : List Bool) (h : args.length ≤ 36) (hv : run Tryd.prog (retK [RV.tmp 4] ids v rs) M5 [] ⟨entry 0 args, []⟩) : Fn Tryd.prog 5 args v rs :=
  Fn_run ids (by kernel_rfl) Tryd.func5 (by decide) rfl mc5 (by kernel_rfl) (by rw [Tryd.ntmps5]; exact h) (by rw [Tryd.ntmps5]; decide) hv

end Go.Vc

namespace Go.Vc
open Go.Proofs
set_option linter.unusedSimpArgs false
set_option linter.unusedVariables false

/-! ## The chapter's examples -/
abbrev exG : List ByteArray := [⟨#[97, 46, 42]⟩, ⟨#[42, 42]⟩]
abbrev exH : List ByteArray := [⟨#[97, 46, 46, 98]⟩]
theorem exG_good : goodB exG = true := by decide
theorem exH_bad : goodB exH = false := by decide
theorem exG_build : buildR exG = nfaOf (exG.map cutS) := by unfold buildR; rw [exG_good]; rfl
theorem ex_ab : (if topicB ⟨#[97, 46, 98]⟩ = true then resN (exG.map cutS) (partsB ⟨#[97, 46, 98]⟩) else []) = [0, 1] := by decide
theorem ex_a : (if topicB ⟨#[97]⟩ = true then resN (exG.map cutS) (partsB ⟨#[97]⟩) else []) = [1] := by decide
theorem fn21ab : Fn Tryd.prog 21 [pNf (nfaOf (exG.map cutS)), pS ⟨#[97, 46, 98]⟩] (.pv (ints [0, 1])) [] := by
  have := fn21 (exG.map cutS) ⟨#[97, 46, 98]⟩ (gsOk exG_good) (by decide)
  rwa [ex_ab] at this
theorem fn21a : Fn Tryd.prog 21 [pNf (nfaOf (exG.map cutS)), pS ⟨#[97]⟩] (.pv (ints [1])) [] := by
  have := fn21 (exG.map cutS) ⟨#[97]⟩ (gsOk exG_good) (by decide)
  rwa [ex_a] at this
theorem fn11g : Fn Tryd.prog 11 [ss exG] (.pv (.tup [pNf (nfaOf (exG.map cutS)), pI 0])) [] := by
  have := fn11 exG (by decide) (by decide)
  rwa [exG_build, exG_good] at this
theorem fn11h : Fn Tryd.prog 11 [ss exH] (.pv (.tup [pNf (nfaOf []), pI 1])) [] := by
  have := fn11 exH (by decide) (by decide)
  rwa [show buildR exH = nfaOf [] by unfold buildR; rw [exH_bad]; rfl, exH_bad] at this
theorem fn15 : Fn Tryd.prog 15 [] (.pv (pB true)) [] := by
  refine Run15 [] (by simp) ?_
  simp only [go_sem, Nat.reduceEqDiff, Nat.reduceBEq, Nat.reduceAdd, Nat.reduceMul, Nat.reduceSub, Nat.reduceLeDiff, Nat.reduceLT, reduceIte, reduceCtorEq, Int.reduceToNat, Int.reduceLE, Int.reduceLT, Int.reduceNeg, Bool.not_not, and_self, Bool.and_eq_false_iff, Int.cast_ofNat_Int, Int.reduceAdd, Int.reduceSub, Int.reduceMul, Int.reduceEq, Int.reduceNe, M15]
  refine runR_call (by simp only [go_sem, Nat.reduceEqDiff, Nat.reduceBEq, Nat.reduceAdd, Nat.reduceMul, Nat.reduceSub, Nat.reduceLeDiff, Nat.reduceLT, reduceIte, reduceCtorEq, Int.reduceToNat, Int.reduceLE, Int.reduceLT, Int.reduceNeg, Bool.not_not, and_self, Bool.and_eq_false_iff, Int.cast_ofNat_Int, Int.reduceAdd, Int.reduceSub, Int.reduceMul, Int.reduceEq, Int.reduceNe]) rfl (fn11g) (.inl rfl) trivial ?_
  generalize hN : nfaOf (exG.map cutS) = n
  have r1 := fn21ab
  have r2 := fn21a
  rw [hN] at r1 r2
  simp only [go_sem, Nat.reduceEqDiff, Nat.reduceBEq, Nat.reduceAdd, Nat.reduceMul, Nat.reduceSub, Nat.reduceLeDiff, Nat.reduceLT, reduceIte, reduceCtorEq, Int.reduceToNat, Int.reduceLE, Int.reduceLT, Int.reduceNeg, Bool.not_not, and_self, Bool.and_eq_false_iff, Int.cast_ofNat_Int, Int.reduceAdd, Int.reduceSub, Int.reduceMul, Int.reduceEq, Int.reduceNe]
  refine runR_call (by simp only [go_sem, Nat.reduceEqDiff, Nat.reduceBEq, Nat.reduceAdd, Nat.reduceMul, Nat.reduceSub, Nat.reduceLeDiff, Nat.reduceLT, reduceIte, reduceCtorEq, Int.reduceToNat, Int.reduceLE, Int.reduceLT, Int.reduceNeg, Bool.not_not, and_self, Bool.and_eq_false_iff, Int.cast_ofNat_Int, Int.reduceAdd, Int.reduceSub, Int.reduceMul, Int.reduceEq, Int.reduceNe]) rfl (fn11h) (.inl rfl) trivial ?_
  simp only [go_sem, Nat.reduceEqDiff, Nat.reduceBEq, Nat.reduceAdd, Nat.reduceMul, Nat.reduceSub, Nat.reduceLeDiff, Nat.reduceLT, reduceIte, reduceCtorEq, Int.reduceToNat, Int.reduceLE, Int.reduceLT, Int.reduceNeg, Bool.not_not, and_self, Bool.and_eq_false_iff, Int.cast_ofNat_Int, Int.reduceAdd, Int.reduceSub, Int.reduceMul, Int.reduceEq, Int.reduceNe]
  refine runR_callg (by simp only [go_sem, Nat.reduceEqDiff, Nat.reduceBEq, Nat.reduceAdd, Nat.reduceMul, Nat.reduceSub, Nat.reduceLeDiff, Nat.reduceLT, reduceIte, reduceCtorEq, Int.reduceToNat, Int.reduceLE, Int.reduceLT, Int.reduceNeg, Bool.not_not, and_self, Bool.and_eq_false_iff, Int.cast_ofNat_Int, Int.reduceAdd, Int.reduceSub, Int.reduceMul, Int.reduceEq, Int.reduceNe]) (by simp only [go_sem, Nat.reduceEqDiff, Nat.reduceBEq, Nat.reduceAdd, Nat.reduceMul, Nat.reduceSub, Nat.reduceLeDiff, Nat.reduceLT, reduceIte, reduceCtorEq, Int.reduceToNat, Int.reduceLE, Int.reduceLT, Int.reduceNeg, Bool.not_not, and_self, Bool.and_eq_false_iff, Int.cast_ofNat_Int, Int.reduceAdd, Int.reduceSub, Int.reduceMul, Int.reduceEq, Int.reduceNe]) rfl (fun _ => r1) (.inl rfl) ?_
  simp only [go_sem, Nat.reduceEqDiff, Nat.reduceBEq, Nat.reduceAdd, Nat.reduceMul, Nat.reduceSub, Nat.reduceLeDiff, Nat.reduceLT, reduceIte, reduceCtorEq, Int.reduceToNat, Int.reduceLE, Int.reduceLT, Int.reduceNeg, Bool.not_not, and_self, Bool.and_eq_false_iff, Int.cast_ofNat_Int, Int.reduceAdd, Int.reduceSub, Int.reduceMul, Int.reduceEq, Int.reduceNe]
  refine runR_callgf (by simp only [go_sem, Nat.reduceEqDiff, Nat.reduceBEq, Nat.reduceAdd, Nat.reduceMul, Nat.reduceSub, Nat.reduceLeDiff, Nat.reduceLT, reduceIte, reduceCtorEq, Int.reduceToNat, Int.reduceLE, Int.reduceLT, Int.reduceNeg, Bool.not_not, and_self, Bool.and_eq_false_iff, Int.cast_ofNat_Int, Int.reduceAdd, Int.reduceSub, Int.reduceMul, Int.reduceEq, Int.reduceNe]) (by simp only [go_sem, Nat.reduceEqDiff, Nat.reduceBEq, Nat.reduceAdd, Nat.reduceMul, Nat.reduceSub, Nat.reduceLeDiff, Nat.reduceLT, reduceIte, reduceCtorEq, Int.reduceToNat, Int.reduceLE, Int.reduceLT, Int.reduceNeg, Bool.not_not, and_self, Bool.and_eq_false_iff, Int.cast_ofNat_Int, Int.reduceAdd, Int.reduceSub, Int.reduceMul, Int.reduceEq, Int.reduceNe]) (by simp only [go_sem, Nat.reduceEqDiff, Nat.reduceBEq, Nat.reduceAdd, Nat.reduceMul, Nat.reduceSub, Nat.reduceLeDiff, Nat.reduceLT, reduceIte, reduceCtorEq, Int.reduceToNat, Int.reduceLE, Int.reduceLT, Int.reduceNeg, Bool.not_not, and_self, Bool.and_eq_false_iff, Int.cast_ofNat_Int, Int.reduceAdd, Int.reduceSub, Int.reduceMul, Int.reduceEq, Int.reduceNe] <;> rfl) (fun _ => fn16t [0, 1] (by decide)) rfl ?_
  simp only [go_sem, Nat.reduceEqDiff, Nat.reduceBEq, Nat.reduceAdd, Nat.reduceMul, Nat.reduceSub, Nat.reduceLeDiff, Nat.reduceLT, reduceIte, reduceCtorEq, Int.reduceToNat, Int.reduceLE, Int.reduceLT, Int.reduceNeg, Bool.not_not, and_self, Bool.and_eq_false_iff, Int.cast_ofNat_Int, Int.reduceAdd, Int.reduceSub, Int.reduceMul, Int.reduceEq, Int.reduceNe]
  refine runR_callg (by simp only [go_sem, Nat.reduceEqDiff, Nat.reduceBEq, Nat.reduceAdd, Nat.reduceMul, Nat.reduceSub, Nat.reduceLeDiff, Nat.reduceLT, reduceIte, reduceCtorEq, Int.reduceToNat, Int.reduceLE, Int.reduceLT, Int.reduceNeg, Bool.not_not, and_self, Bool.and_eq_false_iff, Int.cast_ofNat_Int, Int.reduceAdd, Int.reduceSub, Int.reduceMul, Int.reduceEq, Int.reduceNe]) (by simp only [go_sem, Nat.reduceEqDiff, Nat.reduceBEq, Nat.reduceAdd, Nat.reduceMul, Nat.reduceSub, Nat.reduceLeDiff, Nat.reduceLT, reduceIte, reduceCtorEq, Int.reduceToNat, Int.reduceLE, Int.reduceLT, Int.reduceNeg, Bool.not_not, and_self, Bool.and_eq_false_iff, Int.cast_ofNat_Int, Int.reduceAdd, Int.reduceSub, Int.reduceMul, Int.reduceEq, Int.reduceNe]) rfl (fun _ => r2) (.inl rfl) ?_
  simp only [go_sem, Nat.reduceEqDiff, Nat.reduceBEq, Nat.reduceAdd, Nat.reduceMul, Nat.reduceSub, Nat.reduceLeDiff, Nat.reduceLT, reduceIte, reduceCtorEq, Int.reduceToNat, Int.reduceLE, Int.reduceLT, Int.reduceNeg, Bool.not_not, and_self, Bool.and_eq_false_iff, Int.cast_ofNat_Int, Int.reduceAdd, Int.reduceSub, Int.reduceMul, Int.reduceEq, Int.reduceNe]
  refine runR_callgf (by simp only [go_sem, Nat.reduceEqDiff, Nat.reduceBEq, Nat.reduceAdd, Nat.reduceMul, Nat.reduceSub, Nat.reduceLeDiff, Nat.reduceLT, reduceIte, reduceCtorEq, Int.reduceToNat, Int.reduceLE, Int.reduceLT, Int.reduceNeg, Bool.not_not, and_self, Bool.and_eq_false_iff, Int.cast_ofNat_Int, Int.reduceAdd, Int.reduceSub, Int.reduceMul, Int.reduceEq, Int.reduceNe]) (by simp only [go_sem, Nat.reduceEqDiff, Nat.reduceBEq, Nat.reduceAdd, Nat.reduceMul, Nat.reduceSub, Nat.reduceLeDiff, Nat.reduceLT, reduceIte, reduceCtorEq, Int.reduceToNat, Int.reduceLE, Int.reduceLT, Int.reduceNeg, Bool.not_not, and_self, Bool.and_eq_false_iff, Int.cast_ofNat_Int, Int.reduceAdd, Int.reduceSub, Int.reduceMul, Int.reduceEq, Int.reduceNe]) (by simp only [go_sem, Nat.reduceEqDiff, Nat.reduceBEq, Nat.reduceAdd, Nat.reduceMul, Nat.reduceSub, Nat.reduceLeDiff, Nat.reduceLT, reduceIte, reduceCtorEq, Int.reduceToNat, Int.reduceLE, Int.reduceLT, Int.reduceNeg, Bool.not_not, and_self, Bool.and_eq_false_iff, Int.cast_ofNat_Int, Int.reduceAdd, Int.reduceSub, Int.reduceMul, Int.reduceEq, Int.reduceNe] <;> rfl) (fun _ => fn16t [1] (by decide)) rfl ?_
  simp only [go_sem, Nat.reduceEqDiff, Nat.reduceBEq, Nat.reduceAdd, Nat.reduceMul, Nat.reduceSub, Nat.reduceLeDiff, Nat.reduceLT, reduceIte, reduceCtorEq, Int.reduceToNat, Int.reduceLE, Int.reduceLT, Int.reduceNeg, Bool.not_not, and_self, Bool.and_eq_false_iff, Int.cast_ofNat_Int, Int.reduceAdd, Int.reduceSub, Int.reduceMul, Int.reduceEq, Int.reduceNe]
theorem res_meet {bs : List ByteArray} {t : ByteArray} (hg : ∀ b ∈ bs, globB b = true) : (if topicB t = true then resN (bs.map cutS) (partsB t) else []) = meetN bs t bs.length := by
  unfold meetN resN
  split
  · rename_i ht
    rw [List.length_map, partsB_good (topic_glob ht)]
    refine List.filter_congr fun i hi => ?_
    have hil : i < bs.length := List.mem_range.1 hi
    have h2 := hg bs[i] (List.getElem_mem hil)
    simp [List.getD_eq_getElem?_getD, hil, meetsB, ht, h2]
  · rename_i ht
    rw [eq_comm, List.filter_eq_nil_iff]
    intro i _ h
    simp [meetsB] at h
    exact ht h.2.1
/-- NfaMeets: just what meets -/
theorem law5 (bs : List ByteArray) (t : ByteArray) (hb : bs.length ≤ 9223372036854775807) : Fn Tryd.prog 5 [ss bs, pS t] (.pv (pB true)) [] := by
  refine Run5 [] (by simp) ?_
  simp only [go_sem, Nat.reduceEqDiff, Nat.reduceBEq, Nat.reduceAdd, Nat.reduceMul, Nat.reduceSub, Nat.reduceLeDiff, Nat.reduceLT, reduceIte, reduceCtorEq, Int.reduceToNat, Int.reduceLE, Int.reduceLT, Int.reduceNeg, Bool.not_not, and_self, Bool.and_eq_false_iff, Int.cast_ofNat_Int, Int.reduceAdd, Int.reduceSub, Int.reduceMul, Int.reduceEq, Int.reduceNe, M5]
  refine runR_call (by simp only [go_sem, Nat.reduceEqDiff, Nat.reduceBEq, Nat.reduceAdd, Nat.reduceMul, Nat.reduceSub, Nat.reduceLeDiff, Nat.reduceLT, reduceIte, reduceCtorEq, Int.reduceToNat, Int.reduceLE, Int.reduceLT, Int.reduceNeg, Bool.not_not, and_self, Bool.and_eq_false_iff, Int.cast_ofNat_Int, Int.reduceAdd, Int.reduceSub, Int.reduceMul, Int.reduceEq, Int.reduceNe]) rfl (fn9 bs hb) (.inl rfl) trivial ?_
  simp only [go_sem, Nat.reduceEqDiff, Nat.reduceBEq, Nat.reduceAdd, Nat.reduceMul, Nat.reduceSub, Nat.reduceLeDiff, Nat.reduceLT, reduceIte, reduceCtorEq, Int.reduceToNat, Int.reduceLE, Int.reduceLT, Int.reduceNeg, Bool.not_not, and_self, Bool.and_eq_false_iff, Int.cast_ofNat_Int, Int.reduceAdd, Int.reduceSub, Int.reduceMul, Int.reduceEq, Int.reduceNe]
  refine runR_callf (by simp only [go_sem, Nat.reduceEqDiff, Nat.reduceBEq, Nat.reduceAdd, Nat.reduceMul, Nat.reduceSub, Nat.reduceLeDiff, Nat.reduceLT, reduceIte, reduceCtorEq, Int.reduceToNat, Int.reduceLE, Int.reduceLT, Int.reduceNeg, Bool.not_not, and_self, Bool.and_eq_false_iff, Int.cast_ofNat_Int, Int.reduceAdd, Int.reduceSub, Int.reduceMul, Int.reduceEq, Int.reduceNe]) (by simp only [go_sem, Nat.reduceEqDiff, Nat.reduceBEq, Nat.reduceAdd, Nat.reduceMul, Nat.reduceSub, Nat.reduceLeDiff, Nat.reduceLT, reduceIte, reduceCtorEq, Int.reduceToNat, Int.reduceLE, Int.reduceLT, Int.reduceNeg, Bool.not_not, and_self, Bool.and_eq_false_iff, Int.cast_ofNat_Int, Int.reduceAdd, Int.reduceSub, Int.reduceMul, Int.reduceEq, Int.reduceNe] <;> rfl) (fn10 t) ⟨rfl, trivial⟩ trivial ?_
  simp only [go_sem, Nat.reduceEqDiff, Nat.reduceBEq, Nat.reduceAdd, Nat.reduceMul, Nat.reduceSub, Nat.reduceLeDiff, Nat.reduceLT, reduceIte, reduceCtorEq, Int.reduceToNat, Int.reduceLE, Int.reduceLT, Int.reduceNeg, Bool.not_not, and_self, Bool.and_eq_false_iff, Int.cast_ofNat_Int, Int.reduceAdd, Int.reduceSub, Int.reduceMul, Int.reduceEq, Int.reduceNe]
  have hl := globsS_len bs
  have hts : (fewS t).size ≤ 1000 := by have := fewS_size t; omega
  have hsz : ∀ b ∈ globsS bs, b.size ≤ 1000 := fun b hb => by have := globsS_size hb; omega
  generalize globsS bs = gl at hl hsz
  generalize fewS t = q at hts
  refine runR_call (by simp only [go_sem, Nat.reduceEqDiff, Nat.reduceBEq, Nat.reduceAdd, Nat.reduceMul, Nat.reduceSub, Nat.reduceLeDiff, Nat.reduceLT, reduceIte, reduceCtorEq, Int.reduceToNat, Int.reduceLE, Int.reduceLT, Int.reduceNeg, Bool.not_not, and_self, Bool.and_eq_false_iff, Int.cast_ofNat_Int, Int.reduceAdd, Int.reduceSub, Int.reduceMul, Int.reduceEq, Int.reduceNe]) rfl (fn11 gl (by omega) hsz) (.inl rfl) trivial ?_
  cases hgd : goodB gl with
  | false =>
    have hbr : buildR gl = nfaOf [] := by unfold buildR; rw [hgd]; rfl
    have r1 := fn21 [] q ⟨by simp, by simp⟩ hts
    rw [show (if topicB q = true then resN [] (partsB q) else []) = [] by split <;> rfl] at r1
    rw [hbr]
    simp only [go_sem, Nat.reduceEqDiff, Nat.reduceBEq, Nat.reduceAdd, Nat.reduceMul, Nat.reduceSub, Nat.reduceLeDiff, Nat.reduceLT, reduceIte, reduceCtorEq, Int.reduceToNat, Int.reduceLE, Int.reduceLT, Int.reduceNeg, Bool.not_not, and_self, Bool.and_eq_false_iff, Int.cast_ofNat_Int, Int.reduceAdd, Int.reduceSub, Int.reduceMul, Int.reduceEq, Int.reduceNe]
    refine runR_call (by simp only [go_sem, Nat.reduceEqDiff, Nat.reduceBEq, Nat.reduceAdd, Nat.reduceMul, Nat.reduceSub, Nat.reduceLeDiff, Nat.reduceLT, reduceIte, reduceCtorEq, Int.reduceToNat, Int.reduceLE, Int.reduceLT, Int.reduceNeg, Bool.not_not, and_self, Bool.and_eq_false_iff, Int.cast_ofNat_Int, Int.reduceAdd, Int.reduceSub, Int.reduceMul, Int.reduceEq, Int.reduceNe]) rfl (r1) (.inl rfl) trivial ?_
    simp only [go_sem, Nat.reduceEqDiff, Nat.reduceBEq, Nat.reduceAdd, Nat.reduceMul, Nat.reduceSub, Nat.reduceLeDiff, Nat.reduceLT, reduceIte, reduceCtorEq, Int.reduceToNat, Int.reduceLE, Int.reduceLT, Int.reduceNeg, Bool.not_not, and_self, Bool.and_eq_false_iff, Int.cast_ofNat_Int, Int.reduceAdd, Int.reduceSub, Int.reduceMul, Int.reduceEq, Int.reduceNe, show (toI ([] : List Nat)).length = 0 by rfl]
    refine runR_callgf (by simp only [go_sem, Nat.reduceEqDiff, Nat.reduceBEq, Nat.reduceAdd, Nat.reduceMul, Nat.reduceSub, Nat.reduceLeDiff, Nat.reduceLT, reduceIte, reduceCtorEq, Int.reduceToNat, Int.reduceLE, Int.reduceLT, Int.reduceNeg, Bool.not_not, and_self, Bool.and_eq_false_iff, Int.cast_ofNat_Int, Int.reduceAdd, Int.reduceSub, Int.reduceMul, Int.reduceEq, Int.reduceNe]) (by simp only [go_sem, Nat.reduceEqDiff, Nat.reduceBEq, Nat.reduceAdd, Nat.reduceMul, Nat.reduceSub, Nat.reduceLeDiff, Nat.reduceLT, reduceIte, reduceCtorEq, Int.reduceToNat, Int.reduceLE, Int.reduceLT, Int.reduceNeg, Bool.not_not, and_self, Bool.and_eq_false_iff, Int.cast_ofNat_Int, Int.reduceAdd, Int.reduceSub, Int.reduceMul, Int.reduceEq, Int.reduceNe]) (by simp only [go_sem, Nat.reduceEqDiff, Nat.reduceBEq, Nat.reduceAdd, Nat.reduceMul, Nat.reduceSub, Nat.reduceLeDiff, Nat.reduceLT, reduceIte, reduceCtorEq, Int.reduceToNat, Int.reduceLE, Int.reduceLT, Int.reduceNeg, Bool.not_not, and_self, Bool.and_eq_false_iff, Int.cast_ofNat_Int, Int.reduceAdd, Int.reduceSub, Int.reduceMul, Int.reduceEq, Int.reduceNe] <;> rfl) (fun _ => fn15) rfl ?_
    simp only [go_sem, Nat.reduceEqDiff, Nat.reduceBEq, Nat.reduceAdd, Nat.reduceMul, Nat.reduceSub, Nat.reduceLeDiff, Nat.reduceLT, reduceIte, reduceCtorEq, Int.reduceToNat, Int.reduceLE, Int.reduceLT, Int.reduceNeg, Bool.not_not, and_self, Bool.and_eq_false_iff, Int.cast_ofNat_Int, Int.reduceAdd, Int.reduceSub, Int.reduceMul, Int.reduceEq, Int.reduceNe]
  | true =>
    have hbr : buildR gl = nfaOf (gl.map cutS) := by unfold buildR; rw [hgd]; rfl
    have hgl := (goodB_iff.1 hgd).2
    have r1 := fn21 (gl.map cutS) q (gsOk hgd) hts
    rw [res_meet hgl] at r1
    rw [hbr]
    generalize nfaOf (gl.map cutS) = n at r1
    simp only [go_sem, Nat.reduceEqDiff, Nat.reduceBEq, Nat.reduceAdd, Nat.reduceMul, Nat.reduceSub, Nat.reduceLeDiff, Nat.reduceLT, reduceIte, reduceCtorEq, Int.reduceToNat, Int.reduceLE, Int.reduceLT, Int.reduceNeg, Bool.not_not, and_self, Bool.and_eq_false_iff, Int.cast_ofNat_Int, Int.reduceAdd, Int.reduceSub, Int.reduceMul, Int.reduceEq, Int.reduceNe]
    refine runR_call (by simp only [go_sem, Nat.reduceEqDiff, Nat.reduceBEq, Nat.reduceAdd, Nat.reduceMul, Nat.reduceSub, Nat.reduceLeDiff, Nat.reduceLT, reduceIte, reduceCtorEq, Int.reduceToNat, Int.reduceLE, Int.reduceLT, Int.reduceNeg, Bool.not_not, and_self, Bool.and_eq_false_iff, Int.cast_ofNat_Int, Int.reduceAdd, Int.reduceSub, Int.reduceMul, Int.reduceEq, Int.reduceNe]) rfl (r1) (.inl rfl) trivial ?_
    simp only [go_sem, Nat.reduceEqDiff, Nat.reduceBEq, Nat.reduceAdd, Nat.reduceMul, Nat.reduceSub, Nat.reduceLeDiff, Nat.reduceLT, reduceIte, reduceCtorEq, Int.reduceToNat, Int.reduceLE, Int.reduceLT, Int.reduceNeg, Bool.not_not, and_self, Bool.and_eq_false_iff, Int.cast_ofNat_Int, Int.reduceAdd, Int.reduceSub, Int.reduceMul, Int.reduceEq, Int.reduceNe]
    refine runR_call (by simp only [go_sem, Nat.reduceEqDiff, Nat.reduceBEq, Nat.reduceAdd, Nat.reduceMul, Nat.reduceSub, Nat.reduceLeDiff, Nat.reduceLT, reduceIte, reduceCtorEq, Int.reduceToNat, Int.reduceLE, Int.reduceLT, Int.reduceNeg, Bool.not_not, and_self, Bool.and_eq_false_iff, Int.cast_ofNat_Int, Int.reduceAdd, Int.reduceSub, Int.reduceMul, Int.reduceEq, Int.reduceNe]) rfl (fn22 gl q (by omega) hsz hts) (.inl rfl) trivial ?_
    simp only [go_sem, Nat.reduceEqDiff, Nat.reduceBEq, Nat.reduceAdd, Nat.reduceMul, Nat.reduceSub, Nat.reduceLeDiff, Nat.reduceLT, reduceIte, reduceCtorEq, Int.reduceToNat, Int.reduceLE, Int.reduceLT, Int.reduceNeg, Bool.not_not, and_self, Bool.and_eq_false_iff, Int.cast_ofNat_Int, Int.reduceAdd, Int.reduceSub, Int.reduceMul, Int.reduceEq, Int.reduceNe]
    refine runR_callf (by simp only [go_sem, Nat.reduceEqDiff, Nat.reduceBEq, Nat.reduceAdd, Nat.reduceMul, Nat.reduceSub, Nat.reduceLeDiff, Nat.reduceLT, reduceIte, reduceCtorEq, Int.reduceToNat, Int.reduceLE, Int.reduceLT, Int.reduceNeg, Bool.not_not, and_self, Bool.and_eq_false_iff, Int.cast_ofNat_Int, Int.reduceAdd, Int.reduceSub, Int.reduceMul, Int.reduceEq, Int.reduceNe]) (by simp only [go_sem, Nat.reduceEqDiff, Nat.reduceBEq, Nat.reduceAdd, Nat.reduceMul, Nat.reduceSub, Nat.reduceLeDiff, Nat.reduceLT, reduceIte, reduceCtorEq, Int.reduceToNat, Int.reduceLE, Int.reduceLT, Int.reduceNeg, Bool.not_not, and_self, Bool.and_eq_false_iff, Int.cast_ofNat_Int, Int.reduceAdd, Int.reduceSub, Int.reduceMul, Int.reduceEq, Int.reduceNe] <;> rfl) (fn16t (toI (meetN gl q gl.length)) (by have := meetN_len gl q gl.length; simp [toI]; omega)) ⟨rfl, trivial⟩ trivial ?_
    simp only [go_sem, Nat.reduceEqDiff, Nat.reduceBEq, Nat.reduceAdd, Nat.reduceMul, Nat.reduceSub, Nat.reduceLeDiff, Nat.reduceLT, reduceIte, reduceCtorEq, Int.reduceToNat, Int.reduceLE, Int.reduceLT, Int.reduceNeg, Bool.not_not, and_self, Bool.and_eq_false_iff, Int.cast_ofNat_Int, Int.reduceAdd, Int.reduceSub, Int.reduceMul, Int.reduceEq, Int.reduceNe]
    refine runR_callgf (by simp only [go_sem, Nat.reduceEqDiff, Nat.reduceBEq, Nat.reduceAdd, Nat.reduceMul, Nat.reduceSub, Nat.reduceLeDiff, Nat.reduceLT, reduceIte, reduceCtorEq, Int.reduceToNat, Int.reduceLE, Int.reduceLT, Int.reduceNeg, Bool.not_not, and_self, Bool.and_eq_false_iff, Int.cast_ofNat_Int, Int.reduceAdd, Int.reduceSub, Int.reduceMul, Int.reduceEq, Int.reduceNe]) (by simp only [go_sem, Nat.reduceEqDiff, Nat.reduceBEq, Nat.reduceAdd, Nat.reduceMul, Nat.reduceSub, Nat.reduceLeDiff, Nat.reduceLT, reduceIte, reduceCtorEq, Int.reduceToNat, Int.reduceLE, Int.reduceLT, Int.reduceNeg, Bool.not_not, and_self, Bool.and_eq_false_iff, Int.cast_ofNat_Int, Int.reduceAdd, Int.reduceSub, Int.reduceMul, Int.reduceEq, Int.reduceNe]) (by simp only [go_sem, Nat.reduceEqDiff, Nat.reduceBEq, Nat.reduceAdd, Nat.reduceMul, Nat.reduceSub, Nat.reduceLeDiff, Nat.reduceLT, reduceIte, reduceCtorEq, Int.reduceToNat, Int.reduceLE, Int.reduceLT, Int.reduceNeg, Bool.not_not, and_self, Bool.and_eq_false_iff, Int.cast_ofNat_Int, Int.reduceAdd, Int.reduceSub, Int.reduceMul, Int.reduceEq, Int.reduceNe] <;> rfl) (fun _ => fn15) rfl ?_
    simp only [go_sem, Nat.reduceEqDiff, Nat.reduceBEq, Nat.reduceAdd, Nat.reduceMul, Nat.reduceSub, Nat.reduceLeDiff, Nat.reduceLT, reduceIte, reduceCtorEq, Int.reduceToNat, Int.reduceLE, Int.reduceLT, Int.reduceNeg, Bool.not_not, and_self, Bool.and_eq_false_iff, Int.cast_ofNat_Int, Int.reduceAdd, Int.reduceSub, Int.reduceMul, Int.reduceEq, Int.reduceNe]
end Go.Vc

namespace Go.Vc
open Go.Proofs Go.Proofs.YtokkhebhjijnhaaDoor
set_option maxRecDepth 100000
theorem strs_of {p : PV} (h : ArgOk (false, [.lst false [.str]]) p) : ∃ l : List ByteArray, p = ss l ∧ l.length ≤ 9223372036854775807 := by
  have h1 := OkShs_one h
  simp only [OkSh] at h1
  obtain ⟨xs, rfl, hl, hx⟩ := h1
  obtain ⟨l, rfl⟩ := map_of (f := fun b : ByteArray => pS b) (fun x hx' => by
    have := (hx x hx').2 trivial
    simp only [OkShs, OkSh] at this
    obtain ⟨_, _, e, ⟨n, rfl, _⟩, rfl⟩ := this
    injection e with e1 _
    exact ⟨n, e1⟩)
  exact ⟨l, rfl, by simpa [maxLen] using hl⟩
theorem i64s_of {p : PV} (h : ArgOk (false, [.lst false [.int .i64]]) p) : ∃ l : List Int, p = ints l ∧ l.length ≤ 9223372036854775807 := by
  obtain ⟨l, rfl, hl, _⟩ := ints_of (OkShs_one h)
  exact ⟨l, rfl, hl⟩
theorem i64_of {p : PV} (h : ArgOk (false, [.int .i64]) p) : ∃ n : Int, p = pI n := by
  obtain ⟨n, rfl, _⟩ := int_of h
  exact ⟨n, rfl⟩
/-- this program has none of the tables that the contracts may ask for -/
theorem tabsTryd (w : World) (_ : laidMetH Tryd.prog [("unicode/utf8.acceptRanges", Rows.laid_unicode_utf8_acceptRanges), ("unicode/utf8.first", Rows.laid_unicode_utf8_first)] w) : Tabs Tryd.prog w (fun _ => False) := fun t ht g hg => by
  simp only [tabList, List.mem_cons, List.not_mem_nil, or_false] at ht
  subst ht
  rw [show Tryd.prog.globalNamed "math/bits.deBruijn64tab" = none by kernel_rfl] at hg
  cases hg
theorem ownTryd : ownKnob Tryd.prog.godebug = none := by kernel_rfl
theorem laidOutTryd : laidOutB Tryd.prog = true := by kernel_rfl
/-- a world in which the listed tables lie -/
noncomputable def laidWorld (os : Os) : World := layAt (layAt (World.holding Tryd.prog os ⟨#[], #[], []⟩) 1 (litsOf Rows.laid_unicode_utf8_first)) 2 (litsOf (Rows.laid_unicode_utf8_acceptRanges : DataW Unit))
abbrev laidL : List (String × DataW Unit) := [("unicode/utf8.acceptRanges", Rows.laid_unicode_utf8_acceptRanges), ("unicode/utf8.first", Rows.laid_unicode_utf8_first)]
theorem laid_met (os : Os) (args : Array Value) : laidMetH Tryd.prog laidL ((laidWorld os).forCall (fun _ _ => 0) ⟨#[], args, []⟩).memory := by
  have h : laidMet Tryd.prog laidL ((laidWorld os).forCall (fun _ _ => 0) ⟨#[], args, []⟩).memory := laidMet_of_run3 8 (by kernel_rfl) (by kernel_rfl) (by kernel_rfl)
  exact laidMetH_of_parts h (by kernel_rfl)
end Go.Vc
