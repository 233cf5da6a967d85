/- A part of the proofs of the seat YtokkhebhjijnhaaDoor: the contracts of functions, each proved out of its code. -/
import Derived.Test.YtokkhebhjijnhaaDoorVh
import Derived.Test.YtokkhebhjijnhaaDoorProg
import Derived.Test.YtokkhebhjijnhaaDoorNf
import Derived.Test.YtokkhebhjijnhaaDoorNg
namespace Go.Vc
open Go.Proofs
set_option maxRecDepth 100000

/-- 'nfa.Close.1' -/
def M33 : MC := (.seq (.reg [⟨(some 8), none, (.q (.ld (.t 1) 1 false))⟩, ⟨(some 9), none, (.q (.mv (.t 0)))⟩, ⟨(some 10), none, (.q (.mget (.t 8) (.t 9) true Kk.int (.pv (.agg []))))⟩, ⟨(some 7),
  none, (.q (.mv (.t 10)))⟩, ⟨(some 11), none, (.q (.ext (.t 7) 0))⟩, ⟨(some 12), none, (.q (.ext (.t 7) 1))⟩, ⟨(some 5), none, (.alloc [])⟩, ⟨none, none, (.st (.t 5) (.t 11) 0)⟩, ⟨(some 6), none,
  (.q (.mv (.t 12)))⟩] [] [0, 1, 2, 3, 6] [32, 150000, 200000, 200001, 200002, 200003]) (.seq (.reg [⟨(some 13), none, (.q (.mv (.t 6)))⟩, ⟨(some 14), none, (.q (.not (.t 13)))⟩, ⟨(some 15), none,
  (.q (.mv (.t 14)))⟩, ⟨(some 16), (some (15, true)), (.q (.mv (.t 0)))⟩, ⟨(some 17), (some (15, true)), (.q (.bin .geq (.t 16) (.c (.int .i64 0))))⟩, ⟨(some 18), none, (.q (.pick (.t 15) (.t 17)
  (.c (.bool false))))⟩, ⟨(some 19), none, (.q (.mv (.t 18)))⟩, ⟨(some 20), (some (19, true)), (.q (.mv (.t 0)))⟩, ⟨(some 21), (some (19, true)), (.q (.fa (.t 2) 1))⟩, ⟨(some 22), (some (19, true)),
  (.q (.ld (.t 21) 1 false))⟩, ⟨(some 23), (some (19, true)), (.q (.len (.t 22) false))⟩, ⟨(some 24), (some (19, true)), (.q (.bin .lss (.t 20) (.t 23)))⟩, ⟨(some 25), none, (.q (.pick (.t 19) (.t 24)
  (.c (.bool false))))⟩] [] [0, 1, 3, 25] [32, 150000, 200000, 200001, 200002, 200003]) (.cond (.t 25) (.seq (.reg [⟨(some 26), none, (.q (.ld (.t 1) 1 false))⟩, ⟨(some 27), none, (.q (.mv (.t 0)))⟩,
  ⟨(some 28), none, (.q (.mk [] []))⟩, ⟨none, none, (.mset (.t 26) (.t 27) (.t 28) Kk.int)⟩] [] [0, 3] [32, 150000, 200000, 200001, 200002, 200003]) (.reg [⟨(some 29), none, (.q (.ld (.t 3)
  1 false))⟩, ⟨(some 30), none, (.q (.mv (.t 0)))⟩, ⟨(some 31), none, (.lits [(.t 30)] 1)⟩, ⟨(some 32), none, (.app (.t 29) (.t 31) 1 8)⟩, ⟨none, none, (.st (.t 3) (.t 32) 1)⟩] [] [] [32, 150000,
  200000, 200001, 200002, 200003])) .skip)))
theorem mc33 : ofCode Tryd.prog [] Tryd.f33.ntmps [(0, ⟨[0, 1, 2, 3, 6], [32, 150000, 200000, 200001, 200002, 200003], [], 0, [], none⟩),
    (1, ⟨[0, 1, 3, 25], [32, 150000, 200000, 200001, 200002, 200003], [], 0, [], none⟩),
    (2, ⟨[0, 3], [32, 150000, 200000, 200001, 200002, 200003], [], 0, [], none⟩),
    (3, ⟨[], [32, 150000, 200000, 200001, 200002, 200003], [], 0, [], none⟩)] (Tryd.f33.body.getD .skip) = some M33 := by kernel_rfl
theorem Run33 {args : List PV} {v : AV} {rs : List (Nat × List PV)} (ids : List Bool) (h : args.length ≤ 33) (hv : run Tryd.prog (retK [] ids v rs) M33 [] ⟨entry 0 args, []⟩) : Fn Tryd.prog 33 args v rs :=
  Fn_run ids (by kernel_rfl) Tryd.func33 (by decide) rfl mc33 (by kernel_rfl) (by rw [Tryd.ntmps33]; exact h) (by rw [Tryd.ntmps33]; decide) hv
theorem RunS33 {args : List AV} {st st' : List (Nat × Row)} {v : AV} (h : args.length ≤ 33) (hk : (st'.map (·.1)).Nodup) (hv : run Tryd.prog (retS [] v st') M33 [] ⟨entryA 0 args, st⟩) : FnS Tryd.prog 33 args st v st' :=
  FnS_run (by kernel_rfl) Tryd.func33 (by decide) rfl mc33 (by kernel_rfl) (by rw [Tryd.ntmps33]; exact h) (by rw [Tryd.ntmps33]; decide) hk hv

/-- 'nfa.Close' -/
def B17_0 : MC := (.seq (.reg [⟨(some 18), none, (.q (.bin .lss (.t 17) (.t 16)))⟩] [] [2, 5, 6, 7, 15, 16, 17, 18] [2, 5, 6, 13, 1023, 1053, 1056, 140000]) (.seq (.cond (.t 18) .skip (.exit 0))
  (.seq (.block 1 (.seq (.reg [⟨(some 19), none, (.q (.ia (.t 15) (.t 17) 1))⟩, ⟨(some 20), none, (.q (.ld (.t 19) 1 false))⟩, ⟨(some 9), none, (.q (.mv (.t 20)))⟩] [] [2, 5, 6, 7, 9, 15, 16, 17] [2,
  5, 6, 13, 1023, 1053, 1056, 140000]) (.reg [⟨(some 21), none, (.q (.mv (.t 7)))⟩, ⟨(some 22), none, (.q (.mv (.t 9)))⟩, ⟨(some 23), none, (.calls (.t 21) [(.t 22)])⟩] [] [2, 5, 6, 7, 15, 16, 17] [2,
  5, 6, 13, 1023, 1053, 1056, 140000]))) (.reg [⟨(some 24), none, (.q (.bin .add (.t 17) (.c (.int .i64 1))))⟩, ⟨(some 17), none, (.q (.mv (.t 24)))⟩] [] [2, 5, 6, 7, 15, 16, 17] [2, 5, 6, 13, 1023,
  1053, 1056, 140000]))))
def B17_2 : MC := (.seq (.reg [⟨(some 44), none, (.q (.bin .lss (.t 43) (.t 42)))⟩] [] [2, 5, 6, 7, 41, 42, 43, 44] [2, 5, 6, 13, 1023, 1041, 1053, 1056, 140000]) (.seq (.cond (.t 44) .skip (.exit 4))
  (.seq (.block 5 (.seq (.reg [⟨(some 45), none, (.q (.ia (.t 41) (.t 43) 2))⟩, ⟨(some 46), none, (.q (.ld (.t 45) 2 true))⟩, ⟨(some 12), none, (.alloc [(.pv (.sc (.int .i64 0))),
  (.pv (.sc (.int .i64 0)))])⟩, ⟨none, none, (.st (.t 12) (.t 46) 2)⟩] [] [2, 5, 6, 7, 12, 41, 42, 43] [2, 5, 6, 12, 13, 1023, 1041, 1053, 1056, 140000]) (.seq (.reg [⟨(some 47), none,
  (.q (.fa (.t 12) 0))⟩, ⟨(some 48), none, (.q (.ld (.t 47) 1 false))⟩, ⟨(some 49), none, (.q (.bin .eql (.t 48) (.c (.int .i64 (-1)))))⟩] [] [2, 5, 6, 7, 12, 41, 42, 43, 49] [2, 5, 6, 12, 13, 1023,
  1041, 1053, 1056, 140000]) (.cond (.t 49) (.reg [⟨(some 50), none, (.q (.mv (.t 7)))⟩, ⟨(some 51), none, (.q (.fa (.t 12) 1))⟩, ⟨(some 52), none, (.q (.ld (.t 51) 1 false))⟩, ⟨(some 53), none,
  (.calls (.t 50) [(.t 52)])⟩] [] [2, 5, 6, 7, 41, 42, 43] [2, 5, 6, 13, 1023, 1041, 1053, 1056, 140000]) .skip)))) (.reg [⟨(some 54), none, (.q (.bin .add (.t 43) (.c (.int .i64 1))))⟩, ⟨(some 43),
  none, (.q (.mv (.t 54)))⟩] [] [2, 5, 6, 7, 41, 42, 43] [2, 5, 6, 13, 1023, 1041, 1053, 1056, 140000]))))
def B17_1 : MC := (.seq (.seq (.reg [⟨(some 25), none, (.q (.ld (.t 6) 1 false))⟩, ⟨(some 26), none, (.q (.len (.t 25) false))⟩, ⟨(some 27), none, (.q (.bin .gtr (.t 26) (.c (.int .i64 0))))⟩] [] [2,
  5, 6, 7, 27] [2, 5, 6, 13, 1023, 1053, 1056, 140000]) (.cond (.t 27) .skip (.exit 2))) (.block 3 (.seq (.reg [⟨(some 28), none, (.q (.ld (.t 6) 1 false))⟩, ⟨(some 29), none, (.q (.ld (.t 6)
  1 false))⟩, ⟨(some 30), none, (.q (.len (.t 29) false))⟩, ⟨(some 31), none, (.q (.bin .sub (.t 30) (.c (.int .i64 1))))⟩, ⟨(some 32), none, (.q (.ia (.t 28) (.t 31) 1))⟩, ⟨(some 33), none,
  (.q (.ld (.t 32) 1 false))⟩, ⟨(some 10), none, (.q (.mv (.t 33)))⟩] [] [2, 5, 6, 7, 10] [2, 5, 6, 13, 1023, 1053, 1056, 140000]) (.seq (.reg [⟨(some 34), none, (.q (.ld (.t 6) 1 false))⟩,
  ⟨(some 35), none, (.q (.ld (.t 6) 1 false))⟩, ⟨(some 36), none, (.q (.len (.t 35) false))⟩, ⟨(some 37), none, (.q (.bin .sub (.t 36) (.c (.int .i64 1))))⟩, ⟨(some 38), none, (.q (.slc (.t 34)
  none (some (.t 37)) 1 false))⟩, ⟨none, none, (.st (.t 6) (.t 38) 1)⟩] [] [2, 5, 6, 7, 10] [2, 5, 6, 13, 1023, 1053, 1056, 140000]) (.seq (.reg [⟨(some 39), none, (.q (.ld (.t 2) 4 true))⟩,
  ⟨(some 40), none, (.q (.mv (.t 10)))⟩, ⟨(some 41), none, (.call (.f 34) [(.t 39), (.t 40)])⟩, ⟨(some 42), none, (.q (.len (.t 41) false))⟩, ⟨(some 43), none, (.q (.mv (.c (.int .i64 0))))⟩] [] [2,
  5, 6, 7, 41, 42, 43] [2, 5, 6, 13, 1023, 1041, 1053, 1056, 140000]) (.block 4 (.loop B17_2)))))))
def R17_1 : MC := (.seq (.reg [⟨(some 55), none, (.q (.ld (.t 5) 1 false))⟩, ⟨(some 56), none, (.calls (.f 35) [(.t 55)])⟩, ⟨(some 4), none, (.q (.mv (.t 56)))⟩] [] [4] [13, 1023, 1053, 1056]) .ret)
def R17_0 : MC := (.seq (.block 2 (.loop B17_1)) R17_1)
def M17 : MC := (.seq (.reg [⟨(some 2), none, (.box (.t 0))⟩, ⟨(some 4), none, (.q (.mv .nil))⟩] [] [1, 2] [2, 1023, 1053, 1056]) (.seq (.reg [⟨(some 13), none, .mkm⟩, ⟨(some 5), none,
  (.alloc [(.pv (.sc (.map none)))])⟩, ⟨none, none, (.st (.t 5) (.t 13) 1)⟩] [] [1, 2, 5] [2, 5, 13, 1023, 1053, 1056]) (.seq (.reg [⟨(some 6), none, (.alloc [.e0])⟩] [] [1, 2, 5, 6] [2, 5, 6, 13,
  1023, 1053, 1056, 140000]) (.seq (.reg [⟨(some 14), none, (.q (.clo 33 [(.t 5), (.t 2), (.t 6)]))⟩, ⟨(some 7), none, (.q (.mv (.t 14)))⟩] [] [1, 2, 5, 6, 7] [2, 5, 6, 13, 1023, 1053, 1056, 140000])
  (.seq (.seq (.reg [⟨(some 15), none, (.q (.mv (.t 1)))⟩, ⟨(some 16), none, (.q (.len (.t 15) false))⟩, ⟨(some 17), none, (.q (.mv (.c (.int .i64 0))))⟩] [] [2, 5, 6, 7, 15, 16, 17] [2, 5, 6, 13,
  1023, 1053, 1056, 140000]) (.block 0 (.loop B17_0))) R17_0)))))
theorem mc17 : ofCode Tryd.prog [23, 53, 56] Tryd.f17.ntmps [(0, ⟨[1, 2], [2, 1023, 1053, 1056], [], 0, [], none⟩),
    (1, ⟨[1, 2, 5], [2, 5, 13, 1023, 1053, 1056], [], 0, [], none⟩),
    (2, ⟨[1, 2, 5, 6], [2, 5, 6, 13, 1023, 1053, 1056, 140000], [], 0, [], none⟩),
    (3, ⟨[1, 2, 5, 6, 7], [2, 5, 6, 13, 1023, 1053, 1056, 140000], [], 0, [], none⟩),
    (4, ⟨[2, 5, 6, 7, 15, 16, 17], [2, 5, 6, 13, 1023, 1053, 1056, 140000], [], 0, [], none⟩),
    (5, ⟨[2, 5, 6, 7, 15, 16, 17, 18], [2, 5, 6, 13, 1023, 1053, 1056, 140000], [], 0, [], none⟩),
    (6, ⟨[2, 5, 6, 7, 9, 15, 16, 17], [2, 5, 6, 13, 1023, 1053, 1056, 140000], [], 0, [], none⟩),
    (7, ⟨[2, 5, 6, 7, 15, 16, 17], [2, 5, 6, 13, 1023, 1053, 1056, 140000], [], 0, [], none⟩),
    (8, ⟨[2, 5, 6, 7, 15, 16, 17], [2, 5, 6, 13, 1023, 1053, 1056, 140000], [], 0, [], none⟩),
    (9, ⟨[2, 5, 6, 7, 27], [2, 5, 6, 13, 1023, 1053, 1056, 140000], [], 0, [], none⟩),
    (10, ⟨[2, 5, 6, 7, 10], [2, 5, 6, 13, 1023, 1053, 1056, 140000], [], 0, [], none⟩),
    (11, ⟨[2, 5, 6, 7, 10], [2, 5, 6, 13, 1023, 1053, 1056, 140000], [], 0, [], none⟩),
    (12, ⟨[2, 5, 6, 7, 41, 42, 43], [2, 5, 6, 13, 1023, 1041, 1053, 1056, 140000], [], 0, [], none⟩),
    (13, ⟨[2, 5, 6, 7, 41, 42, 43, 44], [2, 5, 6, 13, 1023, 1041, 1053, 1056, 140000], [], 0, [], none⟩),
    (14, ⟨[2, 5, 6, 7, 12, 41, 42, 43], [2, 5, 6, 12, 13, 1023, 1041, 1053, 1056, 140000], [], 0, [], none⟩),
    (15, ⟨[2, 5, 6, 7, 12, 41, 42, 43, 49], [2, 5, 6, 12, 13, 1023, 1041, 1053, 1056, 140000], [], 0, [], none⟩),
    (16, ⟨[2, 5, 6, 7, 41, 42, 43], [2, 5, 6, 13, 1023, 1041, 1053, 1056, 140000], [], 0, [], none⟩),
    (17, ⟨[2, 5, 6, 7, 41, 42, 43], [2, 5, 6, 13, 1023, 1041, 1053, 1056, 140000], [], 0, [], none⟩),
    (18, ⟨[4], [13, 1023, 1053, 1056], [], 0, [], none⟩)] (Tryd.f17.body.getD .skip) = some M17 := by kernel_rfl
theorem Run17 {args : List PV} {v : AV} {rs : List (Nat × List PV)} (ids : List Bool) (h : args.length ≤ 57) (hv : run Tryd.prog (retK [RV.tmp 4] ids v rs) M17 [] ⟨entry 0 args, []⟩) : Fn Tryd.prog 17 args v rs :=
  Fn_run ids (by kernel_rfl) Tryd.func17 (by decide) rfl mc17 (by kernel_rfl) (by rw [Tryd.ntmps17]; exact h) (by rw [Tryd.ntmps17]; decide) hv

/-- 'nfa.Step' -/
def B19_1 : MC := (.seq (.reg [⟨(some 25), none, (.q (.bin .lss (.t 24) (.t 23)))⟩] [] [2, 3, 7, 14, 15, 16, 22, 23, 24, 25] [3, 36, 1022, 2007]) (.seq (.cond (.t 25) .skip (.exit 2))
  (.seq (.block 3 (.seq (.reg [⟨(some 26), none, (.q (.ia (.t 22) (.t 24) 2))⟩, ⟨(some 27), none, (.q (.ld (.t 26) 2 true))⟩, ⟨(some 11), none, (.alloc [(.pv (.sc (.int .i64 0))),
  (.pv (.sc (.int .i64 0)))])⟩, ⟨none, none, (.st (.t 11) (.t 27) 2)⟩] [] [2, 3, 7, 11, 14, 15, 16, 22, 23, 24] [3, 11, 36, 1022, 2007]) (.seq (.reg [⟨(some 28), none, (.q (.fa (.t 11) 0))⟩,
  ⟨(some 29), none, (.q (.ld (.t 28) 1 false))⟩, ⟨(some 30), none, (.q (.mv (.t 2)))⟩, ⟨(some 31), none, (.q (.bin .eql (.t 29) (.t 30)))⟩] [] [2, 3, 7, 11, 14, 15, 16, 22, 23, 24, 31] [3, 11, 36,
  1022, 2007]) (.cond (.t 31) (.reg [⟨(some 32), none, (.q (.mv (.t 7)))⟩, ⟨(some 33), none, (.q (.fa (.t 11) 1))⟩, ⟨(some 34), none, (.q (.ld (.t 33) 1 false))⟩, ⟨(some 35), none,
  (.lits [(.t 34)] 1)⟩, ⟨(some 36), none, (.app (.t 32) (.t 35) 1 8)⟩, ⟨(some 7), none, (.q (.mv (.t 36)))⟩] [] [2, 3, 7, 14, 15, 16, 22, 23, 24] [3, 36, 1022, 2007]) .skip)))) (.reg [⟨(some 37),
  none, (.q (.bin .add (.t 24) (.c (.int .i64 1))))⟩, ⟨(some 24), none, (.q (.mv (.t 37)))⟩] [] [2, 3, 7, 14, 15, 16, 22, 23, 24] [3, 36, 1022, 2007]))))
def B19_0 : MC := (.seq (.reg [⟨(some 17), none, (.q (.bin .lss (.t 16) (.t 15)))⟩] [] [2, 3, 7, 14, 15, 16, 17] [3, 36, 2007]) (.seq (.cond (.t 17) .skip (.exit 0))
  (.seq (.block 1 (.seq (.reg [⟨(some 18), none, (.q (.ia (.t 14) (.t 16) 1))⟩, ⟨(some 19), none, (.q (.ld (.t 18) 1 false))⟩, ⟨(some 9), none, (.q (.mv (.t 19)))⟩] [] [2, 3, 7, 9, 14, 15, 16] [3, 36,
  2007]) (.seq (.reg [⟨(some 20), none, (.q (.ld (.t 3) 4 true))⟩, ⟨(some 21), none, (.q (.mv (.t 9)))⟩, ⟨(some 22), none, (.call (.f 34) [(.t 20), (.t 21)])⟩, ⟨(some 23), none, (.q (.len (.t 22)
  false))⟩, ⟨(some 24), none, (.q (.mv (.c (.int .i64 0))))⟩] [] [2, 3, 7, 14, 15, 16, 22, 23, 24] [3, 36, 1022, 2007]) (.block 2 (.loop B19_1))))) (.reg [⟨(some 38), none, (.q (.bin .add (.t 16)
  (.c (.int .i64 1))))⟩, ⟨(some 16), none, (.q (.mv (.t 38)))⟩] [] [2, 3, 7, 14, 15, 16] [3, 36, 2007]))))
def R19_0 : MC := (.seq (.reg [⟨(some 39), none, (.q (.ld (.t 3) 4 true))⟩, ⟨(some 40), none, (.q (.mv (.t 7)))⟩, ⟨(some 41), none, (.call (.f 17) [(.t 39), (.t 40)])⟩, ⟨(some 6), none,
  (.q (.mv (.t 41)))⟩] [] [6] [1041]) .ret)
def M19 : MC := (.seq (.reg [⟨(some 3), none, (.box (.t 0))⟩, ⟨(some 6), none, (.q (.mv .nil))⟩] [] [1, 2, 3] [3]) (.seq (.seq (.reg [⟨(some 12), none, (.q (.mv (.t 2)))⟩, ⟨(some 13), none,
  (.q (.bin .lss (.t 12) (.c (.int .i64 0))))⟩] [] [1, 2, 3, 13] [3]) (.cond (.t 13) (.seq (.reg [⟨(some 6), none, (.q (.mv .nil))⟩] [] [6] [1041]) .ret) .skip)) (.seq (.reg [⟨(some 7), none,
  (.q (.mv .nil))⟩] [(7, 2007, 1)] [1, 2, 3, 7] [3, 36, 2007]) (.seq (.seq (.reg [⟨(some 14), none, (.q (.mv (.t 1)))⟩, ⟨(some 15), none, (.q (.len (.t 14) false))⟩, ⟨(some 16), none,
  (.q (.mv (.c (.int .i64 0))))⟩] [] [2, 3, 7, 14, 15, 16] [3, 36, 2007]) (.block 0 (.loop B19_0))) R19_0))))
theorem mc19 : ofCode Tryd.prog [] Tryd.f19.ntmps [(0, ⟨[1, 2, 3], [3], [], 0, [], none⟩),
    (1, ⟨[1, 2, 3, 13], [3], [], 0, [], none⟩),
    (2, ⟨[6], [1041], [], 0, [], none⟩),
    (3, ⟨[1, 2, 3, 7], [3, 36, 2007], [], 0, [(7, 2007, 1)], none⟩),
    (4, ⟨[2, 3, 7, 14, 15, 16], [3, 36, 2007], [], 0, [], none⟩),
    (5, ⟨[2, 3, 7, 14, 15, 16, 17], [3, 36, 2007], [], 0, [], none⟩),
    (6, ⟨[2, 3, 7, 9, 14, 15, 16], [3, 36, 2007], [], 0, [], none⟩),
    (7, ⟨[2, 3, 7, 14, 15, 16, 22, 23, 24], [3, 36, 1022, 2007], [], 0, [], none⟩),
    (8, ⟨[2, 3, 7, 14, 15, 16, 22, 23, 24, 25], [3, 36, 1022, 2007], [], 0, [], none⟩),
    (9, ⟨[2, 3, 7, 11, 14, 15, 16, 22, 23, 24], [3, 11, 36, 1022, 2007], [], 0, [], none⟩),
    (10, ⟨[2, 3, 7, 11, 14, 15, 16, 22, 23, 24, 31], [3, 11, 36, 1022, 2007], [], 0, [], none⟩),
    (11, ⟨[2, 3, 7, 14, 15, 16, 22, 23, 24], [3, 36, 1022, 2007], [], 0, [], none⟩),
    (12, ⟨[2, 3, 7, 14, 15, 16, 22, 23, 24], [3, 36, 1022, 2007], [], 0, [], none⟩),
    (13, ⟨[2, 3, 7, 14, 15, 16], [3, 36, 2007], [], 0, [], none⟩),
    (14, ⟨[6], [1041], [], 0, [], none⟩)] (Tryd.f19.body.getD .skip) = some M19 := by kernel_rfl
theorem Run19 {args : List PV} {v : AV} {rs : List (Nat × List PV)} (ids : List Bool) (h : args.length ≤ 42) (hv : run Tryd.prog (retK [RV.tmp 6] ids v rs) M19 [] ⟨entry 0 args, []⟩) : Fn Tryd.prog 19 args v rs :=
  Fn_run ids (by kernel_rfl) Tryd.func19 (by decide) rfl mc19 (by kernel_rfl) (by rw [Tryd.ntmps19]; exact h) (by rw [Tryd.ntmps19]; decide) hv

/-- 'nfa.Run' -/
def B21_0 : MC := (.seq (.reg [⟨(some 24), none, (.q (.bin .lss (.t 23) (.t 22)))⟩] [] [2, 5, 21, 22, 23, 24] [2, 1019, 1021, 1032]) (.seq (.cond (.t 24) .skip (.exit 0))
  (.seq (.block 1 (.seq (.reg [⟨(some 25), none, (.q (.ia (.t 21) (.t 23) 1))⟩, ⟨(some 26), none, (.q (.ld (.t 25) 1 false))⟩, ⟨(some 7), none, (.q (.mv (.t 26)))⟩] [] [2, 5, 7, 21, 22, 23] [2, 1019,
  1021, 1032]) (.reg [⟨(some 27), none, (.q (.ld (.t 2) 4 true))⟩, ⟨(some 28), none, (.q (.mv (.t 5)))⟩, ⟨(some 29), none, (.q (.ld (.t 2) 4 true))⟩, ⟨(some 30), none, (.q (.mv (.t 7)))⟩, ⟨(some 31),
  none, (.call (.f 14) [(.t 29), (.t 30)])⟩, ⟨(some 32), none, (.call (.f 19) [(.t 27), (.t 28), (.t 31)])⟩, ⟨(some 5), none, (.q (.mv (.t 32)))⟩] [] [2, 5, 21, 22, 23] [2, 1019, 1021, 1032])))
  (.reg [⟨(some 33), none, (.q (.bin .add (.t 23) (.c (.int .i64 1))))⟩, ⟨(some 23), none, (.q (.mv (.t 33)))⟩] [] [2, 5, 21, 22, 23] [2, 1019, 1021, 1032]))))
def B21_2 : MC := (.seq (.reg [⟨(some 53), none, (.q (.bin .lss (.t 52) (.t 51)))⟩] [] [2, 8, 35, 36, 37, 50, 51, 52, 53] [2, 34, 1019, 1032, 1062]) (.seq (.cond (.t 53) .skip (.exit 4))
  (.seq (.block 5 (.seq (.reg [⟨(some 54), none, (.q (.ia (.t 50) (.t 52) 1))⟩, ⟨(some 55), none, (.q (.ld (.t 54) 1 false))⟩, ⟨(some 12), none, (.q (.mv (.t 55)))⟩] [] [2, 8, 12, 35, 36, 37, 50, 51,
  52] [2, 34, 1019, 1032, 1062]) (.reg [⟨(some 56), none, (.q (.mv (.t 8)))⟩, ⟨(some 57), none, (.q (.mv (.t 12)))⟩, ⟨(some 58), none, (.q (.mk [] []))⟩, ⟨none, none, (.mset (.t 56) (.t 57) (.t 58)
  Kk.int)⟩] [] [2, 8, 35, 36, 37, 50, 51, 52] [2, 34, 1019, 1032, 1062]))) (.reg [⟨(some 59), none, (.q (.bin .add (.t 52) (.c (.int .i64 1))))⟩, ⟨(some 52), none, (.q (.mv (.t 59)))⟩] [] [2, 8, 35,
  36, 37, 50, 51, 52] [2, 34, 1019, 1032, 1062]))))
def B21_1 : MC := (.seq (.reg [⟨(some 38), none, (.q (.bin .lss (.t 37) (.t 36)))⟩] [] [2, 8, 35, 36, 37, 38] [2, 34, 1019, 1032, 1062]) (.seq (.cond (.t 38) .skip (.exit 2))
  (.seq (.block 3 (.seq (.reg [⟨(some 39), none, (.q (.ia (.t 35) (.t 37) 1))⟩, ⟨(some 40), none, (.q (.ld (.t 39) 1 false))⟩, ⟨(some 10), none, (.q (.mv (.t 40)))⟩] [] [2, 8, 10, 35, 36, 37] [2, 34,
  1019, 1032, 1062]) (.seq (.seq (.reg [⟨(some 41), none, (.q (.mv (.t 10)))⟩, ⟨(some 42), none, (.q (.fa (.t 2) 2))⟩, ⟨(some 43), none, (.q (.ld (.t 42) 1 false))⟩, ⟨(some 44), none,
  (.q (.len (.t 43) false))⟩, ⟨(some 45), none, (.q (.bin .geq (.t 41) (.t 44)))⟩] [] [2, 8, 10, 35, 36, 37, 45] [2, 34, 1019, 1032, 1062]) (.cond (.t 45) (.exit 2) .skip)) (.seq (.reg [⟨(some 46),
  none, (.q (.fa (.t 2) 2))⟩, ⟨(some 47), none, (.q (.ld (.t 46) 1 false))⟩, ⟨(some 48), none, (.q (.mv (.t 10)))⟩, ⟨(some 49), none, (.q (.ia (.t 47) (.t 48) 1))⟩, ⟨(some 50), none, (.q (.ld (.t 49)
  1 false))⟩, ⟨(some 51), none, (.q (.len (.t 50) false))⟩, ⟨(some 52), none, (.q (.mv (.c (.int .i64 0))))⟩] [] [2, 8, 35, 36, 37, 50, 51, 52] [2, 34, 1019, 1032, 1062]) (.block 4 (.loop B21_2))))))
  (.reg [⟨(some 60), none, (.q (.bin .add (.t 37) (.c (.int .i64 1))))⟩, ⟨(some 37), none, (.q (.mv (.t 60)))⟩] [] [2, 8, 35, 36, 37] [2, 34, 1019, 1032, 1062]))))
def R21_1 : MC := (.seq (.reg [⟨(some 61), none, (.q (.mv (.t 8)))⟩, ⟨(some 62), none, (.calls (.f 35) [(.t 61)])⟩, ⟨(some 4), none, (.q (.mv (.t 62)))⟩] [] [4] [34, 1062]) .ret)
def R21_0 : MC := (.seq (.reg [⟨(some 34), none, .mkm⟩, ⟨(some 8), none, (.q (.mv (.t 34)))⟩] [] [2, 5, 8] [2, 34, 1019, 1032, 1062]) (.seq (.seq (.reg [⟨(some 35), none, (.q (.mv (.t 5)))⟩,
  ⟨(some 36), none, (.q (.len (.t 35) false))⟩, ⟨(some 37), none, (.q (.mv (.c (.int .i64 0))))⟩] [] [2, 8, 35, 36, 37] [2, 34, 1019, 1032, 1062]) (.block 2 (.loop B21_1))) R21_1))
def M21 : MC := (.seq (.reg [⟨(some 2), none, (.box (.t 0))⟩, ⟨(some 4), none, (.q (.mv .nil))⟩] [] [1, 2] [2]) (.seq (.seq (.reg [⟨(some 13), none, (.q (.mv (.t 1)))⟩, ⟨(some 14), none,
  (.call (.f 36) [(.t 13)])⟩, ⟨(some 15), none, (.q (.not (.t 14)))⟩] [] [1, 2, 15] [2, 1014]) (.cond (.t 15) (.seq (.reg [⟨(some 4), none, (.q (.mv .nil))⟩] [(4, 5, 0)] [4] [34, 1062]) .ret) .skip))
  (.seq (.reg [⟨(some 16), none, (.q (.ld (.t 2) 4 true))⟩, ⟨(some 17), none, (.q (.fa (.t 2) 3))⟩, ⟨(some 18), none, (.q (.ld (.t 17) 1 false))⟩, ⟨(some 19), none, (.call (.f 17) [(.t 16),
  (.t 18)])⟩, ⟨(some 5), none, (.q (.mv (.t 19)))⟩] [] [1, 2, 5] [2, 1019, 1032]) (.seq (.seq (.reg [⟨(some 20), none, (.q (.mv (.t 1)))⟩, ⟨(some 21), none, (.call (.f 27) [(.t 20)])⟩, ⟨(some 22),
  none, (.q (.len (.t 21) false))⟩, ⟨(some 23), none, (.q (.mv (.c (.int .i64 0))))⟩] [] [2, 5, 21, 22, 23] [2, 1019, 1021, 1032]) (.block 0 (.loop B21_0))) R21_0))))
theorem mc21 : ofCode Tryd.prog [62] Tryd.f21.ntmps [(0, ⟨[1, 2], [2], [], 0, [], none⟩),
    (1, ⟨[1, 2, 15], [2, 1014], [], 0, [], none⟩),
    (2, ⟨[4], [34, 1062], [], 0, [(4, 5, 0)], none⟩),
    (3, ⟨[1, 2, 5], [2, 1019, 1032], [], 0, [], none⟩),
    (4, ⟨[2, 5, 21, 22, 23], [2, 1019, 1021, 1032], [], 0, [], none⟩),
    (5, ⟨[2, 5, 21, 22, 23, 24], [2, 1019, 1021, 1032], [], 0, [], none⟩),
    (6, ⟨[2, 5, 7, 21, 22, 23], [2, 1019, 1021, 1032], [], 0, [], none⟩),
    (7, ⟨[2, 5, 21, 22, 23], [2, 1019, 1021, 1032], [(0, 97), (1, 98), (2, 116), (3, 120), (4, 0), (5, 0), (6, 64)], 127, [], none⟩),
    (8, ⟨[2, 5, 21, 22, 23], [2, 1019, 1021, 1032], [], 0, [], none⟩),
    (9, ⟨[2, 5, 8], [2, 34, 1019, 1032, 1062], [], 0, [], none⟩),
    (10, ⟨[2, 8, 35, 36, 37], [2, 34, 1019, 1032, 1062], [], 0, [], none⟩),
    (11, ⟨[2, 8, 35, 36, 37, 38], [2, 34, 1019, 1032, 1062], [], 0, [], none⟩),
    (12, ⟨[2, 8, 10, 35, 36, 37], [2, 34, 1019, 1032, 1062], [], 0, [], none⟩),
    (13, ⟨[2, 8, 10, 35, 36, 37, 45], [2, 34, 1019, 1032, 1062], [], 0, [], none⟩),
    (14, ⟨[2, 8, 35, 36, 37, 50, 51, 52], [2, 34, 1019, 1032, 1062], [], 0, [], none⟩),
    (15, ⟨[2, 8, 35, 36, 37, 50, 51, 52, 53], [2, 34, 1019, 1032, 1062], [], 0, [], none⟩),
    (16, ⟨[2, 8, 12, 35, 36, 37, 50, 51, 52], [2, 34, 1019, 1032, 1062], [], 0, [], none⟩),
    (17, ⟨[2, 8, 35, 36, 37, 50, 51, 52], [2, 34, 1019, 1032, 1062], [], 0, [], none⟩),
    (18, ⟨[2, 8, 35, 36, 37, 50, 51, 52], [2, 34, 1019, 1032, 1062], [], 0, [], none⟩),
    (19, ⟨[2, 8, 35, 36, 37], [2, 34, 1019, 1032, 1062], [], 0, [], none⟩),
    (20, ⟨[4], [34, 1062], [], 0, [], none⟩)] (Tryd.f21.body.getD .skip) = some M21 := by kernel_rfl
theorem Run21 {args : List PV} {v : AV} {rs : List (Nat × List PV)} (ids : List Bool) (h : args.length ≤ 63) (hv : run Tryd.prog (retK [RV.tmp 4] ids v rs) M21 [] ⟨entry 0 args, []⟩) : Fn Tryd.prog 21 args v rs :=
  Fn_run ids (by kernel_rfl) Tryd.func21 (by decide) rfl mc21 (by kernel_rfl) (by rw [Tryd.ntmps21]; exact h) (by rw [Tryd.ntmps21]; decide) hv

end Go.Vc

namespace Go.Vc
open Go.Proofs
set_option linter.unusedSimpArgs false
set_option linter.unusedVariables false

/-! ## 'Close', of the code: the closure that adds -/
theorem lkp_N (k : Nat) : ∀ met : List Nat, lkp (pI (k : Int)) (met.map enN) = if k ∈ met then some (.agg []) else none
  | [] => rfl
  | m :: met => by
    simp only [List.map_cons, lkp, keyEq, lkp_N k met]
    by_cases h : k = m
    · subst h; simp
    · have h2 : ¬ ((k : Int) = (m : Int)) := by omega
      simp [h, h2]
theorem mput_N (k : Nat) : ∀ {met : List Nat}, k ∉ met → mput (pI (k : Int)) (.agg []) (met.map enN) = (met ++ [k]).map enN
  | [], _ => rfl
  | m :: met, h => by
    have h1 : k ≠ m := fun e => h (by simp [e])
    have h2 : ¬ ((k : Int) = (m : Int)) := by omega
    simp only [List.map_cons, mput, keyEq, h2, decide_false, Bool.false_eq_true, if_false, List.cons_append, List.cons.injEq, true_and]
    exact mput_N k fun hm => h (List.mem_cons_of_mem _ hm)
theorem lkp_neg {x : Int} (h : x < 0) : ∀ met : List Nat, lkp (pI x) (met.map enN) = none
  | [] => rfl
  | m :: met => by
    have h2 : ¬ (x = (m : Int)) := by omega
    simp [lkp, keyEq, lkp_neg h met, h2]
theorem like_N (x : Int) : ∀ met : List Nat, keysLike .int (pI x) (met.map enN)
  | [] => trivial
  | m :: met => by simp only [List.map_cons, keysLike, keyLike]; exact ⟨trivial, like_N x met⟩
abbrev nBox (n : NF) : List AV := [.pv (ss n.signs), .pv (.lst (n.ways.map pWs)), .pv (.lst (n.done.map pNs)), .pv (pNs n.beg)]
abbrev wRows (n : NF) (s : WorkC) : List (Nat × Row) := [(200000, .box [.mp 200003]), (200001, .box (nBox n)), (200002, .box [.row 150000 0 s.2.1.length]), (200003, .mp (s.1.map enN)), (150000, .sl 1 ((toI s.2.1).map (fun n => pI n) ++ s.2.2))]
theorem fnS33 (n : NF) (x : Int) (s : WorkC) (hn : n.size ≤ 1000) (hw : s.2.1.length ≤ 10000) :
    FnS Tryd.prog 33 [.pv (pI x), .ptr 200000 0, .ptr 200001 0, .ptr 200002 0] (wRows n s) (.pv (.tup [])) (wRows n (addC n x s)) := by
  obtain ⟨met, ws, xs⟩ := s
  simp only at hw
  unfold addC
  split
  · rename_i hc
    obtain ⟨hc1, hc2⟩ := hc
    obtain ⟨k, rfl, hk⟩ := isSt_iff.1 hc1
    rw [Int.toNat_natCast] at hc2 ⊢
    unfold NF.size at hk
    have hlk : lkp (pI (k : Int)) (met.map enN) = none := by rw [lkp_N, if_neg hc2]
    have tk : List.take ws.length ((toI ws).map (fun n => pI n) ++ xs) = (toI ws).map fun n => pI n := List.take_left' (by simp [toI])
    refine RunS33 (by simp) (by simp) ?_
    simp only [go_sem, Nat.reduceEqDiff, Nat.reduceBEq, Nat.reduceAdd, Nat.reduceMul, Nat.reduceSub, Nat.reduceLeDiff, Nat.reduceLT, reduceIte, reduceCtorEq, Int.reduceToNat, Int.reduceLE, Int.reduceLT, Int.reduceNeg, Bool.not_not, and_self, Bool.and_eq_false_iff, Int.cast_ofNat_Int, Int.reduceAdd, Int.reduceSub, Int.reduceMul, Int.reduceEq, Int.reduceNe, M33, hlk, like_N, mput_N k hc2, tk, show (k : Int) < (n.ways.length : Int) by omega]
    exact ⟨⟨wf_ints [(k : Int)], by omega, by omega⟩, by rw [List.length_append]; rfl, by rw [toI_app, List.map_append]; rfl⟩
  · rename_i hc
    refine RunS33 (by simp) (by simp) ?_
    by_cases h0 : x < 0
    · have hlk := lkp_neg h0 met
      simp only [go_sem, Nat.reduceEqDiff, Nat.reduceBEq, Nat.reduceAdd, Nat.reduceMul, Nat.reduceSub, Nat.reduceLeDiff, Nat.reduceLT, reduceIte, reduceCtorEq, Int.reduceToNat, Int.reduceLE, Int.reduceLT, Int.reduceNeg, Bool.not_not, and_self, Bool.and_eq_false_iff, Int.cast_ofNat_Int, Int.reduceAdd, Int.reduceSub, Int.reduceMul, Int.reduceEq, Int.reduceNe, M33, hlk, like_N, show ¬ 0 ≤ x by omega]
    · obtain ⟨k, rfl⟩ : ∃ k : Nat, x = k := ⟨x.toNat, by omega⟩
      by_cases hm : k ∈ met
      · have hlk : lkp (pI (k : Int)) (met.map enN) = some (.agg []) := by rw [lkp_N, if_pos hm]
        simp only [go_sem, Nat.reduceEqDiff, Nat.reduceBEq, Nat.reduceAdd, Nat.reduceMul, Nat.reduceSub, Nat.reduceLeDiff, Nat.reduceLT, reduceIte, reduceCtorEq, Int.reduceToNat, Int.reduceLE, Int.reduceLT, Int.reduceNeg, Bool.not_not, and_self, Bool.and_eq_false_iff, Int.cast_ofNat_Int, Int.reduceAdd, Int.reduceSub, Int.reduceMul, Int.reduceEq, Int.reduceNe, M33, hlk, like_N]
      · have hlk : lkp (pI (k : Int)) (met.map enN) = none := by rw [lkp_N, if_neg hm]
        have hns : ¬ (k : Int) < (n.ways.length : Int) := fun h => hc ⟨isSt_iff.2 ⟨k, rfl, by unfold NF.size; omega⟩, by rw [Int.toNat_natCast]; exact hm⟩
        simp only [go_sem, Nat.reduceEqDiff, Nat.reduceBEq, Nat.reduceAdd, Nat.reduceMul, Nat.reduceSub, Nat.reduceLeDiff, Nat.reduceLT, reduceIte, reduceCtorEq, Int.reduceToNat, Int.reduceLE, Int.reduceLT, Int.reduceNeg, Bool.not_not, and_self, Bool.and_eq_false_iff, Int.cast_ofNat_Int, Int.reduceAdd, Int.reduceSub, Int.reduceMul, Int.reduceEq, Int.reduceNe, M33, hlk, like_N, hns]
abbrev mC : Nat → Nat := fun n => if n = 200000 then 5 else if n = 200001 then 2 else if n = 200002 then 6 else if n = 200003 then 13 else 140000
abbrev cRows (n : NF) (s : WorkC) : List (Nat × Row) := [(2, .box (nBox n)), (5, .box [.mp 13]), (6, .box [.row 140000 0 s.2.1.length]), (13, .mp (s.1.map enN)), (140000, .sl 1 ((toI s.2.1).map (fun n => pI n) ++ s.2.2))]
theorem fn17 (n : NF) (l : List Int) (hg : n.Good) (hsz : n.size ≤ 1000) (hwl : ∀ s, (n.ways.getD s []).length ≤ 1000) (hl : l.length ≤ 100000) : Fn Tryd.prog 17 [pNf n, ints l] (.pv (pNs (closeN n l))) [] := by
  refine Run17 [] (by simp) ?_
  simp only [go_sem, Nat.reduceEqDiff, Nat.reduceBEq, Nat.reduceAdd, Nat.reduceMul, Nat.reduceSub, Nat.reduceLeDiff, Nat.reduceLT, reduceIte, reduceCtorEq, Int.reduceToNat, Int.reduceLE, Int.reduceLT, Int.reduceNeg, Bool.not_not, and_self, Bool.and_eq_false_iff, Int.cast_ofNat_Int, Int.reduceAdd, Int.reduceSub, Int.reduceMul, Int.reduceEq, Int.reduceNe, M17]
  refine run_loopF (T := Nat × WorkC) (fun _ => []) (fun _ => [(6, 0, 140000, 1)]) [2, 5, 6, 7, 15, 16, 17] [2, 5, 6, 13, 140000]
    (fun t => ⟨[(2, .ptr 2 0), (5, .ptr 5 0), (6, .ptr 6 0), (7, .fn 33 [.ptr 5 0, .ptr 2 0, .ptr 6 0]), (15, .pv (ints l)), (16, .pv (pI l.length)), (17, .pv (pI t.1))], cRows n t.2⟩)
    (fun t => t.1 ≤ l.length ∧ PreC n (inI l) (l.drop t.1) t.2.1 t.2.2.1 ∧ t.2.2.1.length ≤ t.2.1.length) (fun t => l.length - t.1) (0, [], [], []) ?_ ⟨Nat.zero_le _, PreC.init n l, Nat.le_refl _⟩ ?_
  · simp only [go_sem, Nat.reduceEqDiff, Nat.reduceBEq, Nat.reduceAdd, Nat.reduceMul, Nat.reduceSub, Nat.reduceLeDiff, Nat.reduceLT, reduceIte, reduceCtorEq, Int.reduceToNat, Int.reduceLE, Int.reduceLT, Int.reduceNeg, Bool.not_not, and_self, Bool.and_eq_false_iff, Int.cast_ofNat_Int, Int.reduceAdd, Int.reduceSub, Int.reduceMul, Int.reduceEq, Int.reduceNe]
    rfl
  rintro ⟨i, s⟩ ⟨hi, hP, hle⟩
  simp only at hi hP hle
  have hml := len_le hP.nodup hP.inn
  by_cases hlt : i < l.length
  · simp only [go_sem, Nat.reduceEqDiff, Nat.reduceBEq, Nat.reduceAdd, Nat.reduceMul, Nat.reduceSub, Nat.reduceLeDiff, Nat.reduceLT, reduceIte, reduceCtorEq, Int.reduceToNat, Int.reduceLE, Int.reduceLT, Int.reduceNeg, Bool.not_not, and_self, Bool.and_eq_false_iff, Int.cast_ofNat_Int, Int.reduceAdd, Int.reduceSub, Int.reduceMul, Int.reduceEq, Int.reduceNe, B17_0, show (i : Int) < (l.length : Int) by omega, wf_ints, getD_map hlt]
    have hS := fnS33 n l[i] s hsz (by omega)
    have hd : l.drop i = l[i] :: l.drop (i + 1) := List.drop_eq_getElem_cons hlt
    rw [hd] at hP
    have hA := hP.add (List.getElem_mem hlt)
    have hle2 := addC_le (n := n) (x := l[i]) hle
    generalize addC n l[i] s = s1 at hS hA hle2
    refine runR_calls mC (by simp only [go_sem, Nat.reduceEqDiff, Nat.reduceBEq, Nat.reduceAdd, Nat.reduceMul, Nat.reduceSub, Nat.reduceLeDiff, Nat.reduceLT, reduceIte, reduceCtorEq, Int.reduceToNat, Int.reduceLE, Int.reduceLT, Int.reduceNeg, Bool.not_not, and_self, Bool.and_eq_false_iff, Int.cast_ofNat_Int, Int.reduceAdd, Int.reduceSub, Int.reduceMul, Int.reduceEq, Int.reduceNe]) (by simp only [go_sem, Nat.reduceEqDiff, Nat.reduceBEq, Nat.reduceAdd, Nat.reduceMul, Nat.reduceSub, Nat.reduceLeDiff, Nat.reduceLT, reduceIte, reduceCtorEq, Int.reduceToNat, Int.reduceLE, Int.reduceLT, Int.reduceNeg, Bool.not_not, and_self, Bool.and_eq_false_iff, Int.cast_ofNat_Int, Int.reduceAdd, Int.reduceSub, Int.reduceMul, Int.reduceEq, Int.reduceNe] <;> rfl) hS rfl (by intro e he; simp only [List.mem_cons, List.not_mem_nil, or_false] at he; rcases he with rfl | rfl | rfl | rfl | rfl <;> simp only [go_sem, Nat.reduceEqDiff, Nat.reduceBEq, Nat.reduceAdd, Nat.reduceMul, Nat.reduceSub, Nat.reduceLeDiff, Nat.reduceLT, reduceIte, reduceCtorEq, Int.reduceToNat, Int.reduceLE, Int.reduceLT, Int.reduceNeg, Bool.not_not, and_self, Bool.and_eq_false_iff, Int.cast_ofNat_Int, Int.reduceAdd, Int.reduceSub, Int.reduceMul, Int.reduceEq, Int.reduceNe, mC]) (by simp) (by simp [mC]) (by simp [mC]) (by intro e he _; simp only [List.mem_cons, List.not_mem_nil, or_false] at he; rcases he with rfl | rfl | rfl | rfl | rfl <;> simp [mC]) ?_
    simp only [go_sem, Nat.reduceEqDiff, Nat.reduceBEq, Nat.reduceAdd, Nat.reduceMul, Nat.reduceSub, Nat.reduceLeDiff, Nat.reduceLT, reduceIte, reduceCtorEq, Int.reduceToNat, Int.reduceLE, Int.reduceLT, Int.reduceNeg, Bool.not_not, and_self, Bool.and_eq_false_iff, Int.cast_ofNat_Int, Int.reduceAdd, Int.reduceSub, Int.reduceMul, Int.reduceEq, Int.reduceNe, mC]
    exact ⟨⟨by omega, by omega⟩, (i + 1, s1), rfl, ⟨hlt, hA, hle2⟩, by simp only; omega⟩
  · simp only [go_sem, Nat.reduceEqDiff, Nat.reduceBEq, Nat.reduceAdd, Nat.reduceMul, Nat.reduceSub, Nat.reduceLeDiff, Nat.reduceLT, reduceIte, reduceCtorEq, Int.reduceToNat, Int.reduceLE, Int.reduceLT, Int.reduceNeg, Bool.not_not, and_self, Bool.and_eq_false_iff, Int.cast_ofNat_Int, Int.reduceAdd, Int.reduceSub, Int.reduceMul, Int.reduceEq, Int.reduceNe, B17_0, R17_0, show ¬ (i : Int) < (l.length : Int) by omega]
    rw [List.drop_of_length_le (by omega)] at hP
    have hI0 := hP.done
    refine run_loopN (T := WorkC) [2, 5, 6, 7] [2, 5, 6, 13, 140000] (fun s => ⟨[(2, .ptr 2 0), (5, .ptr 5 0), (6, .ptr 6 0), (7, .fn 33 [.ptr 5 0, .ptr 2 0, .ptr 6 0])], cRows n s⟩)
      (fun s => InvC n (inI l) s.1 s.2.1 ∧ s.2.1.length ≤ s.1.length) (muC n) s rfl ⟨hI0, hle⟩ ?_
    clear hml hP hI0 hle s
    rintro ⟨met, ws, xs⟩ ⟨hI, hws⟩
    simp only at hI hws
    have hml := len_le hI.nodup hI.inn
    rcases List.eq_nil_or_concat ws with rfl | ⟨w1, k, rfl⟩
    · have hS := fnS35 met (closeN n l) hI.nodup (closeN_ris n l) (fun y => hI.end_ hg y) (by omega)
      simp only [go_sem, Nat.reduceEqDiff, Nat.reduceBEq, Nat.reduceAdd, Nat.reduceMul, Nat.reduceSub, Nat.reduceLeDiff, Nat.reduceLT, reduceIte, reduceCtorEq, Int.reduceToNat, Int.reduceLE, Int.reduceLT, Int.reduceNeg, Bool.not_not, and_self, Bool.and_eq_false_iff, Int.cast_ofNat_Int, Int.reduceAdd, Int.reduceSub, Int.reduceMul, Int.reduceEq, Int.reduceNe, B17_1, R17_1]
      refine runR_calls (fun n => if n = 200000 then 13 else n) (by simp only [go_sem, Nat.reduceEqDiff, Nat.reduceBEq, Nat.reduceAdd, Nat.reduceMul, Nat.reduceSub, Nat.reduceLeDiff, Nat.reduceLT, reduceIte, reduceCtorEq, Int.reduceToNat, Int.reduceLE, Int.reduceLT, Int.reduceNeg, Bool.not_not, and_self, Bool.and_eq_false_iff, Int.cast_ofNat_Int, Int.reduceAdd, Int.reduceSub, Int.reduceMul, Int.reduceEq, Int.reduceNe]) (by simp only [go_sem, Nat.reduceEqDiff, Nat.reduceBEq, Nat.reduceAdd, Nat.reduceMul, Nat.reduceSub, Nat.reduceLeDiff, Nat.reduceLT, reduceIte, reduceCtorEq, Int.reduceToNat, Int.reduceLE, Int.reduceLT, Int.reduceNeg, Bool.not_not, and_self, Bool.and_eq_false_iff, Int.cast_ofNat_Int, Int.reduceAdd, Int.reduceSub, Int.reduceMul, Int.reduceEq, Int.reduceNe] <;> rfl) hS rfl (by intro e he; simp only [List.mem_cons, List.not_mem_nil, or_false] at he; rcases he with rfl <;> simp only [go_sem, Nat.reduceEqDiff, Nat.reduceBEq, Nat.reduceAdd, Nat.reduceMul, Nat.reduceSub, Nat.reduceLeDiff, Nat.reduceLT, reduceIte, reduceCtorEq, Int.reduceToNat, Int.reduceLE, Int.reduceLT, Int.reduceNeg, Bool.not_not, and_self, Bool.and_eq_false_iff, Int.cast_ofNat_Int, Int.reduceAdd, Int.reduceSub, Int.reduceMul, Int.reduceEq, Int.reduceNe]) (by simp) (by simp) (by simp) (by intro e he h9; simp only [List.mem_cons, List.not_mem_nil, or_false] at he; rcases he with rfl <;> simp at h9) ?_
      simp only [go_sem, Nat.reduceEqDiff, Nat.reduceBEq, Nat.reduceAdd, Nat.reduceMul, Nat.reduceSub, Nat.reduceLeDiff, Nat.reduceLT, reduceIte, reduceCtorEq, Int.reduceToNat, Int.reduceLE, Int.reduceLT, Int.reduceNeg, Bool.not_not, and_self, Bool.and_eq_false_iff, Int.cast_ofNat_Int, Int.reduceAdd, Int.reduceSub, Int.reduceMul, Int.reduceEq, Int.reduceNe]
    · rw [List.concat_eq_append] at *
      have hM := hI.pop
      have hk := hI.inn k (hI.sub k (by simp))
      rw [List.length_append, List.length_singleton] at hws
      have e1 : (((w1.length + 1 : Nat) : Int) - 1).toNat = w1.length := by omega
      have hget : ((toI (w1 ++ [k])).map (fun n => pI n) ++ xs).getD w1.length default = pI (k : Int) := by simp [List.getD_eq_getElem?_getD, toI]
      have hbs : (toI (w1 ++ [k])).map (fun n => pI n) ++ xs = (toI w1).map (fun n => pI n) ++ (pI (k : Int) :: xs) := by simp [toI]
      simp only [go_sem, Nat.reduceEqDiff, Nat.reduceBEq, Nat.reduceAdd, Nat.reduceMul, Nat.reduceSub, Nat.reduceLeDiff, Nat.reduceLT, reduceIte, reduceCtorEq, Int.reduceToNat, Int.reduceLE, Int.reduceLT, Int.reduceNeg, Bool.not_not, and_self, Bool.and_eq_false_iff, Int.cast_ofNat_Int, Int.reduceAdd, Int.reduceSub, Int.reduceMul, Int.reduceEq, Int.reduceNe, B17_1, List.length_append, List.length_singleton, e1, hget, show (0 : Int) < ((w1.length + 1 : Nat) : Int) by omega]
      refine ⟨⟨by omega, by omega⟩, ⟨by omega, by omega⟩, by simp [toI]; omega, ⟨by omega, by omega⟩, ⟨by omega, by omega⟩, ?_⟩
      refine runR_call (by simp only [go_sem, Nat.reduceEqDiff, Nat.reduceBEq, Nat.reduceAdd, Nat.reduceMul, Nat.reduceSub, Nat.reduceLeDiff, Nat.reduceLT, reduceIte, reduceCtorEq, Int.reduceToNat, Int.reduceLE, Int.reduceLT, Int.reduceNeg, Bool.not_not, and_self, Bool.and_eq_false_iff, Int.cast_ofNat_Int, Int.reduceAdd, Int.reduceSub, Int.reduceMul, Int.reduceEq, Int.reduceNe]) rfl (fn34 n (k : Int) hsz) (.inl rfl) trivial ?_
      have hwa : waysAt n (k : Int) = n.ways.getD k [] := by unfold waysAt; rw [if_pos (by omega)]; simp
      rw [hwa]
      have hWl := hwl k
      generalize hW : n.ways.getD k [] = W at hM hWl
      simp only [go_sem, Nat.reduceEqDiff, Nat.reduceBEq, Nat.reduceAdd, Nat.reduceMul, Nat.reduceSub, Nat.reduceLeDiff, Nat.reduceLT, reduceIte, reduceCtorEq, Int.reduceToNat, Int.reduceLE, Int.reduceLT, Int.reduceNeg, Bool.not_not, and_self, Bool.and_eq_false_iff, Int.cast_ofNat_Int, Int.reduceAdd, Int.reduceSub, Int.reduceMul, Int.reduceEq, Int.reduceNe]
      rw [hbs]
      have hmu0 : muC n (met, w1, pI (k : Int) :: xs) < muC n (met, w1 ++ [k], xs) := by unfold muC; simp only [List.length_append, List.length_singleton]; omega
      refine run_loopN (T := Nat × WorkC) [2, 5, 6, 7, 41, 42, 43] [2, 5, 6, 13, 140000] (fun t => ⟨[(2, .ptr 2 0), (5, .ptr 5 0), (6, .ptr 6 0), (7, .fn 33 [.ptr 5 0, .ptr 2 0, .ptr 6 0]), (41, .pv (pWs W)), (42, .pv (pI W.length)), (43, .pv (pI t.1))], cRows n t.2⟩)
        (fun t => t.1 ≤ W.length ∧ MidC n (inI l) k (W.drop t.1) t.2.1 t.2.2.1 ∧ t.2.2.1.length ≤ t.2.1.length ∧ muC n t.2 ≤ muC n (met, w1, pI (k : Int) :: xs)) (fun t => W.length - t.1) (0, met, w1, pI (k : Int) :: xs) rfl ⟨Nat.zero_le _, hM, by simp only; omega, Nat.le_refl _⟩ ?_
      rintro ⟨j, s⟩ ⟨hj, hMj, hle, hmu⟩
      simp only at hj hMj hle hmu
      have hml2 := len_le hMj.nodup hMj.inn
      by_cases hjl : j < W.length
      · have hd : W.drop j = W[j] :: W.drop (j + 1) := List.drop_eq_getElem_cons hjl
        rw [hd] at hMj
        by_cases he : W[j].1 = -1
        · have hS := fnS33 n W[j].2 s hsz (by omega)
          have hA := hMj.add hg he
          have hle2 := addC_le (n := n) (x := W[j].2) hle
          have hmu2 := muC_add (n := n) (x := W[j].2) (s := s) (len_le hA.nodup hA.inn)
          generalize addC n W[j].2 s = s1 at hS hA hle2 hmu2
          simp only [go_sem, Nat.reduceEqDiff, Nat.reduceBEq, Nat.reduceAdd, Nat.reduceMul, Nat.reduceSub, Nat.reduceLeDiff, Nat.reduceLT, reduceIte, reduceCtorEq, Int.reduceToNat, Int.reduceLE, Int.reduceLT, Int.reduceNeg, Bool.not_not, and_self, Bool.and_eq_false_iff, Int.cast_ofNat_Int, Int.reduceAdd, Int.reduceSub, Int.reduceMul, Int.reduceEq, Int.reduceNe, B17_2, show (j : Int) < (W.length : Int) by omega, wf_pE, getD_map hjl, he]
          refine runR_calls mC (by simp only [go_sem, Nat.reduceEqDiff, Nat.reduceBEq, Nat.reduceAdd, Nat.reduceMul, Nat.reduceSub, Nat.reduceLeDiff, Nat.reduceLT, reduceIte, reduceCtorEq, Int.reduceToNat, Int.reduceLE, Int.reduceLT, Int.reduceNeg, Bool.not_not, and_self, Bool.and_eq_false_iff, Int.cast_ofNat_Int, Int.reduceAdd, Int.reduceSub, Int.reduceMul, Int.reduceEq, Int.reduceNe]) (by simp only [go_sem, Nat.reduceEqDiff, Nat.reduceBEq, Nat.reduceAdd, Nat.reduceMul, Nat.reduceSub, Nat.reduceLeDiff, Nat.reduceLT, reduceIte, reduceCtorEq, Int.reduceToNat, Int.reduceLE, Int.reduceLT, Int.reduceNeg, Bool.not_not, and_self, Bool.and_eq_false_iff, Int.cast_ofNat_Int, Int.reduceAdd, Int.reduceSub, Int.reduceMul, Int.reduceEq, Int.reduceNe] <;> rfl) hS rfl (by intro e he; simp only [List.mem_cons, List.not_mem_nil, or_false] at he; rcases he with rfl | rfl | rfl | rfl | rfl <;> simp only [go_sem, Nat.reduceEqDiff, Nat.reduceBEq, Nat.reduceAdd, Nat.reduceMul, Nat.reduceSub, Nat.reduceLeDiff, Nat.reduceLT, reduceIte, reduceCtorEq, Int.reduceToNat, Int.reduceLE, Int.reduceLT, Int.reduceNeg, Bool.not_not, and_self, Bool.and_eq_false_iff, Int.cast_ofNat_Int, Int.reduceAdd, Int.reduceSub, Int.reduceMul, Int.reduceEq, Int.reduceNe, mC]) (by simp) (by simp [mC]) (by simp [mC]) (by intro e he _; simp only [List.mem_cons, List.not_mem_nil, or_false] at he; rcases he with rfl | rfl | rfl | rfl | rfl <;> simp [mC]) ?_
          simp only [go_sem, Nat.reduceEqDiff, Nat.reduceBEq, Nat.reduceAdd, Nat.reduceMul, Nat.reduceSub, Nat.reduceLeDiff, Nat.reduceLT, reduceIte, reduceCtorEq, Int.reduceToNat, Int.reduceLE, Int.reduceLT, Int.reduceNeg, Bool.not_not, and_self, Bool.and_eq_false_iff, Int.cast_ofNat_Int, Int.reduceAdd, Int.reduceSub, Int.reduceMul, Int.reduceEq, Int.reduceNe, mC]
          exact ⟨⟨by omega, by omega⟩, (j + 1, s1), rfl, ⟨hjl, hA, hle2, by simp only; omega⟩, by simp only; omega⟩
        · have hA := hMj.skip he
          simp only [go_sem, Nat.reduceEqDiff, Nat.reduceBEq, Nat.reduceAdd, Nat.reduceMul, Nat.reduceSub, Nat.reduceLeDiff, Nat.reduceLT, reduceIte, reduceCtorEq, Int.reduceToNat, Int.reduceLE, Int.reduceLT, Int.reduceNeg, Bool.not_not, and_self, Bool.and_eq_false_iff, Int.cast_ofNat_Int, Int.reduceAdd, Int.reduceSub, Int.reduceMul, Int.reduceEq, Int.reduceNe, B17_2, show (j : Int) < (W.length : Int) by omega, wf_pE, getD_map hjl, he]
          exact ⟨⟨by omega, by omega⟩, (j + 1, s), rfl, ⟨hjl, hA, hle, hmu⟩, by simp only; omega⟩
      · rw [List.drop_of_length_le (by omega)] at hMj
        simp only [go_sem, Nat.reduceEqDiff, Nat.reduceBEq, Nat.reduceAdd, Nat.reduceMul, Nat.reduceSub, Nat.reduceLeDiff, Nat.reduceLT, reduceIte, reduceCtorEq, Int.reduceToNat, Int.reduceLE, Int.reduceLT, Int.reduceNeg, Bool.not_not, and_self, Bool.and_eq_false_iff, Int.cast_ofNat_Int, Int.reduceAdd, Int.reduceSub, Int.reduceMul, Int.reduceEq, Int.reduceNe, B17_2, show ¬ (j : Int) < (W.length : Int) by omega]
        exact ⟨s, rfl, ⟨hMj.done, hle⟩, by omega⟩
end Go.Vc

namespace Go.Vc
open Go.Proofs
set_option linter.unusedSimpArgs false
set_option linter.unusedVariables false

/-! ## 'Step', of the code -/
def goF (sign : Int) (W : List (Int × Int)) : List Int := (W.filter (fun e => decide (e.1 = sign))).map (·.2)
theorem goF_succ {sign : Int} {W : List (Int × Int)} {k : Nat} (h : k < W.length) : goF sign (W.take (k + 1)) = goF sign (W.take k) ++ (if W[k].1 = sign then [W[k].2] else []) := by
  unfold goF
  rw [List.take_succ_eq_append_getElem h, List.filter_append, List.map_append]
  congr 1
  by_cases h1 : W[k].1 = sign <;> simp [h1]
theorem goF_len (sign : Int) (W : List (Int × Int)) : (goF sign W).length ≤ W.length := by
  unfold goF
  rw [List.length_map]
  exact List.length_filter_le _ _
def goK (n : NF) (l : List Int) (sign : Int) (i k : Nat) : List Int := goN n (l.take i) sign ++ goF sign ((waysAt n (l.getD i 0)).take k)
theorem goK_zero (n : NF) (l : List Int) (sign : Int) (i : Nat) : goK n l sign i 0 = goN n (l.take i) sign := by simp [goK, goF]
theorem goK_end {n : NF} {l : List Int} {sign : Int} {i : Nat} (h : i < l.length) : goK n l sign i (waysAt n (l.getD i 0)).length = goK n l sign (i + 1) 0 := by
  rw [goK_zero]
  unfold goK
  rw [List.take_length, List.take_succ_eq_append_getElem h]
  unfold goN
  rw [List.flatMap_append]
  simp [List.getD_eq_getElem?_getD, h, goF]
theorem goN_len {n : NF} {sign : Int} (hw : ∀ x, (waysAt n x).length ≤ 200) : ∀ l : List Int, (goN n l sign).length ≤ 200 * l.length
  | [] => by simp [goN]
  | x :: l => by
    have := goN_len (sign := sign) hw l
    have h2 := goF_len sign (waysAt n x)
    have h3 := hw x
    unfold goN at *
    rw [List.flatMap_cons, List.length_append, List.length_cons]
    unfold goF at h2
    omega
theorem goK_len {n : NF} {l : List Int} {sign : Int} {i k : Nat} (hw : ∀ x, (waysAt n x).length ≤ 200) (hi : i ≤ l.length) : (goK n l sign i k).length ≤ 200 * i + k := by
  have h1 := goN_len (sign := sign) hw (l.take i)
  have h2 := goF_len sign ((waysAt n (l.getD i 0)).take k)
  rw [List.length_take] at h1 h2
  unfold goK
  rw [List.length_append]
  have : min i l.length ≤ i := Nat.min_le_left _ _
  omega
theorem waysAt_len {n : NF} (hw : ∀ s, (n.ways.getD s []).length ≤ 200) (x : Int) : (waysAt n x).length ≤ 200 := by
  unfold waysAt
  split
  · exact hw _
  · simp
theorem fn19 (n : NF) (l : List Int) (sign : Int) (hg : n.Good) (hsz : n.size ≤ 1000) (hwl : ∀ s, (n.ways.getD s []).length ≤ 200) (hl : l.length ≤ 200) : Fn Tryd.prog 19 [pNf n, ints l, pI sign] (.pv (pNs (stepN n l sign))) [] := by
  have hw := waysAt_len hwl
  refine Run19 [] (by simp) ?_
  unfold stepN
  by_cases h0 : sign < 0
  · simp only [go_sem, Nat.reduceEqDiff, Nat.reduceBEq, Nat.reduceAdd, Nat.reduceMul, Nat.reduceSub, Nat.reduceLeDiff, Nat.reduceLT, reduceIte, reduceCtorEq, Int.reduceToNat, Int.reduceLE, Int.reduceLT, Int.reduceNeg, Bool.not_not, and_self, Bool.and_eq_false_iff, Int.cast_ofNat_Int, Int.reduceAdd, Int.reduceSub, Int.reduceMul, Int.reduceEq, Int.reduceNe, M19, h0]
    rfl
  rw [if_neg h0]
  simp only [go_sem, Nat.reduceEqDiff, Nat.reduceBEq, Nat.reduceAdd, Nat.reduceMul, Nat.reduceSub, Nat.reduceLeDiff, Nat.reduceLT, reduceIte, reduceCtorEq, Int.reduceToNat, Int.reduceLE, Int.reduceLT, Int.reduceNeg, Bool.not_not, and_self, Bool.and_eq_false_iff, Int.cast_ofNat_Int, Int.reduceAdd, Int.reduceSub, Int.reduceMul, Int.reduceEq, Int.reduceNe, M19, h0]
  have key : ∀ i, List.take (goK n l sign i 0).length ((goK n l sign i 0).map fun n => pI n) = (goK n l sign i 0).map fun n => pI n := fun i => List.take_of_length_le (by simp)
  refine run_loopG (T := Nat) (fun i => if i = l.length then [(2007, 2007, 0)] else []) [2, 3, 7, 14, 15, 16] [3, 2007]
    (fun i => if i = l.length then ⟨[(2, .pv (pI sign)), (3, .ptr 3 0), (7, .pv (ints (goK n l sign i 0))), (14, .pv (ints l)), (15, .pv (pI l.length)), (16, .pv (pI i))], [(3, .box (nBox n))]⟩
      else ⟨[(2, .pv (pI sign)), (3, .ptr 3 0), (7, .row 2007 0 (goK n l sign i 0).length), (14, .pv (ints l)), (15, .pv (pI l.length)), (16, .pv (pI i))], [(3, .box (nBox n)), (2007, .sl 1 ((goK n l sign i 0).map fun n => pI n))]⟩) (fun i => i ≤ l.length) (fun i => l.length - i) 0 ?_ (Nat.zero_le _) ?_
  · have hz : goK n l sign 0 0 = [] := by simp [goK_zero, goN]
    by_cases h9 : 0 = l.length
    · simp only [go_sem, Nat.reduceEqDiff, Nat.reduceBEq, Nat.reduceAdd, Nat.reduceMul, Nat.reduceSub, Nat.reduceLeDiff, Nat.reduceLT, reduceIte, reduceCtorEq, Int.reduceToNat, Int.reduceLE, Int.reduceLT, Int.reduceNeg, Bool.not_not, and_self, Bool.and_eq_false_iff, Int.cast_ofNat_Int, Int.reduceAdd, Int.reduceSub, Int.reduceMul, Int.reduceEq, Int.reduceNe, h9, hz]
      rw [← h9, hz]; rfl
    · simp only [go_sem, Nat.reduceEqDiff, Nat.reduceBEq, Nat.reduceAdd, Nat.reduceMul, Nat.reduceSub, Nat.reduceLeDiff, Nat.reduceLT, reduceIte, reduceCtorEq, Int.reduceToNat, Int.reduceLE, Int.reduceLT, Int.reduceNeg, Bool.not_not, and_self, Bool.and_eq_false_iff, Int.cast_ofNat_Int, Int.reduceAdd, Int.reduceSub, Int.reduceMul, Int.reduceEq, Int.reduceNe, h9, hz]
  intro i hi
  by_cases hlt : i < l.length
  · rw [if_neg (show ¬ i = l.length by omega)]
    have hli : l.getD i 0 = l[i] := by simp [List.getD_eq_getElem?_getD, hlt]
    have hW := hw l[i]
    simp only [go_sem, Nat.reduceEqDiff, Nat.reduceBEq, Nat.reduceAdd, Nat.reduceMul, Nat.reduceSub, Nat.reduceLeDiff, Nat.reduceLT, reduceIte, reduceCtorEq, Int.reduceToNat, Int.reduceLE, Int.reduceLT, Int.reduceNeg, Bool.not_not, and_self, Bool.and_eq_false_iff, Int.cast_ofNat_Int, Int.reduceAdd, Int.reduceSub, Int.reduceMul, Int.reduceEq, Int.reduceNe, B19_0, show (i : Int) < (l.length : Int) by omega, wf_ints, getD_map hlt]
    refine runR_call (by simp only [go_sem, Nat.reduceEqDiff, Nat.reduceBEq, Nat.reduceAdd, Nat.reduceMul, Nat.reduceSub, Nat.reduceLeDiff, Nat.reduceLT, reduceIte, reduceCtorEq, Int.reduceToNat, Int.reduceLE, Int.reduceLT, Int.reduceNeg, Bool.not_not, and_self, Bool.and_eq_false_iff, Int.cast_ofNat_Int, Int.reduceAdd, Int.reduceSub, Int.reduceMul, Int.reduceEq, Int.reduceNe]) rfl (fn34 n l[i] hsz) (.inl rfl) trivial ?_
    have hend := goK_end (n := n) (sign := sign) hlt
    rw [hli] at hend
    have hgk : ∀ k, goK n l sign i k = goN n (l.take i) sign ++ goF sign ((waysAt n l[i]).take k) := fun k => by unfold goK; rw [hli]
    generalize waysAt n l[i] = W at hW hend hgk ⊢
    simp only [go_sem, Nat.reduceEqDiff, Nat.reduceBEq, Nat.reduceAdd, Nat.reduceMul, Nat.reduceSub, Nat.reduceLeDiff, Nat.reduceLT, reduceIte, reduceCtorEq, Int.reduceToNat, Int.reduceLE, Int.reduceLT, Int.reduceNeg, Bool.not_not, and_self, Bool.and_eq_false_iff, Int.cast_ofNat_Int, Int.reduceAdd, Int.reduceSub, Int.reduceMul, Int.reduceEq, Int.reduceNe]
    refine run_loop (T := Nat) (fun k => ⟨[(2, .pv (pI sign)), (3, .ptr 3 0), (7, .row 2007 0 (goK n l sign i k).length), (14, .pv (ints l)), (15, .pv (pI l.length)), (16, .pv (pI i)), (22, .pv (pWs W)), (23, .pv (pI W.length)), (24, .pv (pI k))],
      [(3, .box (nBox n)), (2007, .sl 1 ((goK n l sign i k).map fun n => pI n))]⟩) (fun k => k ≤ W.length) (fun k => W.length - k) 0 rfl (Nat.zero_le _) ?_
    intro k hk
    have hkl := goK_len (sign := sign) (k := k) hw hi
    have tk : ((goK n l sign i k).map fun n => pI n).take (goK n l sign i k).length = (goK n l sign i k).map fun n => pI n := List.take_of_length_le (by simp)
    by_cases hkk : k < W.length
    · have hsc : goK n l sign i (k + 1) = goK n l sign i k ++ (if W[k].1 = sign then [W[k].2] else []) := by rw [hgk, hgk, goF_succ hkk, List.append_assoc]
      by_cases he : W[k].1 = sign
      · rw [if_pos he] at hsc
        simp only [go_sem, Nat.reduceEqDiff, Nat.reduceBEq, Nat.reduceAdd, Nat.reduceMul, Nat.reduceSub, Nat.reduceLeDiff, Nat.reduceLT, reduceIte, reduceCtorEq, Int.reduceToNat, Int.reduceLE, Int.reduceLT, Int.reduceNeg, Bool.not_not, and_self, Bool.and_eq_false_iff, Int.cast_ofNat_Int, Int.reduceAdd, Int.reduceSub, Int.reduceMul, Int.reduceEq, Int.reduceNe, B19_1, show (k : Int) < (W.length : Int) by omega, wf_pE, getD_map hkk, he, tk]
        exact ⟨⟨wf_ints [W[k].2], by omega, by omega⟩, ⟨by omega, by omega⟩, k + 1, by rw [hsc, List.map_append, List.length_append]; rfl, hkk, by omega⟩
      · rw [if_neg he, List.append_nil] at hsc
        simp only [go_sem, Nat.reduceEqDiff, Nat.reduceBEq, Nat.reduceAdd, Nat.reduceMul, Nat.reduceSub, Nat.reduceLeDiff, Nat.reduceLT, reduceIte, reduceCtorEq, Int.reduceToNat, Int.reduceLE, Int.reduceLT, Int.reduceNeg, Bool.not_not, and_self, Bool.and_eq_false_iff, Int.cast_ofNat_Int, Int.reduceAdd, Int.reduceSub, Int.reduceMul, Int.reduceEq, Int.reduceNe, B19_1, show (k : Int) < (W.length : Int) by omega, wf_pE, getD_map hkk, he, tk]
        exact ⟨⟨by omega, by omega⟩, k + 1, by rw [hsc]; rfl, hkk, by omega⟩
    · have hke : k = W.length := by omega
      subst hke
      simp only [go_sem, Nat.reduceEqDiff, Nat.reduceBEq, Nat.reduceAdd, Nat.reduceMul, Nat.reduceSub, Nat.reduceLeDiff, Nat.reduceLT, reduceIte, reduceCtorEq, Int.reduceToNat, Int.reduceLE, Int.reduceLT, Int.reduceNeg, Bool.not_not, and_self, Bool.and_eq_false_iff, Int.cast_ofNat_Int, Int.reduceAdd, Int.reduceSub, Int.reduceMul, Int.reduceEq, Int.reduceNe, B19_1, show ¬ (W.length : Int) < (W.length : Int) by omega]
      refine ⟨⟨by omega, by omega⟩, i + 1, ?_, hlt, by omega⟩
      have hsi : (i : Int) + 1 = ((i + 1 : Nat) : Int) := by omega
      have hky := key (i + 1)
      rw [hend]
      unfold GH
      by_cases h9 : i + 1 = l.length
      · simp only [go_sem, Nat.reduceEqDiff, Nat.reduceBEq, Nat.reduceAdd, Nat.reduceMul, Nat.reduceSub, Nat.reduceLeDiff, Nat.reduceLT, reduceIte, reduceCtorEq, Int.reduceToNat, Int.reduceLE, Int.reduceLT, Int.reduceNeg, Bool.not_not, and_self, Bool.and_eq_false_iff, Int.cast_ofNat_Int, Int.reduceAdd, Int.reduceSub, Int.reduceMul, Int.reduceEq, Int.reduceNe, h9]
        rw [h9] at hky hsi
        rw [hky, hsi]
      · simp only [go_sem, Nat.reduceEqDiff, Nat.reduceBEq, Nat.reduceAdd, Nat.reduceMul, Nat.reduceSub, Nat.reduceLeDiff, Nat.reduceLT, reduceIte, reduceCtorEq, Int.reduceToNat, Int.reduceLE, Int.reduceLT, Int.reduceNeg, Bool.not_not, and_self, Bool.and_eq_false_iff, Int.cast_ofNat_Int, Int.reduceAdd, Int.reduceSub, Int.reduceMul, Int.reduceEq, Int.reduceNe, h9]
        rw [hsi]
  · have hie : i = l.length := by omega
    subst hie
    rw [if_pos rfl]
    have hkl := goK_len (sign := sign) (k := 0) hw (Nat.le_refl l.length)
    have tk : ((goK n l sign l.length 0).map fun n => pI n).take (goK n l sign l.length 0).length = (goK n l sign l.length 0).map fun n => pI n := List.take_of_length_le (by simp)
    simp only [go_sem, Nat.reduceEqDiff, Nat.reduceBEq, Nat.reduceAdd, Nat.reduceMul, Nat.reduceSub, Nat.reduceLeDiff, Nat.reduceLT, reduceIte, reduceCtorEq, Int.reduceToNat, Int.reduceLE, Int.reduceLT, Int.reduceNeg, Bool.not_not, and_self, Bool.and_eq_false_iff, Int.cast_ofNat_Int, Int.reduceAdd, Int.reduceSub, Int.reduceMul, Int.reduceEq, Int.reduceNe, B19_0, R19_0, show ¬ (l.length : Int) < (l.length : Int) by omega, tk]
    refine runR_call (by simp only [go_sem, Nat.reduceEqDiff, Nat.reduceBEq, Nat.reduceAdd, Nat.reduceMul, Nat.reduceSub, Nat.reduceLeDiff, Nat.reduceLT, reduceIte, reduceCtorEq, Int.reduceToNat, Int.reduceLE, Int.reduceLT, Int.reduceNeg, Bool.not_not, and_self, Bool.and_eq_false_iff, Int.cast_ofNat_Int, Int.reduceAdd, Int.reduceSub, Int.reduceMul, Int.reduceEq, Int.reduceNe]) rfl (fn17 n (goK n l sign l.length 0) hg hsz (fun s => by have := hwl s; omega) (by omega)) (.inl rfl) trivial ?_
    simp only [go_sem, Nat.reduceEqDiff, Nat.reduceBEq, Nat.reduceAdd, Nat.reduceMul, Nat.reduceSub, Nat.reduceLeDiff, Nat.reduceLT, reduceIte, reduceCtorEq, Int.reduceToNat, Int.reduceLE, Int.reduceLT, Int.reduceNeg, Bool.not_not, and_self, Bool.and_eq_false_iff, Int.cast_ofNat_Int, Int.reduceAdd, Int.reduceSub, Int.reduceMul, Int.reduceEq, Int.reduceNe]
    rw [goK_zero, List.take_length]
end Go.Vc

namespace Go.Vc
open Go.Proofs
set_option linter.unusedSimpArgs false
set_option linter.unusedVariables false

/-! ## The document's 'Close' -/
def metL (n : NF) (f : Nat → Bool) : List Bool := (List.range n.size).map f
theorem metL_len (n : NF) (f : Nat → Bool) : (metL n f).length = n.size := by simp [metL]
theorem metL_get {n : NF} {f : Nat → Bool} {s : Nat} (h : s < (metL n f).length) : (metL n f)[s] = f s := by simp [metL]
theorem metL_set {n : NF} {f : Nat → Bool} {s : Nat} (h : s < n.size) : (metL n f).set s true = metL n (fun j => if j = s then true else f j) := by
  refine List.ext_getElem (by simp [metL]) fun i h1 h2 => ?_
  rw [metL_get h2, List.getElem_set]
  by_cases hi : s = i
  · rw [if_pos hi, if_pos hi.symm]
  · rw [if_neg hi, if_neg (fun e => hi e.symm), metL_get]
theorem metL_ext {n : NF} {f g : Nat → Bool} (h : ∀ s, s < n.size → f s = g s) : metL n f = metL n g := by
  unfold metL
  exact List.map_congr_left fun s hs => h s (List.mem_range.1 hs)
theorem inI_take {l : List Int} {i : Nat} (h : i < l.length) (s : Nat) : inI (l.take (i + 1)) s = (inI (l.take i) s || decide (l[i] = (s : Int))) := by
  unfold inI
  rw [List.take_succ_eq_append_getElem h, List.any_append]; simp
def outK (n : NF) (f : Nat → Bool) (i : Nat) : List Nat := (List.range i).filter f
theorem outK_succ (n : NF) (f : Nat → Bool) (i : Nat) : outK n f (i + 1) = outK n f i ++ (if f i = true then [i] else []) := by
  unfold outK
  rw [List.range_succ, List.filter_append]
  cases h : f i <;> simp [h]
theorem outK_len (n : NF) (f : Nat → Bool) (i : Nat) : (outK n f i).length ≤ i := by
  have := List.length_filter_le f (List.range i)
  simpa [outK] using this
theorem wf_bools (l : List Bool) : WfL 1 (l.map fun b => pB b) := wf_map (f := fun b : Bool => pB b) (s := 1) (fun a => ⟨rfl, fun c hc => by
  simp only [PV.cells, List.mem_cons, List.not_mem_nil, or_false] at hc
  subst hc; rfl⟩) l
def aK (W : List (Int × Int)) (k : Nat) : Bool := (W.take k).any fun e => decide (e.1 = -1)
theorem aK_succ {W : List (Int × Int)} {k : Nat} (h : k < W.length) : aK W (k + 1) = (aK W k || decide (W[k].1 = -1)) := by
  unfold aK
  rw [List.take_succ_eq_append_getElem h, List.any_append]; simp
def edgeF (P : Nat → Bool) (s : Nat) (b : Bool) (j : Nat) : Bool := if j = s + 1 then (P j || (P s && b)) else P j
theorem edgeF_false (P : Nat → Bool) (s j : Nat) : edgeF P s false j = P j := by unfold edgeF; split <;> simp
theorem fn18 (n : NF) (l : List Int) (hg : n.Good) (hsz : n.size ≤ 1000) (hwl : ∀ s, (n.ways.getD s []).length ≤ 1000) (hl : l.length ≤ 100000) : Fn Tryd.prog 18 [pNf n, ints l] (.pv (pNs (closeN n l))) [] := by
  have hsz' : n.ways.length = n.size := rfl
  refine Run18 [] (by simp) ?_
  simp only [go_sem, Nat.reduceEqDiff, Nat.reduceBEq, Nat.reduceAdd, Nat.reduceMul, Nat.reduceSub, Nat.reduceLeDiff, Nat.reduceLT, reduceIte, reduceCtorEq, Int.reduceToNat, Int.reduceLE, Int.reduceLT, Int.reduceNeg, Bool.not_not, and_self, Bool.and_eq_false_iff, Int.cast_ofNat_Int, Int.reduceAdd, Int.reduceSub, Int.reduceMul, Int.reduceEq, Int.reduceNe, M18, hsz']
  refine ⟨⟨by omega, by omega, by omega⟩, ?_⟩
  refine run_loop (T := Nat) (fun i => ⟨[(1, .pv (ints l)), (2, .ptr 2 0), (5, .row 14 0 n.size), (6, .pv (pI i))], [(2, .box (nBox n)), (14, .sl 1 ((metL n (inI (l.take i))).map fun b => pB b))]⟩) (fun i => i ≤ l.length) (fun i => l.length - i) 0 ?_ (Nat.zero_le _) ?_
  · have : (metL n (inI (l.take 0))).map (fun b => pB b) = List.replicate n.size (pB false) := by
      rw [show metL n (inI (l.take 0)) = List.replicate n.size false from by
        rw [metL_ext (g := fun _ => false) (fun s _ => by simp [inI])]
        unfold metL
        rw [List.map_const', List.length_range], List.map_replicate]
    rw [this]; rfl
  intro i hi
  by_cases hlt : i < l.length
  · simp only [go_sem, Nat.reduceEqDiff, Nat.reduceBEq, Nat.reduceAdd, Nat.reduceMul, Nat.reduceSub, Nat.reduceLeDiff, Nat.reduceLT, reduceIte, reduceCtorEq, Int.reduceToNat, Int.reduceLE, Int.reduceLT, Int.reduceNeg, Bool.not_not, and_self, Bool.and_eq_false_iff, Int.cast_ofNat_Int, Int.reduceAdd, Int.reduceSub, Int.reduceMul, Int.reduceEq, Int.reduceNe, B18_0, show (i : Int) < (l.length : Int) by omega, wf_ints, getD_map hlt, metL_len]
    refine ⟨fun h => ?_, fun h => ⟨⟨by omega, by omega⟩, i + 1, ?_, hlt, by omega⟩⟩
    · obtain ⟨k, hk⟩ : ∃ k : Nat, l[i] = k := ⟨l[i].toNat, by omega⟩
      have hks : k < n.size := by omega
      rw [show l[i].toNat = k by omega, getD_map (show k < (metL n (inI (l.take i))).length by rw [metL_len]; exact hks)]
      refine ⟨h, hks, ⟨by omega, by omega⟩, i + 1, ?_, hlt, by omega⟩
      have e : ((metL n (inI (l.take i))).map fun b => pB b).set k (pB true) = (metL n (inI (l.take (i + 1)))).map fun b => pB b := by
        rw [← List.map_set (f := fun b => pB b) (a := true), metL_set hks]
        congr 1
        refine metL_ext fun s _ => ?_
        rw [inI_take hlt, hk]
        by_cases hs : s = k
        · subst hs; simp
        · have : ¬ ((k : Int) = (s : Int)) := by omega
          simp [hs, this]
      rw [← e]; rfl
    · have e : metL n (inI (l.take (i + 1))) = metL n (inI (l.take i)) := metL_ext fun s hs => by
        rw [inI_take hlt]
        have : ¬ (l[i] = (s : Int)) := by omega
        simp [this]
      rw [e]; rfl
  · have hie : i = l.length := by omega
    subst hie
    simp only [go_sem, Nat.reduceEqDiff, Nat.reduceBEq, Nat.reduceAdd, Nat.reduceMul, Nat.reduceSub, Nat.reduceLeDiff, Nat.reduceLT, reduceIte, reduceCtorEq, Int.reduceToNat, Int.reduceLE, Int.reduceLT, Int.reduceNeg, Bool.not_not, and_self, Bool.and_eq_false_iff, Int.cast_ofNat_Int, Int.reduceAdd, Int.reduceSub, Int.reduceMul, Int.reduceEq, Int.reduceNe, B18_0, R18_0, show ¬ (l.length : Int) < (l.length : Int) by omega, hsz', List.take_length]
    refine run_loop (T := Nat) (fun r => ⟨[(2, .ptr 2 0), (5, .row 14 0 n.size), (43, .pv (pI n.size)), (44, .pv (pI r))], [(2, .box (nBox n)), (14, .sl 1 ((metL n (if r = 0 then inI l else cl n.eps (inI l))).map fun b => pB b))]⟩) (fun r => r ≤ n.size) (fun r => n.size - r) 0 rfl (Nat.zero_le _) ?_
    intro r hr
    by_cases hrr : r < n.size
    · obtain ⟨F, hF⟩ : ∃ F, F = (if r = 0 then inI l else cl n.eps (inI l)) := ⟨_, rfl⟩
      have hFc : ∀ j, cl n.eps F j = cl n.eps (inI l) j := fun j => by
        rw [hF]; split
        · rfl
        · exact cl_idem j
      rw [← hF]
      simp only [go_sem, Nat.reduceEqDiff, Nat.reduceBEq, Nat.reduceAdd, Nat.reduceMul, Nat.reduceSub, Nat.reduceLeDiff, Nat.reduceLT, reduceIte, reduceCtorEq, Int.reduceToNat, Int.reduceLE, Int.reduceLT, Int.reduceNeg, Bool.not_not, and_self, Bool.and_eq_false_iff, Int.cast_ofNat_Int, Int.reduceAdd, Int.reduceSub, Int.reduceMul, Int.reduceEq, Int.reduceNe, B18_1, show (r : Int) < (n.size : Int) by omega]
      refine run_loop (T := Nat) (fun s => ⟨[(2, .ptr 2 0), (5, .row 14 0 n.size), (7, .pv (pI s)), (43, .pv (pI n.size)), (44, .pv (pI r))], [(2, .box (nBox n)), (14, .sl 1 ((metL n (passAt n F s)).map fun b => pB b))]⟩) (fun s => s ≤ n.size) (fun s => n.size - s) 0 ?_ (Nat.zero_le _) ?_
      · rw [metL_ext (f := passAt n F 0) (g := F) (fun s _ => passAt_zero n F s)]; rfl
      intro s hs
      by_cases hss : s < n.size
      · simp only [go_sem, Nat.reduceEqDiff, Nat.reduceBEq, Nat.reduceAdd, Nat.reduceMul, Nat.reduceSub, Nat.reduceLeDiff, Nat.reduceLT, reduceIte, reduceCtorEq, Int.reduceToNat, Int.reduceLE, Int.reduceLT, Int.reduceNeg, Bool.not_not, and_self, Bool.and_eq_false_iff, Int.cast_ofNat_Int, Int.reduceAdd, Int.reduceSub, Int.reduceMul, Int.reduceEq, Int.reduceNe, B18_2, show (s : Int) < (n.size : Int) by omega]
        obtain ⟨W, hW⟩ : ∃ W, W = n.ways.getD s [] := ⟨_, rfl⟩
        have hsw : s < n.ways.length := hss
        have hWg : n.ways[s] = W := by rw [hW]; simp [List.getD_eq_getElem?_getD, hsw]
        have hWl : W.length ≤ 1000 := by rw [hW]; exact hwl s
        have hPs : passAt n F s s = cl n.eps F s := passAt_end (Nat.le_refl _)
        have hep : n.eps s = aK W W.length := by unfold NF.eps aK; rw [List.take_length, hW]
        have hnx : ∀ k, (k = W.length ∨ passAt n F s s = false) → metL n (edgeF (passAt n F s) s (aK W k)) = metL n (passAt n F (s + 1)) := fun k hk => metL_ext fun j _ => by
          rw [passAt_next]
          unfold edgeF
          split
          · rename_i hj
            rw [← hPs]
            rcases hk with rfl | hk
            · rw [hep]
            · rw [hk]; simp
          · rfl
        generalize passAt n F s = P at hPs hnx ⊢
        refine run_loop (T := Nat) (fun k => ⟨[(2, .ptr 2 0), (5, .row 14 0 n.size), (7, .pv (pI s)), (8, .pv (pI k)), (43, .pv (pI n.size)), (44, .pv (pI r))], [(2, .box (nBox n)), (14, .sl 1 ((metL n (edgeF P s (aK W k))).map fun b => pB b))]⟩) (fun k => k ≤ W.length) (fun k => W.length - k) 0 ?_ (Nat.zero_le _) ?_
        · rw [metL_ext (f := edgeF P s (aK W 0)) (g := P) (fun j _ => by simp [aK, edgeF_false])]; rfl
        intro k hk
        have hget : ∀ (h : s < (metL n (edgeF P s (aK W k))).length), (metL n (edgeF P s (aK W k)))[s] = P s := fun h => by
          rw [metL_get]; unfold edgeF; rw [if_neg (by omega)]
        cases hps : P s with
        | false =>
          rw [hps] at hget
          simp only [go_sem, Nat.reduceEqDiff, Nat.reduceBEq, Nat.reduceAdd, Nat.reduceMul, Nat.reduceSub, Nat.reduceLeDiff, Nat.reduceLT, reduceIte, reduceCtorEq, Int.reduceToNat, Int.reduceLE, Int.reduceLT, Int.reduceNeg, Bool.not_not, and_self, Bool.and_eq_false_iff, Int.cast_ofNat_Int, Int.reduceAdd, Int.reduceSub, Int.reduceMul, Int.reduceEq, Int.reduceNe, B18_3, show (s : Int) < (n.size : Int) by omega, metL_len, getD_map (show s < (metL n (edgeF P s (aK W k))).length by rw [metL_len]; exact hss), hget]
          exact ⟨hss, ⟨by omega, by omega⟩, s + 1, by rw [hnx k (.inr hps)]; rfl, hss, by omega⟩
        | true =>
          rw [hps] at hget
          by_cases hkk : k < W.length
          · by_cases he : W[k].1 = -1
            · have hto := hg.to s hss W[k] (by rw [← hW]; exact List.getElem_mem hkk) he
              simp only [go_sem, Nat.reduceEqDiff, Nat.reduceBEq, Nat.reduceAdd, Nat.reduceMul, Nat.reduceSub, Nat.reduceLeDiff, Nat.reduceLT, reduceIte, reduceCtorEq, Int.reduceToNat, Int.reduceLE, Int.reduceLT, Int.reduceNeg, Bool.not_not, and_self, Bool.and_eq_false_iff, Int.cast_ofNat_Int, Int.reduceAdd, Int.reduceSub, Int.reduceMul, Int.reduceEq, Int.reduceNe, B18_3, show (s : Int) < (n.size : Int) by omega, show (s : Int) < (n.ways.length : Int) by omega, metL_len, getD_map (show s < (metL n (edgeF P s (aK W k))).length by rw [metL_len]; exact hss), hget, wf_pWs, getD_map hsw, hWg, show (k : Int) < (W.length : Int) by omega, wf_pE, getD_map hkk, he, hto.1, getD_map (show s + 1 < (metL n (edgeF P s (aK W k))).length by rw [metL_len]; exact hto.2)]
              refine ⟨hss, by omega, hto.2, ⟨by omega, by omega⟩, k + 1, ?_, hkk, by omega⟩
              have e : ((metL n (edgeF P s (aK W k))).map fun b => pB b).set (s + 1) (pB true) = (metL n (edgeF P s (aK W (k + 1)))).map fun b => pB b := by
                rw [← List.map_set (f := fun b => pB b) (a := true), metL_set hto.2]
                congr 1
                refine metL_ext fun j _ => ?_
                rw [aK_succ hkk, he]
                unfold edgeF
                by_cases hj : j = s + 1
                · simp [hj, hps]
                · simp [hj]
              rw [← e]; rfl
            · simp only [go_sem, Nat.reduceEqDiff, Nat.reduceBEq, Nat.reduceAdd, Nat.reduceMul, Nat.reduceSub, Nat.reduceLeDiff, Nat.reduceLT, reduceIte, reduceCtorEq, Int.reduceToNat, Int.reduceLE, Int.reduceLT, Int.reduceNeg, Bool.not_not, and_self, Bool.and_eq_false_iff, Int.cast_ofNat_Int, Int.reduceAdd, Int.reduceSub, Int.reduceMul, Int.reduceEq, Int.reduceNe, B18_3, show (s : Int) < (n.size : Int) by omega, show (s : Int) < (n.ways.length : Int) by omega, metL_len, getD_map (show s < (metL n (edgeF P s (aK W k))).length by rw [metL_len]; exact hss), hget, wf_pWs, getD_map hsw, hWg, show (k : Int) < (W.length : Int) by omega, wf_pE, getD_map hkk, he]
              have e : aK W (k + 1) = aK W k := by rw [aK_succ hkk]; simp [he]
              exact ⟨hss, ⟨by omega, by omega⟩, k + 1, by rw [e]; rfl, hkk, by omega⟩
          · simp only [go_sem, Nat.reduceEqDiff, Nat.reduceBEq, Nat.reduceAdd, Nat.reduceMul, Nat.reduceSub, Nat.reduceLeDiff, Nat.reduceLT, reduceIte, reduceCtorEq, Int.reduceToNat, Int.reduceLE, Int.reduceLT, Int.reduceNeg, Bool.not_not, and_self, Bool.and_eq_false_iff, Int.cast_ofNat_Int, Int.reduceAdd, Int.reduceSub, Int.reduceMul, Int.reduceEq, Int.reduceNe, B18_3, show (s : Int) < (n.size : Int) by omega, show (s : Int) < (n.ways.length : Int) by omega, metL_len, getD_map (show s < (metL n (edgeF P s (aK W k))).length by rw [metL_len]; exact hss), hget, wf_pWs, getD_map hsw, hWg, show ¬ (k : Int) < (W.length : Int) by omega]
            exact ⟨hss, ⟨by omega, by omega⟩, s + 1, by rw [hnx k (.inl (by omega))]; rfl, hss, by omega⟩
      · have hse : s = n.size := by omega
        subst hse
        simp only [go_sem, Nat.reduceEqDiff, Nat.reduceBEq, Nat.reduceAdd, Nat.reduceMul, Nat.reduceSub, Nat.reduceLeDiff, Nat.reduceLT, reduceIte, reduceCtorEq, Int.reduceToNat, Int.reduceLE, Int.reduceLT, Int.reduceNeg, Bool.not_not, and_self, Bool.and_eq_false_iff, Int.cast_ofNat_Int, Int.reduceAdd, Int.reduceSub, Int.reduceMul, Int.reduceEq, Int.reduceNe, B18_2, show ¬ (n.size : Int) < (n.size : Int) by omega]
        refine ⟨⟨by omega, by omega⟩, r + 1, ?_, hrr, by omega⟩
        rw [if_neg (show ¬ r + 1 = 0 by omega), metL_ext (f := passAt n F n.size) (g := cl n.eps (inI l)) (fun s hs => by rw [passAt_end (by omega), hFc])]; rfl
    · have hre : r = n.size := by omega
      subst hre
      have hfin : metL n (if n.size = 0 then inI l else cl n.eps (inI l)) = metL n (cl n.eps (inI l)) := metL_ext fun s hs => by rw [if_neg (by omega)]
      rw [hfin]
      simp only [go_sem, Nat.reduceEqDiff, Nat.reduceBEq, Nat.reduceAdd, Nat.reduceMul, Nat.reduceSub, Nat.reduceLeDiff, Nat.reduceLT, reduceIte, reduceCtorEq, Int.reduceToNat, Int.reduceLE, Int.reduceLT, Int.reduceNeg, Bool.not_not, and_self, Bool.and_eq_false_iff, Int.cast_ofNat_Int, Int.reduceAdd, Int.reduceSub, Int.reduceMul, Int.reduceEq, Int.reduceNe, B18_1, R18_1, show ¬ (n.size : Int) < (n.size : Int) by omega]
      have hcl : (List.range n.size).filter (cl n.eps (inI l)) = closeN n l := rfl
      refine run_loop (T := Nat) (fun i => ⟨[(5, .row 14 0 n.size), (9, .row 2009 0 (outK n (cl n.eps (inI l)) i).length), (10, .pv (pI i))], [(14, .sl 1 ((metL n (cl n.eps (inI l))).map fun b => pB b)), (2009, .sl 1 ((toI (outK n (cl n.eps (inI l)) i)).map fun n => pI n))]⟩) (fun i => i ≤ n.size) (fun i => n.size - i) 0 rfl (Nat.zero_le _) ?_
      intro i hi
      have hol := outK_len n (cl n.eps (inI l)) i
      have hos := outK_succ n (cl n.eps (inI l)) i
      have tk : ((toI (outK n (cl n.eps (inI l)) i)).map fun n => pI n).take (outK n (cl n.eps (inI l)) i).length = (toI (outK n (cl n.eps (inI l)) i)).map fun n => pI n := List.take_of_length_le (by simp [toI])
      by_cases hin : i < n.size
      · simp only [go_sem, Nat.reduceEqDiff, Nat.reduceBEq, Nat.reduceAdd, Nat.reduceMul, Nat.reduceSub, Nat.reduceLeDiff, Nat.reduceLT, reduceIte, reduceCtorEq, Int.reduceToNat, Int.reduceLE, Int.reduceLT, Int.reduceNeg, Bool.not_not, and_self, Bool.and_eq_false_iff, Int.cast_ofNat_Int, Int.reduceAdd, Int.reduceSub, Int.reduceMul, Int.reduceEq, Int.reduceNe, B18_4, show (i : Int) < (n.size : Int) by omega, getD_map (show i < (metL n (cl n.eps (inI l))).length by rw [metL_len]; exact hin), metL_get, tk]
        refine ⟨by rw [metL_len]; exact hin, fun h => ⟨⟨wf_ints [(i : Int)], by omega, by omega⟩, ⟨by omega, by omega⟩, i + 1, ?_, hin, by omega⟩, fun h => ⟨⟨by omega, by omega⟩, i + 1, ?_, hin, by omega⟩⟩
        · rw [if_pos h] at hos
          rw [hos, toI_app, List.map_append, List.length_append]; rfl
        · rw [h] at hos
          simp only [Bool.false_eq_true, if_false, List.append_nil] at hos
          rw [hos]; rfl
      · have hie : i = n.size := by omega
        subst hie
        simp only [go_sem, Nat.reduceEqDiff, Nat.reduceBEq, Nat.reduceAdd, Nat.reduceMul, Nat.reduceSub, Nat.reduceLeDiff, Nat.reduceLT, reduceIte, reduceCtorEq, Int.reduceToNat, Int.reduceLE, Int.reduceLT, Int.reduceNeg, Bool.not_not, and_self, Bool.and_eq_false_iff, Int.cast_ofNat_Int, Int.reduceAdd, Int.reduceSub, Int.reduceMul, Int.reduceEq, Int.reduceNe, B18_4, R18_4, show ¬ (n.size : Int) < (n.size : Int) by omega, tk]
        rfl
end Go.Vc

namespace Go.Vc
open Go.Proofs
set_option linter.unusedSimpArgs false
set_option linter.unusedVariables false

/-! ## The document's 'Step' -/
theorem goK_out {n : NF} {l : List Int} {sign : Int} {i : Nat} (h : i < l.length) (ho : l[i] < 0 ∨ (n.size : Int) ≤ l[i]) : goK n l sign (i + 1) 0 = goK n l sign i 0 := by
  rw [← goK_end h]
  have : waysAt n (l.getD i 0) = [] := by
    rw [show l.getD i 0 = l[i] by simp [List.getD_eq_getElem?_getD, h]]
    unfold waysAt
    rw [if_neg (by omega)]
  rw [this]; rfl
theorem fn20 (n : NF) (l : List Int) (sign : Int) (hg : n.Good) (hsz : n.size ≤ 1000) (hwl : ∀ s, (n.ways.getD s []).length ≤ 200) (hl : l.length ≤ 200) : Fn Tryd.prog 20 [pNf n, ints l, pI sign] (.pv (pNs (stepN n l sign))) [] := by
  have hw := waysAt_len hwl
  have hsz' : n.ways.length = n.size := rfl
  refine Run20 [] (by simp) ?_
  unfold stepN
  by_cases h0 : sign < 0
  · rw [if_pos h0]
    simp only [go_sem, Nat.reduceEqDiff, Nat.reduceBEq, Nat.reduceAdd, Nat.reduceMul, Nat.reduceSub, Nat.reduceLeDiff, Nat.reduceLT, reduceIte, reduceCtorEq, Int.reduceToNat, Int.reduceLE, Int.reduceLT, Int.reduceNeg, Bool.not_not, and_self, Bool.and_eq_false_iff, Int.cast_ofNat_Int, Int.reduceAdd, Int.reduceSub, Int.reduceMul, Int.reduceEq, Int.reduceNe, M20]
    refine run_loopG (T := Nat) (fun i => if i = l.length then [(2007, 2007, 0)] else []) [1, 2, 3, 7, 8] [3, 2007]
      (fun i => if i = l.length then ⟨[(1, .pv (ints l)), (2, .pv (pI sign)), (3, .ptr 3 0), (7, .pv (ints [])), (8, .pv (pI i))], [(3, .box (nBox n))]⟩
        else ⟨[(1, .pv (ints l)), (2, .pv (pI sign)), (3, .ptr 3 0), (7, .row 2007 0 0), (8, .pv (pI i))], [(3, .box (nBox n)), (2007, .sl 1 [])]⟩) (fun i => i ≤ l.length) (fun i => l.length - i) 0 ?_ (Nat.zero_le _) ?_
    · by_cases h9 : 0 = l.length
      · simp only [go_sem, Nat.reduceEqDiff, Nat.reduceBEq, Nat.reduceAdd, Nat.reduceMul, Nat.reduceSub, Nat.reduceLeDiff, Nat.reduceLT, reduceIte, reduceCtorEq, Int.reduceToNat, Int.reduceLE, Int.reduceLT, Int.reduceNeg, Bool.not_not, and_self, Bool.and_eq_false_iff, Int.cast_ofNat_Int, Int.reduceAdd, Int.reduceSub, Int.reduceMul, Int.reduceEq, Int.reduceNe, h9]
        rw [← h9]; rfl
      · simp only [go_sem, Nat.reduceEqDiff, Nat.reduceBEq, Nat.reduceAdd, Nat.reduceMul, Nat.reduceSub, Nat.reduceLeDiff, Nat.reduceLT, reduceIte, reduceCtorEq, Int.reduceToNat, Int.reduceLE, Int.reduceLT, Int.reduceNeg, Bool.not_not, and_self, Bool.and_eq_false_iff, Int.cast_ofNat_Int, Int.reduceAdd, Int.reduceSub, Int.reduceMul, Int.reduceEq, Int.reduceNe, h9]
    intro i hi
    by_cases hlt : i < l.length
    · rw [if_neg (show ¬ i = l.length by omega)]
      simp only [go_sem, Nat.reduceEqDiff, Nat.reduceBEq, Nat.reduceAdd, Nat.reduceMul, Nat.reduceSub, Nat.reduceLeDiff, Nat.reduceLT, reduceIte, reduceCtorEq, Int.reduceToNat, Int.reduceLE, Int.reduceLT, Int.reduceNeg, Bool.not_not, and_self, Bool.and_eq_false_iff, Int.cast_ofNat_Int, Int.reduceAdd, Int.reduceSub, Int.reduceMul, Int.reduceEq, Int.reduceNe, B20_0, show (i : Int) < (l.length : Int) by omega, wf_ints, getD_map hlt, h0]
      refine ⟨⟨by omega, by omega⟩, i + 1, ?_, hlt, by omega⟩
      have hsi : (i : Int) + 1 = ((i + 1 : Nat) : Int) := by omega
      unfold GH
      by_cases h9 : i + 1 = l.length
      · simp only [go_sem, Nat.reduceEqDiff, Nat.reduceBEq, Nat.reduceAdd, Nat.reduceMul, Nat.reduceSub, Nat.reduceLeDiff, Nat.reduceLT, reduceIte, reduceCtorEq, Int.reduceToNat, Int.reduceLE, Int.reduceLT, Int.reduceNeg, Bool.not_not, and_self, Bool.and_eq_false_iff, Int.cast_ofNat_Int, Int.reduceAdd, Int.reduceSub, Int.reduceMul, Int.reduceEq, Int.reduceNe, h9]
        rw [h9] at hsi
        rw [hsi]; rfl
      · simp only [go_sem, Nat.reduceEqDiff, Nat.reduceBEq, Nat.reduceAdd, Nat.reduceMul, Nat.reduceSub, Nat.reduceLeDiff, Nat.reduceLT, reduceIte, reduceCtorEq, Int.reduceToNat, Int.reduceLE, Int.reduceLT, Int.reduceNeg, Bool.not_not, and_self, Bool.and_eq_false_iff, Int.cast_ofNat_Int, Int.reduceAdd, Int.reduceSub, Int.reduceMul, Int.reduceEq, Int.reduceNe, h9]
        rw [hsi]
    · have hie : i = l.length := by omega
      subst hie
      rw [if_pos rfl]
      simp only [go_sem, Nat.reduceEqDiff, Nat.reduceBEq, Nat.reduceAdd, Nat.reduceMul, Nat.reduceSub, Nat.reduceLeDiff, Nat.reduceLT, reduceIte, reduceCtorEq, Int.reduceToNat, Int.reduceLE, Int.reduceLT, Int.reduceNeg, Bool.not_not, and_self, Bool.and_eq_false_iff, Int.cast_ofNat_Int, Int.reduceAdd, Int.reduceSub, Int.reduceMul, Int.reduceEq, Int.reduceNe, B20_0, R20_0, show ¬ (l.length : Int) < (l.length : Int) by omega]
      refine runR_call (by simp only [go_sem, Nat.reduceEqDiff, Nat.reduceBEq, Nat.reduceAdd, Nat.reduceMul, Nat.reduceSub, Nat.reduceLeDiff, Nat.reduceLT, reduceIte, reduceCtorEq, Int.reduceToNat, Int.reduceLE, Int.reduceLT, Int.reduceNeg, Bool.not_not, and_self, Bool.and_eq_false_iff, Int.cast_ofNat_Int, Int.reduceAdd, Int.reduceSub, Int.reduceMul, Int.reduceEq, Int.reduceNe]) rfl (fn18 n [] hg hsz (fun s => by have := hwl s; omega) (by simp)) (.inl rfl) trivial ?_
      simp only [go_sem, Nat.reduceEqDiff, Nat.reduceBEq, Nat.reduceAdd, Nat.reduceMul, Nat.reduceSub, Nat.reduceLeDiff, Nat.reduceLT, reduceIte, reduceCtorEq, Int.reduceToNat, Int.reduceLE, Int.reduceLT, Int.reduceNeg, Bool.not_not, and_self, Bool.and_eq_false_iff, Int.cast_ofNat_Int, Int.reduceAdd, Int.reduceSub, Int.reduceMul, Int.reduceEq, Int.reduceNe]
      rw [closeN_nil]
  rw [if_neg h0]
  simp only [go_sem, Nat.reduceEqDiff, Nat.reduceBEq, Nat.reduceAdd, Nat.reduceMul, Nat.reduceSub, Nat.reduceLeDiff, Nat.reduceLT, reduceIte, reduceCtorEq, Int.reduceToNat, Int.reduceLE, Int.reduceLT, Int.reduceNeg, Bool.not_not, and_self, Bool.and_eq_false_iff, Int.cast_ofNat_Int, Int.reduceAdd, Int.reduceSub, Int.reduceMul, Int.reduceEq, Int.reduceNe, M20]
  have key : ∀ i, List.take (goK n l sign i 0).length ((goK n l sign i 0).map fun n => pI n) = (goK n l sign i 0).map fun n => pI n := fun i => List.take_of_length_le (by simp)
  refine run_loopG (T := Nat) (fun i => if i = l.length then [(2007, 2007, 0)] else []) [1, 2, 3, 7, 8] [3, 2007]
    (fun i => if i = l.length then ⟨[(1, .pv (ints l)), (2, .pv (pI sign)), (3, .ptr 3 0), (7, .pv (ints (goK n l sign i 0))), (8, .pv (pI i))], [(3, .box (nBox n))]⟩
      else ⟨[(1, .pv (ints l)), (2, .pv (pI sign)), (3, .ptr 3 0), (7, .row 2007 0 (goK n l sign i 0).length), (8, .pv (pI i))], [(3, .box (nBox n)), (2007, .sl 1 ((goK n l sign i 0).map fun n => pI n))]⟩) (fun i => i ≤ l.length) (fun i => l.length - i) 0 ?_ (Nat.zero_le _) ?_
  · have hz : goK n l sign 0 0 = [] := by simp [goK_zero, goN]
    by_cases h9 : 0 = l.length
    · simp only [go_sem, Nat.reduceEqDiff, Nat.reduceBEq, Nat.reduceAdd, Nat.reduceMul, Nat.reduceSub, Nat.reduceLeDiff, Nat.reduceLT, reduceIte, reduceCtorEq, Int.reduceToNat, Int.reduceLE, Int.reduceLT, Int.reduceNeg, Bool.not_not, and_self, Bool.and_eq_false_iff, Int.cast_ofNat_Int, Int.reduceAdd, Int.reduceSub, Int.reduceMul, Int.reduceEq, Int.reduceNe, h9, hz]
      rw [← h9, hz]; rfl
    · simp only [go_sem, Nat.reduceEqDiff, Nat.reduceBEq, Nat.reduceAdd, Nat.reduceMul, Nat.reduceSub, Nat.reduceLeDiff, Nat.reduceLT, reduceIte, reduceCtorEq, Int.reduceToNat, Int.reduceLE, Int.reduceLT, Int.reduceNeg, Bool.not_not, and_self, Bool.and_eq_false_iff, Int.cast_ofNat_Int, Int.reduceAdd, Int.reduceSub, Int.reduceMul, Int.reduceEq, Int.reduceNe, h9, hz]
  intro i hi
  by_cases hlt : i < l.length
  · rw [if_neg (show ¬ i = l.length by omega)]
    have hsi : (i : Int) + 1 = ((i + 1 : Nat) : Int) := by omega
    have hky := key (i + 1)
    by_cases ho : l[i] < 0 ∨ (n.size : Int) ≤ l[i]
    · have hoo := goK_out (sign := sign) hlt ho
      have ho2 : (l[i] < 0 ∨ (n.ways.length : Int) ≤ l[i]) = True := by simp only [hsz']; simp [ho]
      by_cases hn : l[i] < 0
      · simp only [go_sem, Nat.reduceEqDiff, Nat.reduceBEq, Nat.reduceAdd, Nat.reduceMul, Nat.reduceSub, Nat.reduceLeDiff, Nat.reduceLT, reduceIte, reduceCtorEq, Int.reduceToNat, Int.reduceLE, Int.reduceLT, Int.reduceNeg, Bool.not_not, and_self, Bool.and_eq_false_iff, Int.cast_ofNat_Int, Int.reduceAdd, Int.reduceSub, Int.reduceMul, Int.reduceEq, Int.reduceNe, B20_0, show (i : Int) < (l.length : Int) by omega, wf_ints, getD_map hlt, h0, hn]
        refine ⟨⟨by omega, by omega⟩, i + 1, ?_, hlt, by omega⟩
        rw [← hoo]
        unfold GH
        by_cases h9 : i + 1 = l.length
        · simp only [go_sem, Nat.reduceEqDiff, Nat.reduceBEq, Nat.reduceAdd, Nat.reduceMul, Nat.reduceSub, Nat.reduceLeDiff, Nat.reduceLT, reduceIte, reduceCtorEq, Int.reduceToNat, Int.reduceLE, Int.reduceLT, Int.reduceNeg, Bool.not_not, and_self, Bool.and_eq_false_iff, Int.cast_ofNat_Int, Int.reduceAdd, Int.reduceSub, Int.reduceMul, Int.reduceEq, Int.reduceNe, h9]
          rw [h9] at hky hsi
          rw [hky, hsi]
        · simp only [go_sem, Nat.reduceEqDiff, Nat.reduceBEq, Nat.reduceAdd, Nat.reduceMul, Nat.reduceSub, Nat.reduceLeDiff, Nat.reduceLT, reduceIte, reduceCtorEq, Int.reduceToNat, Int.reduceLE, Int.reduceLT, Int.reduceNeg, Bool.not_not, and_self, Bool.and_eq_false_iff, Int.cast_ofNat_Int, Int.reduceAdd, Int.reduceSub, Int.reduceMul, Int.reduceEq, Int.reduceNe, h9]
          rw [hsi]
      · have hn2 : (n.ways.length : Int) ≤ l[i] := ho.resolve_left hn
        simp only [go_sem, Nat.reduceEqDiff, Nat.reduceBEq, Nat.reduceAdd, Nat.reduceMul, Nat.reduceSub, Nat.reduceLeDiff, Nat.reduceLT, reduceIte, reduceCtorEq, Int.reduceToNat, Int.reduceLE, Int.reduceLT, Int.reduceNeg, Bool.not_not, and_self, Bool.and_eq_false_iff, Int.cast_ofNat_Int, Int.reduceAdd, Int.reduceSub, Int.reduceMul, Int.reduceEq, Int.reduceNe, B20_0, show (i : Int) < (l.length : Int) by omega, wf_ints, getD_map hlt, h0, hn, hn2]
        refine ⟨⟨by omega, by omega⟩, i + 1, ?_, hlt, by omega⟩
        rw [← hoo]
        unfold GH
        by_cases h9 : i + 1 = l.length
        · simp only [go_sem, Nat.reduceEqDiff, Nat.reduceBEq, Nat.reduceAdd, Nat.reduceMul, Nat.reduceSub, Nat.reduceLeDiff, Nat.reduceLT, reduceIte, reduceCtorEq, Int.reduceToNat, Int.reduceLE, Int.reduceLT, Int.reduceNeg, Bool.not_not, and_self, Bool.and_eq_false_iff, Int.cast_ofNat_Int, Int.reduceAdd, Int.reduceSub, Int.reduceMul, Int.reduceEq, Int.reduceNe, h9]
          rw [h9] at hky hsi
          rw [hky, hsi]
        · simp only [go_sem, Nat.reduceEqDiff, Nat.reduceBEq, Nat.reduceAdd, Nat.reduceMul, Nat.reduceSub, Nat.reduceLeDiff, Nat.reduceLT, reduceIte, reduceCtorEq, Int.reduceToNat, Int.reduceLE, Int.reduceLT, Int.reduceNeg, Bool.not_not, and_self, Bool.and_eq_false_iff, Int.cast_ofNat_Int, Int.reduceAdd, Int.reduceSub, Int.reduceMul, Int.reduceEq, Int.reduceNe, h9]
          rw [hsi]
    · obtain ⟨x, hx⟩ : ∃ x : Nat, l[i] = x := ⟨l[i].toNat, by omega⟩
      have hxs : x < n.ways.length := by unfold NF.size at ho; omega
      obtain ⟨W, hW⟩ : ∃ W, W = n.ways.getD x [] := ⟨_, rfl⟩
      have hWg : n.ways[x] = W := by rw [hW]; simp [List.getD_eq_getElem?_getD, hxs]
      have hli : l.getD i 0 = l[i] := by simp [List.getD_eq_getElem?_getD, hlt]
      have hwa : waysAt n (l.getD i 0) = W := by
        rw [hli, hx]; unfold waysAt NF.size; rw [if_pos (by omega), hW]; simp
      have hWl : W.length ≤ 200 := by rw [hW]; exact hwl x
      have hend := goK_end (n := n) (sign := sign) hlt
      rw [hwa] at hend
      have hgk : ∀ k, goK n l sign i k = goN n (l.take i) sign ++ goF sign (W.take k) := fun k => by unfold goK; rw [hwa]
      simp only [go_sem, Nat.reduceEqDiff, Nat.reduceBEq, Nat.reduceAdd, Nat.reduceMul, Nat.reduceSub, Nat.reduceLeDiff, Nat.reduceLT, reduceIte, reduceCtorEq, Int.reduceToNat, Int.reduceLE, Int.reduceLT, Int.reduceNeg, Bool.not_not, and_self, Bool.and_eq_false_iff, Int.cast_ofNat_Int, Int.reduceAdd, Int.reduceSub, Int.reduceMul, Int.reduceEq, Int.reduceNe, B20_0, show (i : Int) < (l.length : Int) by omega, wf_ints, getD_map hlt, h0, hx, show ¬ (x : Int) < 0 by omega, show ¬ (n.ways.length : Int) ≤ (x : Int) by omega]
      refine run_loop (T := Nat) (fun k => ⟨[(1, .pv (ints l)), (2, .pv (pI sign)), (3, .ptr 3 0), (7, .row 2007 0 (goK n l sign i k).length), (8, .pv (pI i)), (9, .pv (pI k))],
        [(3, .box (nBox n)), (2007, .sl 1 ((goK n l sign i k).map fun n => pI n))]⟩) (fun k => k ≤ W.length) (fun k => W.length - k) 0 rfl (Nat.zero_le _) ?_
      intro k hk
      have hkl := goK_len (sign := sign) (k := k) hw hi
      have tk : ((goK n l sign i k).map fun n => pI n).take (goK n l sign i k).length = (goK n l sign i k).map fun n => pI n := List.take_of_length_le (by simp)
      by_cases hkk : k < W.length
      · have hsc : goK n l sign i (k + 1) = goK n l sign i k ++ (if W[k].1 = sign then [W[k].2] else []) := by rw [hgk, hgk, goF_succ hkk, List.append_assoc]
        by_cases he : W[k].1 = sign
        · rw [if_pos he] at hsc
          simp only [go_sem, Nat.reduceEqDiff, Nat.reduceBEq, Nat.reduceAdd, Nat.reduceMul, Nat.reduceSub, Nat.reduceLeDiff, Nat.reduceLT, reduceIte, reduceCtorEq, Int.reduceToNat, Int.reduceLE, Int.reduceLT, Int.reduceNeg, Bool.not_not, and_self, Bool.and_eq_false_iff, Int.cast_ofNat_Int, Int.reduceAdd, Int.reduceSub, Int.reduceMul, Int.reduceEq, Int.reduceNe, B20_1, show (k : Int) < (W.length : Int) by omega, show (i : Int) < (l.length : Int) by omega, show (x : Int) < (n.ways.length : Int) by omega, wf_ints, getD_map hlt, hx, wf_pWs, getD_map hxs, hWg, wf_pE, getD_map hkk, he, tk]
          exact ⟨⟨wf_ints [W[k].2], by omega, by omega⟩, ⟨by omega, by omega⟩, k + 1, by rw [hsc, List.map_append, List.length_append]; rfl, hkk, by omega⟩
        · rw [if_neg he, List.append_nil] at hsc
          simp only [go_sem, Nat.reduceEqDiff, Nat.reduceBEq, Nat.reduceAdd, Nat.reduceMul, Nat.reduceSub, Nat.reduceLeDiff, Nat.reduceLT, reduceIte, reduceCtorEq, Int.reduceToNat, Int.reduceLE, Int.reduceLT, Int.reduceNeg, Bool.not_not, and_self, Bool.and_eq_false_iff, Int.cast_ofNat_Int, Int.reduceAdd, Int.reduceSub, Int.reduceMul, Int.reduceEq, Int.reduceNe, B20_1, show (k : Int) < (W.length : Int) by omega, show (i : Int) < (l.length : Int) by omega, show (x : Int) < (n.ways.length : Int) by omega, wf_ints, getD_map hlt, hx, wf_pWs, getD_map hxs, hWg, wf_pE, getD_map hkk, he, tk]
          exact ⟨⟨by omega, by omega⟩, k + 1, by rw [hsc]; rfl, hkk, by omega⟩
      · have hke : k = W.length := by omega
        subst hke
        simp only [go_sem, Nat.reduceEqDiff, Nat.reduceBEq, Nat.reduceAdd, Nat.reduceMul, Nat.reduceSub, Nat.reduceLeDiff, Nat.reduceLT, reduceIte, reduceCtorEq, Int.reduceToNat, Int.reduceLE, Int.reduceLT, Int.reduceNeg, Bool.not_not, and_self, Bool.and_eq_false_iff, Int.cast_ofNat_Int, Int.reduceAdd, Int.reduceSub, Int.reduceMul, Int.reduceEq, Int.reduceNe, B20_1, show ¬ (W.length : Int) < (W.length : Int) by omega, show (i : Int) < (l.length : Int) by omega, show (x : Int) < (n.ways.length : Int) by omega, wf_ints, getD_map hlt, hx, wf_pWs, getD_map hxs, hWg]
        rw [hend]
        refine ⟨⟨by omega, by omega⟩, i + 1, ?_, hlt, by omega⟩
        unfold GH
        by_cases h9 : i + 1 = l.length
        · simp only [go_sem, Nat.reduceEqDiff, Nat.reduceBEq, Nat.reduceAdd, Nat.reduceMul, Nat.reduceSub, Nat.reduceLeDiff, Nat.reduceLT, reduceIte, reduceCtorEq, Int.reduceToNat, Int.reduceLE, Int.reduceLT, Int.reduceNeg, Bool.not_not, and_self, Bool.and_eq_false_iff, Int.cast_ofNat_Int, Int.reduceAdd, Int.reduceSub, Int.reduceMul, Int.reduceEq, Int.reduceNe, h9]
          rw [h9] at hky hsi
          rw [hky, hsi]
        · simp only [go_sem, Nat.reduceEqDiff, Nat.reduceBEq, Nat.reduceAdd, Nat.reduceMul, Nat.reduceSub, Nat.reduceLeDiff, Nat.reduceLT, reduceIte, reduceCtorEq, Int.reduceToNat, Int.reduceLE, Int.reduceLT, Int.reduceNeg, Bool.not_not, and_self, Bool.and_eq_false_iff, Int.cast_ofNat_Int, Int.reduceAdd, Int.reduceSub, Int.reduceMul, Int.reduceEq, Int.reduceNe, h9]
          rw [hsi]
  · have hie : i = l.length := by omega
    subst hie
    rw [if_pos rfl]
    have hkl := goK_len (sign := sign) (k := 0) hw (Nat.le_refl l.length)
    simp only [go_sem, Nat.reduceEqDiff, Nat.reduceBEq, Nat.reduceAdd, Nat.reduceMul, Nat.reduceSub, Nat.reduceLeDiff, Nat.reduceLT, reduceIte, reduceCtorEq, Int.reduceToNat, Int.reduceLE, Int.reduceLT, Int.reduceNeg, Bool.not_not, and_self, Bool.and_eq_false_iff, Int.cast_ofNat_Int, Int.reduceAdd, Int.reduceSub, Int.reduceMul, Int.reduceEq, Int.reduceNe, B20_0, R20_0, show ¬ (l.length : Int) < (l.length : Int) by omega]
    refine runR_call (by simp only [go_sem, Nat.reduceEqDiff, Nat.reduceBEq, Nat.reduceAdd, Nat.reduceMul, Nat.reduceSub, Nat.reduceLeDiff, Nat.reduceLT, reduceIte, reduceCtorEq, Int.reduceToNat, Int.reduceLE, Int.reduceLT, Int.reduceNeg, Bool.not_not, and_self, Bool.and_eq_false_iff, Int.cast_ofNat_Int, Int.reduceAdd, Int.reduceSub, Int.reduceMul, Int.reduceEq, Int.reduceNe]) rfl (fn18 n (goK n l sign l.length 0) hg hsz (fun s => by have := hwl s; omega) (by omega)) (.inl rfl) trivial ?_
    simp only [go_sem, Nat.reduceEqDiff, Nat.reduceBEq, Nat.reduceAdd, Nat.reduceMul, Nat.reduceSub, Nat.reduceLeDiff, Nat.reduceLT, reduceIte, reduceCtorEq, Int.reduceToNat, Int.reduceLE, Int.reduceLT, Int.reduceNeg, Bool.not_not, and_self, Bool.and_eq_false_iff, Int.cast_ofNat_Int, Int.reduceAdd, Int.reduceSub, Int.reduceMul, Int.reduceEq, Int.reduceNe]
    rw [goK_zero, List.take_length]
end Go.Vc

namespace Go.Vc
open Go.Proofs
set_option linter.unusedSimpArgs false
set_option linter.unusedVariables false

/-! ## 'Run' -/
def addU (met : List Nat) (k : Nat) : List Nat := if k ∈ met then met else met ++ [k]
theorem addU_mem {met : List Nat} {k y : Nat} : y ∈ addU met k ↔ y ∈ met ∨ y = k := by
  unfold addU
  split
  · rename_i h
    constructor
    · exact .inl
    · rintro (h1 | rfl); exact h1; exact h
  · simp
theorem addU_nodup {met : List Nat} {k : Nat} (h : met.Nodup) : (addU met k).Nodup := by
  unfold addU
  split
  · exact h
  · rename_i h2; exact nodup_snoc h h2
theorem addU_len (met : List Nat) (k : Nat) : (addU met k).length ≤ met.length + 1 := by unfold addU; split <;> simp
theorem mput_old (k : Nat) : ∀ {met : List Nat}, k ∈ met → mput (pI (k : Int)) (.agg []) (met.map enN) = met.map enN
  | [], h => by cases h
  | m :: met, h => by
    by_cases h1 : k = m
    · subst h1; simp [mput, keyEq]
    · have h2 : ¬ ((k : Int) = (m : Int)) := by omega
      simp only [List.map_cons, mput, keyEq, h2, decide_false, Bool.false_eq_true, if_false, List.cons.injEq, true_and]
      exact mput_old k ((List.mem_cons.1 h).resolve_left h1)
theorem mput_U (k : Nat) (met : List Nat) : mput (pI (k : Int)) (.agg []) (met.map enN) = (addU met k).map enN := by
  unfold addU
  split
  · rename_i h; exact mput_old k h
  · rename_i h; exact mput_N k h
def resN (gs : List (List ByteArray)) (t : List ByteArray) : List Nat := (List.range gs.length).filter fun i => matchL (gs.getD i []) t
theorem resN_mem {gs : List (List ByteArray)} {t : List ByteArray} {g : Nat} : g ∈ resN gs t ↔ ∃ s, s ∈ walkN (nfaOf gs) t ∧ g ∈ (nfaOf gs).done.getD s [] := by
  have hd : (nfaOf gs).done = doneG 0 gs := rfl
  unfold resN
  rw [List.mem_filter, List.mem_range, hd]
  constructor
  · rintro ⟨hg, hm⟩
    have hgg : gs.getD g [] = gs[g] := by simp [List.getD_eq_getElem?_getD, hg]
    rw [hgg, matchL_iff] at hm
    refine ⟨base gs g + gs[g].length, (walk_at t _).2 ⟨g, hg, gs[g].length, Nat.le_refl _, rfl, Sk_end.2 hm⟩, ?_⟩
    rw [doneG_at gs 0 g _ hg (Nat.le_refl _), if_pos rfl]; simp
  · rintro ⟨s, hs, hgs⟩
    obtain ⟨i, hi, k, hk, rfl, hS⟩ := (walk_at t s).1 hs
    rw [doneG_at gs 0 i k hi hk] at hgs
    split at hgs
    · rename_i hke
      subst hke
      simp only [Nat.zero_add, List.mem_singleton] at hgs
      subst hgs
      refine ⟨hi, ?_⟩
      rw [show gs.getD g [] = gs[g] by simp [List.getD_eq_getElem?_getD, hi], matchL_iff]
      exact Sk_end.1 hS
    · cases hgs
theorem resN_ris (gs : List (List ByteArray)) (t : List ByteArray) : (resN gs t).Pairwise (· < ·) := range_filter_ris _ _
theorem walkN_lt {gs : List (List ByteArray)} {t : List ByteArray} {s : Nat} (h : s ∈ walkN (nfaOf gs) t) : s < (nfaOf gs).size := by
  obtain ⟨i, hi, k, hk, rfl, _⟩ := (walk_at t s).1 h
  exact in_size hi hk
theorem closeN_len (n : NF) (l : List Int) : (closeN n l).length ≤ n.size := by
  have := List.length_filter_le (cl n.eps (inI l)) (List.range n.size)
  simpa [closeN] using this
theorem stepN_len (n : NF) (l : List Int) (x : Int) : (stepN n l x).length ≤ n.size := by
  unfold stepN
  split
  · simp
  · exact closeN_len _ _
theorem walkN_len (n : NF) (t : List ByteArray) : (walkN n t).length ≤ n.size := by
  rcases List.eq_nil_or_concat t with rfl | ⟨u, q, rfl⟩
  · exact closeN_len _ _
  · rw [List.concat_eq_append, walkN_snoc]; exact stepN_len _ _ _
theorem fn21 (gs : List (List ByteArray)) (t : ByteArray) (hgo : GsOk gs) (ht : t.size ≤ 1000) : Fn Tryd.prog 21 [pNf (nfaOf gs), pS t] (.pv (pNs (if topicB t = true then resN gs (partsB t) else []))) [] := by
  refine Run21 [] (by simp) ?_
  simp only [go_sem, Nat.reduceEqDiff, Nat.reduceBEq, Nat.reduceAdd, Nat.reduceMul, Nat.reduceSub, Nat.reduceLeDiff, Nat.reduceLT, reduceIte, reduceCtorEq, Int.reduceToNat, Int.reduceLE, Int.reduceLT, Int.reduceNeg, Bool.not_not, and_self, Bool.and_eq_false_iff, Int.cast_ofNat_Int, Int.reduceAdd, Int.reduceSub, Int.reduceMul, Int.reduceEq, Int.reduceNe, M21]
  refine runR_callf (by simp only [go_sem, Nat.reduceEqDiff, Nat.reduceBEq, Nat.reduceAdd, Nat.reduceMul, Nat.reduceSub, Nat.reduceLeDiff, Nat.reduceLT, reduceIte, reduceCtorEq, Int.reduceToNat, Int.reduceLE, Int.reduceLT, Int.reduceNeg, Bool.not_not, and_self, Bool.and_eq_false_iff, Int.cast_ofNat_Int, Int.reduceAdd, Int.reduceSub, Int.reduceMul, Int.reduceEq, Int.reduceNe]) (by simp only [go_sem, Nat.reduceEqDiff, Nat.reduceBEq, Nat.reduceAdd, Nat.reduceMul, Nat.reduceSub, Nat.reduceLeDiff, Nat.reduceLT, reduceIte, reduceCtorEq, Int.reduceToNat, Int.reduceLE, Int.reduceLT, Int.reduceNeg, Bool.not_not, and_self, Bool.and_eq_false_iff, Int.cast_ofNat_Int, Int.reduceAdd, Int.reduceSub, Int.reduceMul, Int.reduceEq, Int.reduceNe] <;> rfl) (fn36 t) ⟨rfl, trivial⟩ trivial ?_
  simp only [go_sem, Nat.reduceEqDiff, Nat.reduceBEq, Nat.reduceAdd, Nat.reduceMul, Nat.reduceSub, Nat.reduceLeDiff, Nat.reduceLT, reduceIte, reduceCtorEq, Int.reduceToNat, Int.reduceLE, Int.reduceLT, Int.reduceNeg, Bool.not_not, and_self, Bool.and_eq_false_iff, Int.cast_ofNat_Int, Int.reduceAdd, Int.reduceSub, Int.reduceMul, Int.reduceEq, Int.reduceNe]
  refine ⟨fun h => by rw [h]; rfl, fun htp => ?_⟩
  rw [htp]
  simp only [if_true]
  have hg := good_nfa gs
  have hsz := hgo.size
  have hwl : ∀ s, ((nfaOf gs).ways.getD s []).length ≤ 200 := fun s => by have := hgo.ways s; omega
  have hbl : (nfaOf gs).beg.length ≤ 20 := by have := hgo.n; simp [nfaOf]; omega
  have hdl : (nfaOf gs).done.length = (nfaOf gs).size := by rw [size_nfa]; exact doneG_len gs 0
  have hsg : (nfaOf gs).signs.length ≤ 160 := hgo.signs
  have hris : RisB (nfaOf gs).signs := signsOf_ris gs
  have hres : ∀ T : List ByteArray, ∀ g, g ∈ resN gs T ↔ ∃ s, s ∈ walkN (nfaOf gs) T ∧ g ∈ (nfaOf gs).done.getD s [] := fun T g => resN_mem
  have hwlt : ∀ T : List ByteArray, ∀ s, s ∈ walkN (nfaOf gs) T → s < (nfaOf gs).size := fun T s h => walkN_lt h
  have hrl : ∀ T, (resN gs T).length ≤ 20 := fun T => by
    have := List.length_filter_le (fun i => matchL (gs.getD i []) T) (List.range gs.length)
    have := hgo.n
    unfold resN; simp at *; omega
  have hdn : ∀ s, s < (nfaOf gs).size → ((nfaOf gs).done.getD s []).length ≤ 1 := fun s h => by
    rw [size_nfa] at h
    obtain ⟨i, hi, _, k, hk, rfl⟩ := base_split _ (Nat.le_refl _) s h
    have e := doneG_at gs 0 i k hi hk
    rw [show (nfaOf gs).done = doneG 0 gs from rfl, e]; split <;> simp
  refine runR_call (by simp only [go_sem, Nat.reduceEqDiff, Nat.reduceBEq, Nat.reduceAdd, Nat.reduceMul, Nat.reduceSub, Nat.reduceLeDiff, Nat.reduceLT, reduceIte, reduceCtorEq, Int.reduceToNat, Int.reduceLE, Int.reduceLT, Int.reduceNeg, Bool.not_not, and_self, Bool.and_eq_false_iff, Int.cast_ofNat_Int, Int.reduceAdd, Int.reduceSub, Int.reduceMul, Int.reduceEq, Int.reduceNe]) rfl (fn17 (nfaOf gs) (begI (nfaOf gs)) hg (by omega) (fun s => by have := hwl s; omega) (by simp [begI, toI]; omega)) (.inl rfl) trivial ?_
  simp only [go_sem, Nat.reduceEqDiff, Nat.reduceBEq, Nat.reduceAdd, Nat.reduceMul, Nat.reduceSub, Nat.reduceLeDiff, Nat.reduceLT, reduceIte, reduceCtorEq, Int.reduceToNat, Int.reduceLE, Int.reduceLT, Int.reduceNeg, Bool.not_not, and_self, Bool.and_eq_false_iff, Int.cast_ofNat_Int, Int.reduceAdd, Int.reduceSub, Int.reduceMul, Int.reduceEq, Int.reduceNe]
  refine runR_call (by simp only [go_sem, Nat.reduceEqDiff, Nat.reduceBEq, Nat.reduceAdd, Nat.reduceMul, Nat.reduceSub, Nat.reduceLeDiff, Nat.reduceLT, reduceIte, reduceCtorEq, Int.reduceToNat, Int.reduceLE, Int.reduceLT, Int.reduceNeg, Bool.not_not, and_self, Bool.and_eq_false_iff, Int.cast_ofNat_Int, Int.reduceAdd, Int.reduceSub, Int.reduceMul, Int.reduceEq, Int.reduceNe]) rfl (fn27 t ht) (.inl rfl) trivial ?_
  have hpl := partsB_len t
  generalize nfaOf gs = n at *
  generalize partsB t = T at *
  simp only [go_sem, Nat.reduceEqDiff, Nat.reduceBEq, Nat.reduceAdd, Nat.reduceMul, Nat.reduceSub, Nat.reduceLeDiff, Nat.reduceLT, reduceIte, reduceCtorEq, Int.reduceToNat, Int.reduceLE, Int.reduceLT, Int.reduceNeg, Bool.not_not, and_self, Bool.and_eq_false_iff, Int.cast_ofNat_Int, Int.reduceAdd, Int.reduceSub, Int.reduceMul, Int.reduceEq, Int.reduceNe]
  have hw0 : closeN n (begI n) = walkN n (T.take 0) := rfl
  rw [hw0]
  refine run_loopN (T := Nat) [2, 5, 21, 22, 23] [2] (fun k => ⟨[(2, .ptr 2 0), (5, .pv (pNs (walkN n (T.take k)))), (21, .pv (ss T)), (22, .pv (pI T.length)), (23, .pv (pI k))], [(2, .box (nBox n))]⟩) (fun k => k ≤ T.length) (fun k => T.length - k) 0 ?_ (Nat.zero_le _) ?_
  · simp only [go_sem, Nat.reduceEqDiff, Nat.reduceBEq, Nat.reduceAdd, Nat.reduceMul, Nat.reduceSub, Nat.reduceLeDiff, Nat.reduceLT, reduceIte, reduceCtorEq, Int.reduceToNat, Int.reduceLE, Int.reduceLT, Int.reduceNeg, Bool.not_not, and_self, Bool.and_eq_false_iff, Int.cast_ofNat_Int, Int.reduceAdd, Int.reduceSub, Int.reduceMul, Int.reduceEq, Int.reduceNe]
  intro k hk
  by_cases hkk : k < T.length
  · simp only [go_sem, Nat.reduceEqDiff, Nat.reduceBEq, Nat.reduceAdd, Nat.reduceMul, Nat.reduceSub, Nat.reduceLeDiff, Nat.reduceLT, reduceIte, reduceCtorEq, Int.reduceToNat, Int.reduceLE, Int.reduceLT, Int.reduceNeg, Bool.not_not, and_self, Bool.and_eq_false_iff, Int.cast_ofNat_Int, Int.reduceAdd, Int.reduceSub, Int.reduceMul, Int.reduceEq, Int.reduceNe, B21_0, show (k : Int) < (T.length : Int) by omega, wf_ss, getD_map hkk]
    refine runR_call (by simp only [go_sem, Nat.reduceEqDiff, Nat.reduceBEq, Nat.reduceAdd, Nat.reduceMul, Nat.reduceSub, Nat.reduceLeDiff, Nat.reduceLT, reduceIte, reduceCtorEq, Int.reduceToNat, Int.reduceLE, Int.reduceLT, Int.reduceNeg, Bool.not_not, and_self, Bool.and_eq_false_iff, Int.cast_ofNat_Int, Int.reduceAdd, Int.reduceSub, Int.reduceMul, Int.reduceEq, Int.reduceNe]) rfl (fn14 n.signs (.lst (n.ways.map pWs)) (.lst (n.done.map pNs)) (pNs n.beg) T[k] hris (by omega)) (.inl rfl) trivial ?_
    simp only [go_sem, Nat.reduceEqDiff, Nat.reduceBEq, Nat.reduceAdd, Nat.reduceMul, Nat.reduceSub, Nat.reduceLeDiff, Nat.reduceLT, reduceIte, reduceCtorEq, Int.reduceToNat, Int.reduceLE, Int.reduceLT, Int.reduceNeg, Bool.not_not, and_self, Bool.and_eq_false_iff, Int.cast_ofNat_Int, Int.reduceAdd, Int.reduceSub, Int.reduceMul, Int.reduceEq, Int.reduceNe]
    have hll := walkN_len n (T.take k)
    refine runR_call (by simp only [go_sem, Nat.reduceEqDiff, Nat.reduceBEq, Nat.reduceAdd, Nat.reduceMul, Nat.reduceSub, Nat.reduceLeDiff, Nat.reduceLT, reduceIte, reduceCtorEq, Int.reduceToNat, Int.reduceLE, Int.reduceLT, Int.reduceNeg, Bool.not_not, and_self, Bool.and_eq_false_iff, Int.cast_ofNat_Int, Int.reduceAdd, Int.reduceSub, Int.reduceMul, Int.reduceEq, Int.reduceNe]) rfl (fn19 n (toI (walkN n (T.take k))) (letterN n.signs T[k]) hg (by omega) hwl (by simp [toI]; omega)) (.inl rfl) trivial ?_
    simp only [go_sem, Nat.reduceEqDiff, Nat.reduceBEq, Nat.reduceAdd, Nat.reduceMul, Nat.reduceSub, Nat.reduceLeDiff, Nat.reduceLT, reduceIte, reduceCtorEq, Int.reduceToNat, Int.reduceLE, Int.reduceLT, Int.reduceNeg, Bool.not_not, and_self, Bool.and_eq_false_iff, Int.cast_ofNat_Int, Int.reduceAdd, Int.reduceSub, Int.reduceMul, Int.reduceEq, Int.reduceNe]
    refine ⟨⟨by omega, by omega⟩, k + 1, ?_, hkk, by omega⟩
    rw [List.take_succ_eq_append_getElem hkk, walkN_snoc]; rfl
  · have hke : k = T.length := by omega
    subst hke
    simp only [go_sem, Nat.reduceEqDiff, Nat.reduceBEq, Nat.reduceAdd, Nat.reduceMul, Nat.reduceSub, Nat.reduceLeDiff, Nat.reduceLT, reduceIte, reduceCtorEq, Int.reduceToNat, Int.reduceLE, Int.reduceLT, Int.reduceNeg, Bool.not_not, and_self, Bool.and_eq_false_iff, Int.cast_ofNat_Int, Int.reduceAdd, Int.reduceSub, Int.reduceMul, Int.reduceEq, Int.reduceNe, B21_0, R21_0, show ¬ (T.length : Int) < (T.length : Int) by omega, List.take_length]
    have hAl := walkN_len n T
    have hres := hres T
    have hwlt := hwlt T
    have hrr := resN_ris gs T
    have hrl := hrl T
    generalize walkN n T = A at hAl hres hwlt
    generalize resN gs T = Rs at hres hrr hrl ⊢
    rw [show (toI A).length = A.length by simp [toI]]
    refine run_loopN (T := Nat × List Nat) [2, 8, 35, 36, 37] [2, 34] (fun t => ⟨[(2, .ptr 2 0), (8, .mp 34), (35, .pv (pNs A)), (36, .pv (pI A.length)), (37, .pv (pI t.1))], [(2, .box (nBox n)), (34, .mp (t.2.map enN))]⟩)
      (fun t => t.1 ≤ A.length ∧ t.2.Nodup ∧ t.2.length ≤ t.1 ∧ ∀ g, g ∈ t.2 ↔ ∃ s, s ∈ A.take t.1 ∧ g ∈ n.done.getD s []) (fun t => A.length - t.1) (0, []) rfl ⟨Nat.zero_le _, by simp, by simp, by simp⟩ ?_
    rintro ⟨i, met⟩ ⟨hi, hnd, hml, hmem⟩
    simp only at hi hnd hml hmem
    by_cases hin : i < A.length
    · have hx := hwlt A[i] (List.getElem_mem hin)
      have hxd : A[i] < n.done.length := by omega
      obtain ⟨D, hD⟩ : ∃ D, D = n.done.getD A[i] [] := ⟨_, rfl⟩
      have hDl : D.length ≤ 1 := by rw [hD]; exact hdn _ hx
      have hDg : n.done[A[i]] = D := by rw [hD]; simp [List.getD_eq_getElem?_getD, hxd]
      have hiI : (toI A)[i]'(by simp [toI]; exact hin) = (A[i] : Int) := by simp [toI]
      simp only [go_sem, Nat.reduceEqDiff, Nat.reduceBEq, Nat.reduceAdd, Nat.reduceMul, Nat.reduceSub, Nat.reduceLeDiff, Nat.reduceLT, reduceIte, reduceCtorEq, Int.reduceToNat, Int.reduceLE, Int.reduceLT, Int.reduceNeg, Bool.not_not, and_self, Bool.and_eq_false_iff, Int.cast_ofNat_Int, Int.reduceAdd, Int.reduceSub, Int.reduceMul, Int.reduceEq, Int.reduceNe, B21_1, show (i : Int) < (A.length : Int) by omega, show (toI A).length = A.length by simp [toI], wf_ints, getD_map (show i < (toI A).length by simp [toI]; exact hin), hiI, show ¬ (n.done.length : Int) ≤ (A[i] : Int) by omega, getD_map hxd, wf_pNs, hDg, show (A[i] : Int) < (n.done.length : Int) by omega]
      refine run_loopN (T := Nat × List Nat) [2, 8, 35, 36, 37, 50, 51, 52] [2, 34] (fun t => ⟨[(2, .ptr 2 0), (8, .mp 34), (35, .pv (pNs A)), (36, .pv (pI A.length)), (37, .pv (pI i)), (50, .pv (pNs D)), (51, .pv (pI D.length)), (52, .pv (pI t.1))], [(2, .box (nBox n)), (34, .mp (t.2.map enN))]⟩)
        (fun t => t.1 ≤ D.length ∧ t.2.Nodup ∧ t.2.length ≤ i + t.1 ∧ ∀ g, g ∈ t.2 ↔ g ∈ met ∨ g ∈ D.take t.1) (fun t => D.length - t.1) (0, met) ?_ ⟨Nat.zero_le _, hnd, hml, by simp⟩ ?_
      · simp only [go_sem, Nat.reduceEqDiff, Nat.reduceBEq, Nat.reduceAdd, Nat.reduceMul, Nat.reduceSub, Nat.reduceLeDiff, Nat.reduceLT, reduceIte, reduceCtorEq, Int.reduceToNat, Int.reduceLE, Int.reduceLT, Int.reduceNeg, Bool.not_not, and_self, Bool.and_eq_false_iff, Int.cast_ofNat_Int, Int.reduceAdd, Int.reduceSub, Int.reduceMul, Int.reduceEq, Int.reduceNe]
        simp [toI]
      rintro ⟨k, met2⟩ ⟨hk, hnd2, hml2, hmem2⟩
      simp only at hk hnd2 hml2 hmem2
      by_cases hkk : k < D.length
      · have hkI : (toI D)[k]'(by simp [toI]; exact hkk) = (D[k] : Int) := by simp [toI]
        have hal := addU_len met2 D[k]
        simp only [go_sem, Nat.reduceEqDiff, Nat.reduceBEq, Nat.reduceAdd, Nat.reduceMul, Nat.reduceSub, Nat.reduceLeDiff, Nat.reduceLT, reduceIte, reduceCtorEq, Int.reduceToNat, Int.reduceLE, Int.reduceLT, Int.reduceNeg, Bool.not_not, and_self, Bool.and_eq_false_iff, Int.cast_ofNat_Int, Int.reduceAdd, Int.reduceSub, Int.reduceMul, Int.reduceEq, Int.reduceNe, B21_2, show (k : Int) < (D.length : Int) by omega, show (toI D).length = D.length by simp [toI], wf_ints, getD_map (show k < (toI D).length by simp [toI]; exact hkk), hkI, mput_U, like_N]
        refine ⟨⟨by omega, by omega⟩, (k + 1, addU met2 D[k]), rfl, ⟨hkk, addU_nodup hnd2, by simp only; omega, fun g => ?_⟩, by simp only; omega⟩
        rw [addU_mem, hmem2, List.take_succ_eq_append_getElem hkk, List.mem_append, List.mem_singleton, or_assoc]
      · have hke : k = D.length := by omega
        subst hke
        simp only [go_sem, Nat.reduceEqDiff, Nat.reduceBEq, Nat.reduceAdd, Nat.reduceMul, Nat.reduceSub, Nat.reduceLeDiff, Nat.reduceLT, reduceIte, reduceCtorEq, Int.reduceToNat, Int.reduceLE, Int.reduceLT, Int.reduceNeg, Bool.not_not, and_self, Bool.and_eq_false_iff, Int.cast_ofNat_Int, Int.reduceAdd, Int.reduceSub, Int.reduceMul, Int.reduceEq, Int.reduceNe, B21_2, show ¬ (D.length : Int) < (D.length : Int) by omega]
        refine ⟨⟨by omega, by omega⟩, (i + 1, met2), rfl, ⟨hin, hnd2, by simp only; omega, fun g => ?_⟩, by simp only; omega⟩
        rw [hmem2, hmem, List.take_length, List.take_succ_eq_append_getElem hin]
        constructor
        · rintro (⟨s, h1, h2⟩ | h1)
          · exact ⟨s, List.mem_append_left _ h1, h2⟩
          · exact ⟨A[i], List.mem_append_right _ (by simp), by rw [← hD]; exact h1⟩
        · rintro ⟨s, h1, h2⟩
          rcases List.mem_append.1 h1 with h1 | h1
          · exact .inl ⟨s, h1, h2⟩
          · simp only [List.mem_singleton] at h1
            subst h1
            rw [← hD] at h2
            exact .inr h2
    · have hie : i = A.length := by omega
      subst hie
      rw [List.take_length] at hmem
      have hS := fnS35 met Rs hnd hrr (fun g => (hmem g).trans (hres g).symm) (by omega)
      simp only [go_sem, Nat.reduceEqDiff, Nat.reduceBEq, Nat.reduceAdd, Nat.reduceMul, Nat.reduceSub, Nat.reduceLeDiff, Nat.reduceLT, reduceIte, reduceCtorEq, Int.reduceToNat, Int.reduceLE, Int.reduceLT, Int.reduceNeg, Bool.not_not, and_self, Bool.and_eq_false_iff, Int.cast_ofNat_Int, Int.reduceAdd, Int.reduceSub, Int.reduceMul, Int.reduceEq, Int.reduceNe, B21_1, R21_1, show ¬ (A.length : Int) < (A.length : Int) by omega]
      refine runR_calls (fun n => if n = 200000 then 34 else n) (by simp only [go_sem, Nat.reduceEqDiff, Nat.reduceBEq, Nat.reduceAdd, Nat.reduceMul, Nat.reduceSub, Nat.reduceLeDiff, Nat.reduceLT, reduceIte, reduceCtorEq, Int.reduceToNat, Int.reduceLE, Int.reduceLT, Int.reduceNeg, Bool.not_not, and_self, Bool.and_eq_false_iff, Int.cast_ofNat_Int, Int.reduceAdd, Int.reduceSub, Int.reduceMul, Int.reduceEq, Int.reduceNe]) (by simp only [go_sem, Nat.reduceEqDiff, Nat.reduceBEq, Nat.reduceAdd, Nat.reduceMul, Nat.reduceSub, Nat.reduceLeDiff, Nat.reduceLT, reduceIte, reduceCtorEq, Int.reduceToNat, Int.reduceLE, Int.reduceLT, Int.reduceNeg, Bool.not_not, and_self, Bool.and_eq_false_iff, Int.cast_ofNat_Int, Int.reduceAdd, Int.reduceSub, Int.reduceMul, Int.reduceEq, Int.reduceNe] <;> rfl) hS rfl (by intro e he; simp only [List.mem_cons, List.not_mem_nil, or_false] at he; rcases he with rfl <;> simp only [go_sem, Nat.reduceEqDiff, Nat.reduceBEq, Nat.reduceAdd, Nat.reduceMul, Nat.reduceSub, Nat.reduceLeDiff, Nat.reduceLT, reduceIte, reduceCtorEq, Int.reduceToNat, Int.reduceLE, Int.reduceLT, Int.reduceNeg, Bool.not_not, and_self, Bool.and_eq_false_iff, Int.cast_ofNat_Int, Int.reduceAdd, Int.reduceSub, Int.reduceMul, Int.reduceEq, Int.reduceNe]) (by simp) (by simp) (by simp) (by intro e he h9; simp only [List.mem_cons, List.not_mem_nil, or_false] at he; rcases he with rfl <;> simp at h9) ?_
      simp only [go_sem, Nat.reduceEqDiff, Nat.reduceBEq, Nat.reduceAdd, Nat.reduceMul, Nat.reduceSub, Nat.reduceLeDiff, Nat.reduceLT, reduceIte, reduceCtorEq, Int.reduceToNat, Int.reduceLE, Int.reduceLT, Int.reduceNeg, Bool.not_not, and_self, Bool.and_eq_false_iff, Int.cast_ofNat_Int, Int.reduceAdd, Int.reduceSub, Int.reduceMul, Int.reduceEq, Int.reduceNe]
end Go.Vc
