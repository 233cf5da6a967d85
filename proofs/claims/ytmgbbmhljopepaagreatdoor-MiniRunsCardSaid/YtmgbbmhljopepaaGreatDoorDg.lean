/- A part of the proofs of the seat YtmgbbmhljopepaaGreatDoor: the contracts of functions, each proved out of its code. -/
import Derived.Test.YtmgbbmhljopepaaGreatDoorVh
import Derived.Test.YtmgbbmhljopepaaGreatDoorProg
import Derived.Test.YtmgbbmhljopepaaGreatDoorDe
import Derived.Test.YtmgbbmhljopepaaGreatDoorNa
import Derived.Test.YtmgbbmhljopepaaGreatDoorDf
namespace Go.Vc
open Go.Proofs
set_option maxRecDepth 100000
def M77 : MC := (.seq (.reg [⟨some 8, none, .q (.ld (.t 1) 1 false)⟩, ⟨some 9, none, .q (.mv (.t 0))⟩, ⟨some 10, none, .q (.mget (.t 8) (.t 9) true Kk.int (.pv (.agg [])))⟩, ⟨some 7,
 none, .q (.mv (.t 10))⟩, ⟨some 11, none, .q (.ext (.t 7) 0)⟩, ⟨some 12, none, .q (.ext (.t 7) 1)⟩, ⟨some 5, none, .alloc []⟩, ⟨none, none, .st (.t 5) (.t 11) 0⟩, ⟨some 6, none,
 .q (.mv (.t 12))⟩] [] [0, 1, 2, 3, 6] [32, 150000, 200000, 200001, 200002, 200003]) (.seq (.reg [⟨some 13, none, .q (.mv (.t 6))⟩, ⟨some 14, none, .q (.not (.t 13))⟩, ⟨some 15, none,
 .q (.mv (.t 14))⟩, ⟨some 16, some (15, true), .q (.mv (.t 0))⟩, ⟨some 17, some (15, true), .q (.bin .geq (.t 16) (.c (.int .i64 0)))⟩, ⟨some 18, none, .q (.pick (.t 15) (.t 17)
 (.c (.bool false)))⟩, ⟨some 19, none, .q (.mv (.t 18))⟩, ⟨some 20, some (19, true), .q (.mv (.t 0))⟩, ⟨some 21, some (19, true), .q (.fa (.t 2) 1)⟩, ⟨some 22, some (19, true),
 .q (.ld (.t 21) 1 false)⟩, ⟨some 23, some (19, true), .q (.len (.t 22) false)⟩, ⟨some 24, some (19, true), .q (.bin .lss (.t 20) (.t 23))⟩, ⟨some 25, none, .q (.pick (.t 19) (.t 24)
 (.c (.bool false)))⟩] [] [0, 1, 3, 25] [32, 150000, 200000, 200001, 200002, 200003]) (.cond (.t 25) (.seq (.reg [⟨some 26, none, .q (.ld (.t 1) 1 false)⟩, ⟨some 27, none, .q (.mv (.t 0))⟩,
 ⟨some 28, none, .q (.mk [] [])⟩, ⟨none, none, .mset (.t 26) (.t 27) (.t 28) Kk.int⟩] [] [0, 3] [32, 150000, 200000, 200001, 200002, 200003]) (.reg [⟨some 29, none, .q (.ld (.t 3)
 1 false)⟩, ⟨some 30, none, .q (.mv (.t 0))⟩, ⟨some 31, none, .lits [.t 30] 1⟩, ⟨some 32, none, .app (.t 29) (.t 31) 1 8⟩, ⟨none, none, .st (.t 3) (.t 32) 1⟩] [] [] [32, 150000,
 200000, 200001, 200002, 200003])) .skip)))
theorem mc77 : ofCode Tryz.prog [] Tryz.f77.ntmps [(0, ⟨[0, 1, 2, 3, 6], [32, 150000, 200000, 200001, 200002, 200003], [], 0, [], none⟩),
  (1, ⟨[0, 1, 3, 25], [32, 150000, 200000, 200001, 200002, 200003], [], 0, [], none⟩),
  (2, ⟨[0, 3], [32, 150000, 200000, 200001, 200002, 200003], [], 0, [], none⟩),
  (3, ⟨[], [32, 150000, 200000, 200001, 200002, 200003], [], 0, [], none⟩)] (Tryz.f77.body.getD .skip) = some M77 := by kernel_rfl
theorem RunS77 {args : List AV} {st st' : List (Nat × Row)} {v : AV} (h : args.length ≤ 33) (hk : (st'.map (·.1)).Nodup) (hv : run Tryz.prog (retS [] v st') M77 [] ⟨entryA 0 args, st⟩) : FnS Tryz.prog 77 args st v st' :=
 FnS_run (by kernel_rfl) Tryz.func77 (by decide) rfl mc77 (by kernel_rfl) (by rw [Tryz.ntmps77]; exact h) (by rw [Tryz.ntmps77]; decide) hk hv
def B45_0 : MC := (.seq (.reg [⟨some 18, none, .q (.bin .lss (.t 17) (.t 16))⟩] [] [2, 5, 6, 7, 15, 16, 17, 18] [2, 5, 6, 13, 1023, 1053, 1056, 140000]) (.seq (.cond (.t 18) .skip (.exit 0))
 (.seq (.block 1 (.seq (.reg [⟨some 19, none, .q (.ia (.t 15) (.t 17) 1)⟩, ⟨some 20, none, .q (.ld (.t 19) 1 false)⟩, ⟨some 9, none, .q (.mv (.t 20))⟩] [] [2, 5, 6, 7, 9, 15, 16, 17] [2,
 5, 6, 13, 1023, 1053, 1056, 140000]) (.reg [⟨some 21, none, .q (.mv (.t 7))⟩, ⟨some 22, none, .q (.mv (.t 9))⟩, ⟨some 23, none, .calls (.t 21) [.t 22]⟩] [] [2, 5, 6, 7, 15, 16, 17] [2,
 5, 6, 13, 1023, 1053, 1056, 140000]))) (.reg [⟨some 24, none, .q (.bin .add (.t 17) (.c (.int .i64 1)))⟩, ⟨some 17, none, .q (.mv (.t 24))⟩] [] [2, 5, 6, 7, 15, 16, 17] [2, 5, 6, 13, 1023,
 1053, 1056, 140000]))))
def B45_2 : MC := (.seq (.reg [⟨some 44, none, .q (.bin .lss (.t 43) (.t 42))⟩] [] [2, 5, 6, 7, 41, 42, 43, 44] [2, 5, 6, 13, 1023, 1041, 1053, 1056, 140000]) (.seq (.cond (.t 44) .skip (.exit 4))
 (.seq (.block 5 (.seq (.reg [⟨some 45, none, .q (.ia (.t 41) (.t 43) 2)⟩, ⟨some 46, none, .q (.ld (.t 45) 2 true)⟩, ⟨some 12, none, .alloc [.pv (.sc (.int .i64 0)),
 .pv (.sc (.int .i64 0))]⟩, ⟨none, none, .st (.t 12) (.t 46) 2⟩] [] [2, 5, 6, 7, 12, 41, 42, 43] [2, 5, 6, 12, 13, 1023, 1041, 1053, 1056, 140000]) (.seq (.reg [⟨some 47, none,
 .q (.fa (.t 12) 0)⟩, ⟨some 48, none, .q (.ld (.t 47) 1 false)⟩, ⟨some 49, none, .q (.bin .eql (.t 48) (.c (.int .i64 (-1))))⟩] [] [2, 5, 6, 7, 12, 41, 42, 43, 49] [2, 5, 6, 12, 13, 1023,
 1041, 1053, 1056, 140000]) (.cond (.t 49) (.reg [⟨some 50, none, .q (.mv (.t 7))⟩, ⟨some 51, none, .q (.fa (.t 12) 1)⟩, ⟨some 52, none, .q (.ld (.t 51) 1 false)⟩, ⟨some 53, none,
 .calls (.t 50) [.t 52]⟩] [] [2, 5, 6, 7, 41, 42, 43] [2, 5, 6, 13, 1023, 1041, 1053, 1056, 140000]) .skip)))) (.reg [⟨some 54, none, .q (.bin .add (.t 43) (.c (.int .i64 1)))⟩, ⟨some 43,
 none, .q (.mv (.t 54))⟩] [] [2, 5, 6, 7, 41, 42, 43] [2, 5, 6, 13, 1023, 1041, 1053, 1056, 140000]))))
def B45_1 : MC := (.seq (.seq (.reg [⟨some 25, none, .q (.ld (.t 6) 1 false)⟩, ⟨some 26, none, .q (.len (.t 25) false)⟩, ⟨some 27, none, .q (.bin .gtr (.t 26) (.c (.int .i64 0)))⟩] [] [2,
 5, 6, 7, 27] [2, 5, 6, 13, 1023, 1053, 1056, 140000]) (.cond (.t 27) .skip (.exit 2))) (.block 3 (.seq (.reg [⟨some 28, none, .q (.ld (.t 6) 1 false)⟩, ⟨some 29, none, .q (.ld (.t 6)
 1 false)⟩, ⟨some 30, none, .q (.len (.t 29) false)⟩, ⟨some 31, none, .q (.bin .sub (.t 30) (.c (.int .i64 1)))⟩, ⟨some 32, none, .q (.ia (.t 28) (.t 31) 1)⟩, ⟨some 33, none,
 .q (.ld (.t 32) 1 false)⟩, ⟨some 10, none, .q (.mv (.t 33))⟩] [] [2, 5, 6, 7, 10] [2, 5, 6, 13, 1023, 1053, 1056, 140000]) (.seq (.reg [⟨some 34, none, .q (.ld (.t 6) 1 false)⟩,
 ⟨some 35, none, .q (.ld (.t 6) 1 false)⟩, ⟨some 36, none, .q (.len (.t 35) false)⟩, ⟨some 37, none, .q (.bin .sub (.t 36) (.c (.int .i64 1)))⟩, ⟨some 38, none, .q (.slc (.t 34)
 none (some (.t 37)) 1 false)⟩, ⟨none, none, .st (.t 6) (.t 38) 1⟩] [] [2, 5, 6, 7, 10] [2, 5, 6, 13, 1023, 1053, 1056, 140000]) (.seq (.reg [⟨some 39, none, .q (.ld (.t 2) 4 true)⟩,
 ⟨some 40, none, .q (.mv (.t 10))⟩, ⟨some 41, none, .call (.f 78) [.t 39, .t 40]⟩, ⟨some 42, none, .q (.len (.t 41) false)⟩, ⟨some 43, none, .q (.mv (.c (.int .i64 0)))⟩] [] [2,
 5, 6, 7, 41, 42, 43] [2, 5, 6, 13, 1023, 1041, 1053, 1056, 140000]) (.block 4 (.loop B45_2)))))))
def R45_1 : MC := (.seq (.reg [⟨some 55, none, .q (.ld (.t 5) 1 false)⟩, ⟨some 56, none, .calls (.f 69) [.t 55]⟩, ⟨some 4, none, .q (.mv (.t 56))⟩] [] [4] [13, 1023, 1053, 1056]) .ret)
def R45_0 : MC := (.seq (.block 2 (.loop B45_1)) R45_1)
def M45 : MC := (.seq (.reg [⟨some 2, none, .box (.t 0)⟩, ⟨some 4, none, .q (.mv .nil)⟩] [] [1, 2] [2, 1023, 1053, 1056]) (.seq (.reg [⟨some 13, none, .mkm⟩, ⟨some 5, none,
 .alloc [.pv (.sc (.map none))]⟩, ⟨none, none, .st (.t 5) (.t 13) 1⟩] [] [1, 2, 5] [2, 5, 13, 1023, 1053, 1056]) (.seq (.reg [⟨some 6, none, .alloc [.e0]⟩] [] [1, 2, 5, 6] [2, 5, 6, 13,
 1023, 1053, 1056, 140000]) (.seq (.reg [⟨some 14, none, .q (.clo 77 [.t 5, .t 2, .t 6])⟩, ⟨some 7, none, .q (.mv (.t 14))⟩] [] [1, 2, 5, 6, 7] [2, 5, 6, 13, 1023, 1053, 1056, 140000])
 (.seq (.seq (.reg [⟨some 15, none, .q (.mv (.t 1))⟩, ⟨some 16, none, .q (.len (.t 15) false)⟩, ⟨some 17, none, .q (.mv (.c (.int .i64 0)))⟩] [] [2, 5, 6, 7, 15, 16, 17] [2, 5, 6, 13,
 1023, 1053, 1056, 140000]) (.block 0 (.loop B45_0))) R45_0)))))
theorem mc45 : ofCode Tryz.prog [23, 53, 56] Tryz.f45.ntmps [(0, ⟨[1, 2], [2, 1023, 1053, 1056], [], 0, [], none⟩),
  (1, ⟨[1, 2, 5], [2, 5, 13, 1023, 1053, 1056], [], 0, [], none⟩),
  (2, ⟨[1, 2, 5, 6], [2, 5, 6, 13, 1023, 1053, 1056, 140000], [], 0, [], none⟩),
  (3, ⟨[1, 2, 5, 6, 7], [2, 5, 6, 13, 1023, 1053, 1056, 140000], [], 0, [], none⟩),
  (4, ⟨[2, 5, 6, 7, 15, 16, 17], [2, 5, 6, 13, 1023, 1053, 1056, 140000], [], 0, [], none⟩),
  (5, ⟨[2, 5, 6, 7, 15, 16, 17, 18], [2, 5, 6, 13, 1023, 1053, 1056, 140000], [], 0, [], none⟩),
  (6, ⟨[2, 5, 6, 7, 9, 15, 16, 17], [2, 5, 6, 13, 1023, 1053, 1056, 140000], [], 0, [], none⟩),
  (7, ⟨[2, 5, 6, 7, 15, 16, 17], [2, 5, 6, 13, 1023, 1053, 1056, 140000], [], 0, [], none⟩),
  (8, ⟨[2, 5, 6, 7, 15, 16, 17], [2, 5, 6, 13, 1023, 1053, 1056, 140000], [], 0, [], none⟩),
  (9, ⟨[2, 5, 6, 7, 27], [2, 5, 6, 13, 1023, 1053, 1056, 140000], [], 0, [], none⟩),
  (10, ⟨[2, 5, 6, 7, 10], [2, 5, 6, 13, 1023, 1053, 1056, 140000], [], 0, [], none⟩),
  (11, ⟨[2, 5, 6, 7, 10], [2, 5, 6, 13, 1023, 1053, 1056, 140000], [], 0, [], none⟩),
  (12, ⟨[2, 5, 6, 7, 41, 42, 43], [2, 5, 6, 13, 1023, 1041, 1053, 1056, 140000], [], 0, [], none⟩),
  (13, ⟨[2, 5, 6, 7, 41, 42, 43, 44], [2, 5, 6, 13, 1023, 1041, 1053, 1056, 140000], [], 0, [], none⟩),
  (14, ⟨[2, 5, 6, 7, 12, 41, 42, 43], [2, 5, 6, 12, 13, 1023, 1041, 1053, 1056, 140000], [], 0, [], none⟩),
  (15, ⟨[2, 5, 6, 7, 12, 41, 42, 43, 49], [2, 5, 6, 12, 13, 1023, 1041, 1053, 1056, 140000], [], 0, [], none⟩),
  (16, ⟨[2, 5, 6, 7, 41, 42, 43], [2, 5, 6, 13, 1023, 1041, 1053, 1056, 140000], [], 0, [], none⟩),
  (17, ⟨[2, 5, 6, 7, 41, 42, 43], [2, 5, 6, 13, 1023, 1041, 1053, 1056, 140000], [], 0, [], none⟩),
  (18, ⟨[4], [13, 1023, 1053, 1056], [], 0, [], none⟩)] (Tryz.f45.body.getD .skip) = some M45 := by kernel_rfl
theorem Run45 {args : List PV} {v : AV} {rs : List (Nat × List PV)} (ids : List Bool) (h : args.length ≤ 57) (hv : run Tryz.prog (retK [RV.tmp 4] ids v rs) M45 [] ⟨entry 0 args, []⟩) : Fn Tryz.prog 45 args v rs :=
 Fn_run ids (by kernel_rfl) Tryz.func45 (by decide) rfl mc45 (by kernel_rfl) (by rw [Tryz.ntmps45]; exact h) (by rw [Tryz.ntmps45]; decide) hv
end Go.Vc

namespace Go.Vc
open Go.Proofs
set_option linter.unusedSimpArgs false
set_option linter.unusedVariables false
theorem lkp_N (k : Nat) : ∀ met : List Nat, lkp (pI (k : Int)) (met.map enN) = if k ∈ met then some (.agg []) else none
 | [] => rfl
 | m :: met => by
  simp only [List.map_cons, lkp, keyEq, lkp_N k met]
  by_cases h : k = m
  ·subst h; simp
  ·have h2 : ¬ ((k : Int) = (m : Int)) := by omega
   simp [h, h2]
theorem mput_N (k : Nat) : ∀ {met : List Nat}, k ∉ met → mput (pI (k : Int)) (.agg []) (met.map enN) = (met ++ [k]).map enN
 | [], _ => rfl
 | m :: met, h => by
  have h1 : k ≠ m := fun e => h (by simp [e])
  have h2 : ¬ ((k : Int) = (m : Int)) := by omega
  simp only [List.map_cons, mput, keyEq, h2, decide_false, Bool.false_eq_true, if_false, List.cons_append, List.cons.injEq, true_and]
  exact mput_N k fun hm => h (List.mem_cons_of_mem _ hm)
theorem lkp_neg {x : Int} (h : x < 0) : ∀ met : List Nat, lkp (pI x) (met.map enN) = none
 | [] => rfl
 | m :: met => by
  have h2 : ¬ (x = (m : Int)) := by omega
  simp [lkp, keyEq, lkp_neg h met, h2]
theorem like_N (x : Int) : ∀ met : List Nat, keysLike .int (pI x) (met.map enN)
 | [] => trivial
 | m :: met => by simp only [List.map_cons, keysLike, keyLike]; exact ⟨trivial, like_N x met⟩
abbrev nBox (n : NF) : List AV := [.pv (ss n.signs), .pv (.lst (n.ways.map pWs)), .pv (.lst (n.done.map pNs)), .pv (pNs n.beg)]
abbrev wRows (n : NF) (s : WorkC) : List (Nat × Row) := [(200000, .box [.mp 200003]), (200001, .box (nBox n)), (200002, .box [.row 150000 0 s.2.1.length]), (200003, .mp (s.1.map enN)), (150000, .sl 1 ((toI s.2.1).map (fun n => pI n) ++ s.2.2))]
theorem fnS77 (n : NF) (x : Int) (s : WorkC) (hn : n.size ≤ 1000) (hw : s.2.1.length ≤ 10000) :
  FnS Tryz.prog 77 [.pv (pI x), .ptr 200000 0, .ptr 200001 0, .ptr 200002 0] (wRows n s) (.pv (.tup [])) (wRows n (addC n x s)) := by
 obtain ⟨met, ws, xs⟩ := s
 simp only at hw
 unfold addC
 split
 ·rename_i hc
  obtain ⟨hc1, hc2⟩ := hc
  obtain ⟨k, rfl, hk⟩ := isSt_iff.1 hc1
  rw [Int.toNat_natCast] at hc2 ⊢
  unfold NF.size at hk
  have hlk : lkp (pI (k : Int)) (met.map enN) = none := by rw [lkp_N, if_neg hc2]
  have tk : List.take ws.length ((toI ws).map (fun n => pI n) ++ xs) = (toI ws).map fun n => pI n := List.take_left' (by simp [toI])
  refine RunS77 (by simp) (by simp) ?_
  simp only [go_sem, Nat.reduceEqDiff, Nat.reduceBEq, Nat.reduceAdd, Nat.reduceLeDiff, Nat.reduceLT, reduceCtorEq, and_self, M77, hlk, like_N, mput_N k hc2, tk, show (k : Int) < (n.ways.length : Int) by omega]
  exact ⟨⟨wf_ints [(k : Int)], by omega, by omega⟩, by rw [List.length_append]; rfl, by rw [toI_app, List.map_append]; rfl⟩
 ·rename_i hc
  refine RunS77 (by simp) (by simp) ?_
  by_cases h0 : x < 0
  ·have hlk := lkp_neg h0 met
   simp only [go_sem, Nat.reduceEqDiff, Nat.reduceBEq, Nat.reduceAdd, Nat.reduceLeDiff, Nat.reduceLT, reduceCtorEq, and_self, M77, hlk, like_N, show ¬ 0 ≤ x by omega]
  ·obtain ⟨k, rfl⟩ : ∃ k : Nat, x = k := ⟨x.toNat, by omega⟩
   by_cases hm : k ∈ met
   ·have hlk : lkp (pI (k : Int)) (met.map enN) = some (.agg []) := by rw [lkp_N, if_pos hm]
    simp only [go_sem, Nat.reduceEqDiff, Nat.reduceBEq, Nat.reduceAdd, Nat.reduceLeDiff, Nat.reduceLT, reduceCtorEq, and_self, M77, hlk, like_N]
   ·have hlk : lkp (pI (k : Int)) (met.map enN) = none := by rw [lkp_N, if_neg hm]
    have hns : ¬ (k : Int) < (n.ways.length : Int) := fun h => hc ⟨isSt_iff.2 ⟨k, rfl, by unfold NF.size; omega⟩, by rw [Int.toNat_natCast]; exact hm⟩
    simp only [go_sem, Nat.reduceEqDiff, Nat.reduceBEq, Nat.reduceAdd, Nat.reduceLeDiff, Nat.reduceLT, reduceCtorEq, and_self, M77, hlk, like_N, hns]
abbrev mC : Nat → Nat := fun n => if n = 200000 then 5 else if n = 200001 then 2 else if n = 200002 then 6 else if n = 200003 then 13 else 140000
abbrev cRows (n : NF) (s : WorkC) : List (Nat × Row) := [(2, .box (nBox n)), (5, .box [.mp 13]), (6, .box [.row 140000 0 s.2.1.length]), (13, .mp (s.1.map enN)), (140000, .sl 1 ((toI s.2.1).map (fun n => pI n) ++ s.2.2))]
theorem fn45 (n : NF) (l : List Int) (hg : n.Good) (hsz : n.size ≤ 1000) (hwl : ∀ s, (n.ways.getD s []).length ≤ 1000) (hl : l.length ≤ 100000) : Fn Tryz.prog 45 [pNf n, ints l] (.pv (pNs (closeN n l))) [] := by
 refine Run45 [] (by simp) ?_
 simp only [go_sem, Nat.reduceEqDiff, Nat.reduceBEq, reduceCtorEq, and_self, M45]
 refine run_loopF (T := Nat × WorkC) (fun _ => []) (fun _ => [(6, 0, 140000, 1)]) [2, 5, 6, 7, 15, 16, 17] [2, 5, 6, 13, 140000]
  (fun t => ⟨[(2, .ptr 2 0), (5, .ptr 5 0), (6, .ptr 6 0), (7, .fn 77 [.ptr 5 0, .ptr 2 0, .ptr 6 0]), (15, .pv (ints l)), (16, .pv (pI l.length)), (17, .pv (pI t.1))], cRows n t.2⟩)
  (fun t => t.1 ≤ l.length ∧ PreC n (inI l) (l.drop t.1) t.2.1 t.2.2.1 ∧ t.2.2.1.length ≤ t.2.1.length) (fun t => l.length - t.1) (0, [], [], []) ?_ ⟨Nat.zero_le _, PreC.init n l, Nat.le_refl _⟩ ?_
 ·simp only [go_sem, Nat.reduceEqDiff, Nat.reduceBEq, Nat.reduceLT, reduceCtorEq, Int.cast_ofNat_Int]
  rfl
 rintro ⟨i, s⟩ ⟨hi, hP, hle⟩
 simp only at hi hP hle
 have hml := len_le hP.nodup hP.inn
 by_cases hlt : i < l.length
 ·simp only [go_sem, Nat.reduceEqDiff, Nat.reduceLT, reduceCtorEq, and_self, B45_0, show (i : Int) < (l.length : Int) by omega, wf_ints, getD_map hlt]
  have hS := fnS77 n l[i] s hsz (by omega)
  have hd : l.drop i = l[i] :: l.drop (i + 1) := List.drop_eq_getElem_cons hlt
  rw [hd] at hP
  have hA := hP.add (List.getElem_mem hlt)
  have hle2 := addC_le (n := n) (x := l[i]) hle
  generalize addC n l[i] s = s1 at hS hA hle2
  refine runR_calls mC (by simp only [go_sem, Nat.reduceEqDiff, and_self]) (by simp only [go_sem, Nat.reduceEqDiff] <;> rfl) hS rfl (by intro e he; simp only [List.mem_cons, List.not_mem_nil, or_false] at he; rcases he with rfl | rfl | rfl | rfl | rfl <;> simp only [go_sem, Nat.reduceEqDiff, mC]) (by simp) (by simp [mC]) (by simp [mC]) (by intro e he _; simp only [List.mem_cons, List.not_mem_nil, or_false] at he; rcases he with rfl | rfl | rfl | rfl | rfl <;> simp [mC]) ?_
  simp only [go_sem, Nat.reduceEqDiff, Nat.reduceBEq, Nat.reduceLT, Int.reduceNeg, and_self, mC]
  exact ⟨⟨by omega, by omega⟩, (i + 1, s1), rfl, ⟨hlt, hA, hle2⟩, by simp only; omega⟩
 ·simp only [go_sem, Nat.reduceEqDiff, Nat.reduceLT, reduceCtorEq, and_self, B45_0, R45_0, show ¬ (i : Int) < (l.length : Int) by omega]
  rw [List.drop_of_length_le (by omega)] at hP
  have hI0 := hP.done
  refine run_loopN (T := WorkC) [2, 5, 6, 7] [2, 5, 6, 13, 140000] (fun s => ⟨[(2, .ptr 2 0), (5, .ptr 5 0), (6, .ptr 6 0), (7, .fn 77 [.ptr 5 0, .ptr 2 0, .ptr 6 0])], cRows n s⟩)
   (fun s => InvC n (inI l) s.1 s.2.1 ∧ s.2.1.length ≤ s.1.length) (muC n) s rfl ⟨hI0, hle⟩ ?_
  clear hml hP hI0 hle s
  rintro ⟨met, ws, xs⟩ ⟨hI, hws⟩
  simp only at hI hws
  have hml := len_le hI.nodup hI.inn
  rcases List.eq_nil_or_concat ws with rfl | ⟨w1, k, rfl⟩
  ·have hS := fnS69 met (closeN n l) hI.nodup (closeN_ris n l) (fun y => hI.end_ hg y) (by omega)
   simp only [go_sem, Nat.reduceEqDiff, Nat.reduceAdd, Nat.reduceSub, Int.reduceToNat, Int.reduceLE, Int.reduceLT, Int.reduceNeg, and_self, Int.cast_ofNat_Int, Int.reduceSub, B45_1, R45_1]
   refine runR_calls (fun n => if n = 200000 then 13 else n) (by simp only [go_sem, Nat.reduceEqDiff, and_self]) (by simp only [go_sem, Nat.reduceEqDiff] <;> rfl) hS rfl (by intro e he; simp only [List.mem_cons, List.not_mem_nil, or_false] at he; rcases he with rfl <;> simp only [go_sem]) (by simp) (by simp) (by simp) (by intro e he h9; simp only [List.mem_cons, List.not_mem_nil, or_false] at he; rcases he with rfl <;> simp at h9) ?_
   simp only [go_sem, Nat.reduceEqDiff, Nat.reduceBEq, and_self]
  ·rw [List.concat_eq_append] at *
   have hM := hI.pop
   have hk := hI.inn k (hI.sub k (by simp))
   rw [List.length_append, List.length_singleton] at hws
   have e1 : (((w1.length + 1 : Nat) : Int) - 1).toNat = w1.length := by omega
   have hget : ((toI (w1 ++ [k])).map (fun n => pI n) ++ xs).getD w1.length default = pI (k : Int) := by simp [List.getD_eq_getElem?_getD, toI]
   have hbs : (toI (w1 ++ [k])).map (fun n => pI n) ++ xs = (toI w1).map (fun n => pI n) ++ (pI (k : Int) :: xs) := by simp [toI]
   simp only [go_sem, Nat.reduceEqDiff, Nat.reduceAdd, Int.reduceToNat, Int.reduceLE, Int.reduceNeg, and_self, B45_1, List.length_append, List.length_singleton, e1, hget, show (0 : Int) < ((w1.length + 1 : Nat) : Int) by omega]
   refine ⟨⟨by omega, by omega⟩, ⟨by omega, by omega⟩, by simp [toI]; omega, ⟨by omega, by omega⟩, ⟨by omega, by omega⟩, ?_⟩
   refine runR_call (by simp only [go_sem, Nat.reduceEqDiff, and_self]) rfl (fn78 n (k : Int) hsz) (.inl rfl) trivial ?_
   have hwa : waysAt n (k : Int) = n.ways.getD k [] := by unfold waysAt; rw [if_pos (by omega)]; simp
   rw [hwa]
   have hWl := hwl k
   generalize hW : n.ways.getD k [] = W at hM hWl
   simp only [go_sem, Nat.reduceEqDiff, and_self]
   rw [hbs]
   have hmu0 : muC n (met, w1, pI (k : Int) :: xs) < muC n (met, w1 ++ [k], xs) := by unfold muC; simp only [List.length_append, List.length_singleton]; omega
   refine run_loopN (T := Nat × WorkC) [2, 5, 6, 7, 41, 42, 43] [2, 5, 6, 13, 140000] (fun t => ⟨[(2, .ptr 2 0), (5, .ptr 5 0), (6, .ptr 6 0), (7, .fn 77 [.ptr 5 0, .ptr 2 0, .ptr 6 0]), (41, .pv (pWs W)), (42, .pv (pI W.length)), (43, .pv (pI t.1))], cRows n t.2⟩)
    (fun t => t.1 ≤ W.length ∧ MidC n (inI l) k (W.drop t.1) t.2.1 t.2.2.1 ∧ t.2.2.1.length ≤ t.2.1.length ∧ muC n t.2 ≤ muC n (met, w1, pI (k : Int) :: xs)) (fun t => W.length - t.1) (0, met, w1, pI (k : Int) :: xs) rfl ⟨Nat.zero_le _, hM, by simp only; omega, Nat.le_refl _⟩ ?_
   rintro ⟨j, s⟩ ⟨hj, hMj, hle, hmu⟩
   simp only at hj hMj hle hmu
   have hml2 := len_le hMj.nodup hMj.inn
   by_cases hjl : j < W.length
   ·have hd : W.drop j = W[j] :: W.drop (j + 1) := List.drop_eq_getElem_cons hjl
    rw [hd] at hMj
    by_cases he : W[j].1 = -1
    ·have hS := fnS77 n W[j].2 s hsz (by omega)
     have hA := hMj.add hg he
     have hle2 := addC_le (n := n) (x := W[j].2) hle
     have hmu2 := muC_add (n := n) (x := W[j].2) (s := s) (len_le hA.nodup hA.inn)
     generalize addC n W[j].2 s = s1 at hS hA hle2 hmu2
     simp only [go_sem, Nat.reduceEqDiff, Nat.reduceBEq, Nat.reduceAdd, Nat.reduceLeDiff, Int.reduceNeg, and_self, B45_2, show (j : Int) < (W.length : Int) by omega, wf_pE, getD_map hjl, he]
     refine runR_calls mC (by simp only [go_sem, Nat.reduceEqDiff, and_self]) (by simp only [go_sem, Nat.reduceEqDiff] <;> rfl) hS rfl (by intro e he; simp only [List.mem_cons, List.not_mem_nil, or_false] at he; rcases he with rfl | rfl | rfl | rfl | rfl <;> simp only [go_sem, Nat.reduceEqDiff, Int.reduceNeg, mC]) (by simp) (by simp [mC]) (by simp [mC]) (by intro e he _; simp only [List.mem_cons, List.not_mem_nil, or_false] at he; rcases he with rfl | rfl | rfl | rfl | rfl <;> simp [mC]) ?_
     simp only [go_sem, Nat.reduceEqDiff, Nat.reduceBEq, Nat.reduceLT, Int.reduceNeg, and_self, mC]
     exact ⟨⟨by omega, by omega⟩, (j + 1, s1), rfl, ⟨hjl, hA, hle2, by simp only; omega⟩, by simp only; omega⟩
    ·have hA := hMj.skip he
     simp only [go_sem, Nat.reduceEqDiff, Nat.reduceBEq, Nat.reduceAdd, Nat.reduceLeDiff, Int.reduceNeg, and_self, B45_2, show (j : Int) < (W.length : Int) by omega, wf_pE, getD_map hjl, he]
     exact ⟨⟨by omega, by omega⟩, (j + 1, s), rfl, ⟨hjl, hA, hle, hmu⟩, by simp only; omega⟩
   ·rw [List.drop_of_length_le (by omega)] at hMj
    simp only [go_sem, Nat.reduceEqDiff, Nat.reduceBEq, Nat.reduceAdd, Int.reduceNeg, and_self, B45_2, show ¬ (j : Int) < (W.length : Int) by omega]
    exact ⟨s, rfl, ⟨hMj.done, hle⟩, by omega⟩
end Go.Vc

namespace Go.Vc
set_option linter.unusedSimpArgs false
set_option linter.unusedVariables false
structure DF where
 signs : List ByteArray
 next : List (List Int)
 done : List (List Nat)
 deriving Inhabited
def addS (L : List (List Nat)) (T : List Nat) : List (List Nat) := if T = [] ∨ T ∈ L then L else L ++ [T]
def numS (L : List (List Nat)) (T : List Nat) : Int := if T = [] then -1 else (L.idxOf T : Int)
def rowL (n : NF) (S : List Nat) (L : List (List Nat)) : Nat → List (List Nat)
 | 0 => L
 | k + 1 => addS (rowL n S L k) (stepN n (toI S) (k : Int))
def rowN (n : NF) (S : List Nat) (L : List (List Nat)) : Nat → List Int
 | 0 => []
 | k + 1 => rowN n S L k ++ [numS (rowL n S L k) (stepN n (toI S) (k : Int))]
def doneOf (n : NF) (S : List Nat) : List Nat := (List.range n.beg.length).filter fun g => S.any fun s => decide (g ∈ n.done.getD s [])
def NF.wid (n : NF) : Nat := n.signs.length + 1
def bfsL (n : NF) : Nat → List (List Nat)
 | 0 => [closeN n (begI n)]
 | i + 1 => rowL n ((bfsL n i).getD i []) (bfsL n i) n.wid
def bfsN (n : NF) (k : Nat) : List (List Int) := (List.range k).map fun i => rowN n ((bfsL n i).getD i []) (bfsL n i) n.wid
def bfsD (n : NF) (k : Nat) : List (List Nat) := (List.range k).map fun i => doneOf n ((bfsL n i).getD i [])
def endD (n : NF) (most : Nat) : Nat → Nat → Option Nat
 | 0, _ => none
 | f + 1, i => if (bfsL n i).length ≤ i then some i else if most < (bfsL n (i + 1)).length then none else endD n most f (i + 1)
def dfaK (n : NF) (most : Nat) : Option Nat := endD n most (most + 2) 0
def dfaOf (n : NF) (k : Nat) : DF := ⟨n.signs, bfsN n k, bfsD n k⟩
theorem addS_pre (L : List (List Nat)) (T : List Nat) : L <+: addS L T := by
 unfold addS; split
 ·exact List.prefix_refl _
 ·exact List.prefix_append _ _
theorem rowL_pre (n : NF) (S : List Nat) (L : List (List Nat)) : ∀ {j k : Nat}, j ≤ k → rowL n S L j <+: rowL n S L k
 | j, 0, h => by
  obtain rfl : j = 0 := by omega
  exact List.prefix_refl _
 | j, k + 1, h => by
  rcases Nat.lt_or_ge j (k + 1) with h1 | h1
  ·exact (rowL_pre n S L (by omega : j ≤ k)).trans (addS_pre _ _)
  ·obtain rfl : j = k + 1 := by omega
   exact List.prefix_refl _
theorem bfsL_pre (n : NF) : ∀ {i j : Nat}, i ≤ j → bfsL n i <+: bfsL n j
 | i, 0, h => by
  obtain rfl : i = 0 := by omega
  exact List.prefix_refl _
 | i, j + 1, h => by
  rcases Nat.lt_or_ge i (j + 1) with h1 | h1
  ·exact (bfsL_pre n (by omega : i ≤ j)).trans (rowL_pre n _ _ (Nat.zero_le n.wid))
  ·obtain rfl : i = j + 1 := by omega
   exact List.prefix_refl _
theorem pre_get {α : Type} {L M : List α} {d : α} (h : L <+: M) {i : Nat} (hi : i < L.length) : M.getD i d = L.getD i d := by
 obtain ⟨X, rfl⟩ := h
 simp [List.getD_eq_getElem?_getD, List.getElem?_append_left hi]
theorem addS_mem {L : List (List Nat)} {T U : List Nat} : U ∈ addS L T ↔ U ∈ L ∨ (U = T ∧ T ≠ []) := by
 unfold addS; split
 ·rename_i h
  constructor
  ·exact .inl
  ·rintro (h1 | ⟨rfl, h1⟩)
   ·exact h1
   ·exact h.resolve_left h1
 ·rename_i h
  rw [not_or] at h
  simp only [List.mem_append, List.mem_singleton]
  constructor
  ·rintro (h1 | h1)
   ·exact .inl h1
   ·exact .inr ⟨h1, h.1⟩
  ·rintro (h1 | h1)
   ·exact .inl h1
   ·exact .inr h1.1
theorem rowL_mem {n : NF} {S : List Nat} {L : List (List Nat)} {U : List Nat} : ∀ {k : Nat}, U ∈ rowL n S L k ↔ U ∈ L ∨ ∃ a, a < k ∧ U = stepN n (toI S) (a : Int) ∧ U ≠ []
 | 0 => by simp [rowL]
 | k + 1 => by
  simp only [rowL]
  rw [addS_mem, rowL_mem]
  constructor
  ·rintro ((h | ⟨a, h1, h2⟩) | ⟨h1, h2⟩)
   ·exact .inl h
   ·exact .inr ⟨a, by omega, h2⟩
   ·exact .inr ⟨k, by omega, h1, h1 ▸ h2⟩
  ·rintro (h | ⟨a, h1, h2, h3⟩)
   ·exact .inl (.inl h)
   ·rcases Nat.lt_or_ge a k with h4 | h4
    ·exact .inl (.inr ⟨a, h4, h2, h3⟩)
    ·obtain rfl : a = k := by omega
     exact .inr ⟨h2, h2 ▸ h3⟩
theorem rowN_len (n : NF) (S : List Nat) (L : List (List Nat)) : ∀ k, (rowN n S L k).length = k
 | 0 => rfl
 | k + 1 => by simp [rowN, rowN_len n S L k]
theorem numS_pre {L M : List (List Nat)} {T : List Nat} (h : L <+: M) (hT : T = [] ∨ T ∈ L) : numS M T = numS L T := by
 unfold numS
 split
 ·rfl
 ·rename_i h1
  have h2 := hT.resolve_left h1
  obtain ⟨X, rfl⟩ := h
  rw [List.idxOf_append, if_pos h2]
theorem numS_add (L : List (List Nat)) (T : List Nat) : numS (addS L T) T = numS L T := by
 unfold numS
 split
 ·rfl
 ·rename_i h1
  unfold addS
  by_cases h2 : T ∈ L
  ·rw [if_pos (.inr h2)]
  ·rw [if_neg (by rw [not_or]; exact ⟨h1, h2⟩), List.idxOf_append, if_neg h2, List.idxOf_eq_length h2]; simp
theorem rowN_at {n : NF} {S : List Nat} {L : List (List Nat)} : ∀ {k a : Nat}, a < k → (rowN n S L k).getD a 0 = numS (rowL n S L k) (stepN n (toI S) (a : Int))
 | 0, a, h => by omega
 | k + 1, a, h => by
  have hl := rowN_len n S L k
  rcases Nat.lt_or_ge a k with h1 | h1
  ·rw [rowN, List.getD_eq_getElem?_getD, List.getElem?_append_left (by omega), ← List.getD_eq_getElem?_getD, rowN_at h1]
   have hmem : stepN n (toI S) (a : Int) = [] ∨ stepN n (toI S) (a : Int) ∈ rowL n S L k := by
    by_cases he : stepN n (toI S) (a : Int) = []
    ·exact .inl he
    ·exact .inr (rowL_mem.2 (.inr ⟨a, h1, rfl, he⟩))
   exact (numS_pre (rowL_pre n S L (Nat.le_succ k)) hmem).symm
  ·obtain rfl : a = k := by omega
   rw [rowN, List.getD_eq_getElem?_getD, List.getElem?_append_right (by omega), hl, Nat.sub_self]
   simp only [List.getElem?_cons_zero, Option.getD_some]
   exact (numS_add _ _).symm
theorem endD_spec {n : NF} {most : Nat} : ∀ {f i k : Nat}, endD n most f i = some k → i ≤ k ∧ (bfsL n k).length ≤ k ∧ (∀ j, i ≤ j → j < k → j < (bfsL n j).length ∧ (bfsL n (j + 1)).length ≤ most)
 | 0, _, _, h => by cases h
 | f + 1, i, k, h => by
  simp only [endD] at h
  split at h
  ·rename_i h1
   injection h with h; subst h
   exact ⟨Nat.le_refl _, h1, fun j h2 h3 => by omega⟩
  ·rename_i h1
   split at h
   ·cases h
   ·rename_i h2
    obtain ⟨h3, h4, h5⟩ := endD_spec h
    refine ⟨by omega, h4, fun j h6 h7 => ?_⟩
    rcases Nat.lt_or_ge i j with h8 | h8
    ·exact h5 j h8 h7
    ·obtain rfl : j = i := by omega
     exact ⟨by omega, by omega⟩
theorem bfsL_pos (n : NF) (i : Nat) : 0 < (bfsL n i).length := by
 exact Nat.lt_of_lt_of_le (by simp [bfsL]) (bfsL_pre n (Nat.zero_le i)).length_le
structure Whole (n : NF) (k : Nat) : Prop where
 len : (bfsL n k).length = k
 row : ∀ j, j < k → j < (bfsL n j).length
theorem dfaK_some {n : NF} {most k : Nat} (h : dfaK n most = some k) : Whole n k ∧ 1 ≤ k ∧ k ≤ most := by
 obtain ⟨_, h2, h3⟩ := endD_spec h
 have hp := bfsL_pos n k
 have h1 : 1 ≤ k := by omega
 obtain ⟨h5, h6⟩ := h3 (k - 1) (Nat.zero_le _) (by omega)
 have h7 := (bfsL_pre n (show k - 1 ≤ k by omega)).length_le
 rw [show k - 1 + 1 = k by omega] at h6
 exact ⟨⟨by omega, fun j hj => (h3 j (Nat.zero_le _) hj).1⟩, h1, by omega⟩
theorem Whole.get {n : NF} {k i j : Nat} (h : Whole n k) (hj : j < k) (hi : j ≤ i) (hik : i ≤ k) : (bfsL n i).getD j [] = (bfsL n k).getD j [] := by
 have h1 := h.row j hj
 have h2 := (bfsL_pre n hi).length_le
 exact (pre_get (bfsL_pre n hik) (by omega)).symm
theorem Whole.shut {n : NF} {k : Nat} (h : Whole n k) {S : List Nat} (hS : S ∈ bfsL n k) {a : Nat} (ha : a < n.wid) : stepN n (toI S) (a : Int) = [] ∨ stepN n (toI S) (a : Int) ∈ bfsL n k := by
 by_cases he : stepN n (toI S) (a : Int) = []
 ·exact .inl he
 ·right
  obtain ⟨j, hj, rfl⟩ := List.mem_iff_getElem.1 hS
  rw [h.len] at hj
  have hg := h.get hj (Nat.le_refl j) (by omega)
  have hg2 : (bfsL n k).getD j [] = (bfsL n k)[j] := by simp [List.getD_eq_getElem?_getD, h.len, hj]
  refine (bfsL_pre n (show j + 1 ≤ k by omega)).subset ?_
  simp only [bfsL]
  rw [hg, hg2]
  exact rowL_mem.2 (.inr ⟨a, ha, rfl, he⟩)
theorem Whole.walk {n : NF} {k : Nat} (h : Whole n k) (w : List ByteArray) : walkN n w = [] ∨ walkN n w ∈ bfsL n k := by
 rcases List.eq_nil_or_concat w with rfl | ⟨u, q, rfl⟩
 ·right
  refine (bfsL_pre n (Nat.zero_le k)).subset ?_
  simp [bfsL, walkN]
 ·rw [List.concat_eq_append, walkN_snoc]
  rcases Whole.walk h u with h1 | h1
  ·left
   rw [h1]
   unfold stepN
   split
   ·rfl
   ·exact closeN_nil n
  ·exact h.shut h1 (by unfold NF.wid; have := letterN_le n.signs q; omega)
termination_by w.length
decreasing_by subst_vars; simp
def stepD (d : DF) (at_ : Int) (q : ByteArray) : Int := if at_ < 0 then -1 else (d.next.getD at_.toNat []).getD (letterN d.signs q) 0
def runD (d : DF) (t : List ByteArray) : Int := t.foldl (stepD d) 0
theorem runD_snoc (d : DF) (t : List ByteArray) (q : ByteArray) : runD d (t ++ [q]) = stepD d (runD d t) q := by simp [runD]
def idxS (n : NF) (k : Nat) (t : List ByteArray) : Int := if walkN n t = [] ∧ t ≠ [] then -1 else ((bfsL n k).idxOf (walkN n t) : Int)
theorem walk_nil_step {n : NF} {t : List ByteArray} {q : ByteArray} (h : walkN n t = []) : walkN n (t ++ [q]) = [] := by
 rw [walkN_snoc, h]
 unfold stepN
 split
 ·rfl
 ·exact closeN_nil n
theorem idx_zero {n : NF} {k : Nat} : (bfsL n k).idxOf (walkN n []) = 0 := by
 obtain ⟨X, hX⟩ := bfsL_pre n (Nat.zero_le k)
 rw [← hX]
 simp [bfsL, walkN]
theorem runD_idx {n : NF} {k : Nat} (h : Whole n k) (t : List ByteArray) : runD (dfaOf n k) t = idxS n k t := by
 rcases List.eq_nil_or_concat t with rfl | ⟨u, q, rfl⟩
 ·unfold idxS
  rw [if_neg (by simp), idx_zero]; rfl
 ·rw [List.concat_eq_append, runD_snoc, runD_idx h u]
  unfold stepD
  by_cases hu : walkN n u = [] ∧ u ≠ []
  ·unfold idxS
   rw [if_pos hu, if_pos (by omega), if_pos ⟨walk_nil_step hu.1, by simp⟩]
  ·have hmem : walkN n u ∈ bfsL n k := by
    rcases h.walk u with h1 | h1
    ·obtain rfl : u = [] := by
      by_cases h2 : u = []
      ·exact h2
      ·exact absurd ⟨h1, h2⟩ hu
     refine (bfsL_pre n (Nat.zero_le k)).subset ?_
     simp [bfsL, walkN]
    ·exact h1
   have hj : (bfsL n k).idxOf (walkN n u) < k := by have := List.idxOf_lt_length_of_mem hmem; rwa [h.len] at this
   have hget : (bfsL n k).getD ((bfsL n k).idxOf (walkN n u)) [] = walkN n u := by
    rw [List.getD_eq_getElem?_getD, List.getElem?_eq_getElem (by rw [h.len]; exact hj)]
    simp
   have e1 : idxS n k u = ((bfsL n k).idxOf (walkN n u) : Int) := by unfold idxS; rw [if_neg hu]
   rw [e1, if_neg (by omega), Int.toNat_natCast]
   generalize hJ : (bfsL n k).idxOf (walkN n u) = j at hj hget
   have ha : letterN n.signs q < n.wid := by unfold NF.wid; have := letterN_le n.signs q; omega
   have hrow : (dfaOf n k).next.getD j [] = rowN n (walkN n u) (bfsL n j) n.wid := by
    have hg := h.get hj (Nat.le_refl j) (by omega)
    simp only [dfaOf, bfsN]
    rw [List.getD_eq_getElem?_getD, List.getElem?_map, List.getElem?_range hj]
    simp only [Option.map_some, Option.getD_some]
    rw [hg, hget]
   rw [hrow]
   show (rowN n (walkN n u) (bfsL n j) n.wid).getD (letterN n.signs q) 0 = _
   rw [rowN_at ha, ← walkN_snoc]
   have hpre : rowL n (walkN n u) (bfsL n j) n.wid <+: bfsL n k := by
    have e2 : rowL n (walkN n u) (bfsL n j) n.wid = bfsL n (j + 1) := by
     have hg := h.get hj (Nat.le_refl j) (by omega)
     simp only [bfsL]
     rw [hg, hget]
    rw [e2]
    exact bfsL_pre n (by omega)
   have hin : walkN n (u ++ [q]) = [] ∨ walkN n (u ++ [q]) ∈ rowL n (walkN n u) (bfsL n j) n.wid := by
    by_cases he : walkN n (u ++ [q]) = []
    ·exact .inl he
    ·exact .inr (rowL_mem.2 (.inr ⟨_, ha, by rw [walkN_snoc], he⟩))
   rw [← numS_pre hpre hin]
   unfold numS idxS
   by_cases he : walkN n (u ++ [q]) = []
   ·rw [if_pos he, if_pos ⟨he, by simp⟩]
   ·rw [if_neg he, if_neg (by rintro ⟨h1, _⟩; exact he h1)]
termination_by t.length
decreasing_by subst_vars; simp
def resD (d : DF) (t : List ByteArray) : List Nat := if runD d t < 0 then [] else d.done.getD (runD d t).toNat []
theorem resD_walk {n : NF} {k : Nat} (h : Whole n k) (t : List ByteArray) : resD (dfaOf n k) t = doneOf n (walkN n t) := by
 unfold resD
 rw [runD_idx h t]
 by_cases ht : walkN n t = [] ∧ t ≠ []
 ·unfold idxS
  rw [if_pos ht, if_pos (by omega), ht.1]
  simp [doneOf]
 ·have hmem : walkN n t ∈ bfsL n k := by
   rcases h.walk t with h1 | h1
   ·obtain rfl : t = [] := by
     by_cases h2 : t = []
     ·exact h2
     ·exact absurd ⟨h1, h2⟩ ht
    refine (bfsL_pre n (Nat.zero_le k)).subset ?_
    simp [bfsL, walkN]
   ·exact h1
  have hj : (bfsL n k).idxOf (walkN n t) < k := by have := List.idxOf_lt_length_of_mem hmem; rwa [h.len] at this
  have hget : (bfsL n k).getD ((bfsL n k).idxOf (walkN n t)) [] = walkN n t := by
   rw [List.getD_eq_getElem?_getD, List.getElem?_eq_getElem (by rw [h.len]; exact hj)]
   simp
  have e1 : idxS n k t = ((bfsL n k).idxOf (walkN n t) : Int) := by unfold idxS; rw [if_neg ht]
  rw [e1, if_neg (by omega), Int.toNat_natCast]
  generalize (bfsL n k).idxOf (walkN n t) = j at hj hget
  have hg := h.get hj (Nat.le_refl j) (by omega)
  simp only [dfaOf, bfsD]
  rw [List.getD_eq_getElem?_getD, List.getElem?_map, List.getElem?_range hj]
  simp only [Option.map_some, Option.getD_some]
  rw [hg, hget]
end Go.Vc

namespace Go.Vc
open Go.Proofs
set_option maxRecDepth 100000
def B49_0 : MC := (.seq (.reg [⟨some 11, none, .q (.bin .lss (.t 10) (.t 9))⟩] [] [2, 5, 8, 9, 10, 11] [2, 25, 1028, 1030, 2005]) (.seq (.cond (.t 11) .skip (.exit 0))
 (.seq (.block 1 (.seq (.reg [⟨some 12, none, .q (.ia (.t 8) (.t 10) 1)⟩, ⟨some 13, none, .q (.ld (.t 12) 1 false)⟩, ⟨some 7, none, .q (.mv (.t 13))⟩] [] [2, 5, 7, 8, 9, 10] [2, 25, 1028,
 1030, 2005]) (.seq (.reg [⟨some 14, none, .q (.mv (.t 7))⟩, ⟨some 15, none, .q (.fa (.t 2) 2)⟩, ⟨some 16, none, .q (.ld (.t 15) 1 false)⟩, ⟨some 17, none, .q (.len (.t 16) false)⟩,
 ⟨some 18, none, .q (.bin .lss (.t 14) (.t 17))⟩] [] [2, 5, 7, 8, 9, 10, 18] [2, 25, 1028, 1030, 2005]) (.cond (.t 18) (.reg [⟨some 19, none, .q (.mv (.t 5))⟩, ⟨some 20, none,
 .q (.fa (.t 2) 2)⟩, ⟨some 21, none, .q (.ld (.t 20) 1 false)⟩, ⟨some 22, none, .q (.mv (.t 7))⟩, ⟨some 23, none, .q (.ia (.t 21) (.t 22) 1)⟩, ⟨some 24, none, .q (.ld (.t 23)
 1 false)⟩, ⟨some 25, none, .app (.t 19) (.t 24) 1 8⟩, ⟨some 5, none, .q (.mv (.t 25))⟩] [] [2, 5, 8, 9, 10] [2, 25, 1028, 1030, 2005]) .skip)))) (.reg [⟨some 26, none,
 .q (.bin .add (.t 10) (.c (.int .i64 1)))⟩, ⟨some 10, none, .q (.mv (.t 26))⟩] [] [2, 5, 8, 9, 10] [2, 25, 1028, 1030, 2005]))))
def R49_0 : MC := (.seq (.reg [⟨some 27, none, .q (.mv (.t 5))⟩, ⟨some 28, none, .calls (.f 80) [.t 27]⟩] [] [5] [25, 1028, 1030, 2005]) (.seq (.reg [⟨some 29, none, .q (.mv (.t 5))⟩,
 ⟨some 30, none, .calls (.f 81) [.t 29]⟩, ⟨some 4, none, .q (.mv (.t 30))⟩] [(2005, 2005, 0)] [4] [25, 1028, 1030]) .ret))
def M49 : MC := (.seq (.reg [⟨some 2, none, .box (.t 0)⟩, ⟨some 4, none, .q (.mv .nil)⟩] [] [1, 2] [2]) (.seq (.reg [⟨some 5, none, .q (.mv .nil)⟩] [(5, 2005, 1)] [1, 2, 5] [2, 25, 1028,
 1030, 2005]) (.seq (.seq (.reg [⟨some 8, none, .q (.mv (.t 1))⟩, ⟨some 9, none, .q (.len (.t 8) false)⟩, ⟨some 10, none, .q (.mv (.c (.int .i64 0)))⟩] [] [2, 5, 8, 9, 10] [2, 25, 1028,
 1030, 2005]) (.block 0 (.loop B49_0))) R49_0)))
theorem mc49 : ofCode Tryz.prog [28, 30] Tryz.f49.ntmps [(0, ⟨[1, 2], [2], [], 0, [], none⟩),
  (1, ⟨[1, 2, 5], [2, 25, 1028, 1030, 2005], [], 0, [(5, 2005, 1)], none⟩),
  (2, ⟨[2, 5, 8, 9, 10], [2, 25, 1028, 1030, 2005], [], 0, [], none⟩),
  (3, ⟨[2, 5, 8, 9, 10, 11], [2, 25, 1028, 1030, 2005], [], 0, [], none⟩),
  (4, ⟨[2, 5, 7, 8, 9, 10], [2, 25, 1028, 1030, 2005], [], 0, [], none⟩),
  (5, ⟨[2, 5, 7, 8, 9, 10, 18], [2, 25, 1028, 1030, 2005], [], 0, [], none⟩),
  (6, ⟨[2, 5, 8, 9, 10], [2, 25, 1028, 1030, 2005], [], 0, [], none⟩),
  (7, ⟨[2, 5, 8, 9, 10], [2, 25, 1028, 1030, 2005], [], 0, [], none⟩),
  (8, ⟨[5], [25, 1028, 1030, 2005], [], 0, [], none⟩),
  (9, ⟨[4], [25, 1028, 1030], [], 0, [(2005, 2005, 0)], none⟩)] (Tryz.f49.body.getD .skip) = some M49 := by kernel_rfl
theorem Run49 {args : List PV} {v : AV} {rs : List (Nat × List PV)} (ids : List Bool) (h : args.length ≤ 31) (hv : run Tryz.prog (retK [RV.tmp 4] ids v rs) M49 [] ⟨entry 0 args, []⟩) : Fn Tryz.prog 49 args v rs :=
 Fn_run ids (by kernel_rfl) Tryz.func49 (by decide) rfl mc49 (by kernel_rfl) (by rw [Tryz.ntmps49]; exact h) (by rw [Tryz.ntmps49]; decide) hv
def B81_1 : MC := (.seq (.seq (.reg [⟨some 29, none, .q (.mv (.t 5))⟩, ⟨some 30, none, .q (.mv (.t 4))⟩, ⟨some 31, none, .q (.len (.t 30) false)⟩, ⟨some 32, none, .q (.bin .lss (.t 29)
 (.t 31))⟩] [] [0, 3, 4, 5, 32] [200000]) (.cond (.t 32) .skip (.exit 2))) (.seq (.block 3 (.seq (.reg [⟨some 35, none, .q (.mv (.t 4))⟩, ⟨some 36, none, .q (.mv (.t 5))⟩, ⟨some 37, none,
 .q (.ia (.t 35) (.t 36) 1)⟩, ⟨some 38, none, .q (.ld (.t 37) 1 false)⟩, ⟨some 39, none, .q (.mv (.t 4))⟩, ⟨some 40, none, .q (.mv (.t 5))⟩, ⟨some 41, none, .q (.bin .sub (.t 40)
 (.c (.int .i64 1)))⟩, ⟨some 42, none, .q (.ia (.t 39) (.t 41) 1)⟩, ⟨some 43, none, .q (.ld (.t 42) 1 false)⟩, ⟨some 44, none, .q (.bin .neq (.t 38) (.t 43))⟩] [] [0, 3, 4, 5,
 44] [200000]) (.cond (.t 44) (.seq (.reg [⟨some 45, none, .q (.mv (.t 0))⟩, ⟨some 46, none, .q (.mv (.t 3))⟩, ⟨some 47, none, .q (.mv (.t 4))⟩, ⟨some 48, none, .q (.mv (.t 5))⟩,
 ⟨some 49, none, .q (.ia (.t 47) (.t 48) 1)⟩, ⟨some 50, none, .q (.ld (.t 49) 1 false)⟩, ⟨some 51, none, .q (.ia (.t 45) (.t 46) 1)⟩, ⟨none, none, .st (.t 51) (.t 50) 1⟩] [] [0, 3, 4,
 5] [200000]) (.reg [⟨some 52, none, .q (.mv (.t 3))⟩, ⟨some 53, none, .q (.bin .add (.t 52) (.c (.int .i64 1)))⟩, ⟨some 3, none, .q (.mv (.t 53))⟩] [] [0, 3, 4, 5] [200000])) .skip)))
 (.reg [⟨some 33, none, .q (.mv (.t 5))⟩, ⟨some 34, none, .q (.bin .add (.t 33) (.c (.int .i64 1)))⟩, ⟨some 5, none, .q (.mv (.t 34))⟩] [] [0, 3, 4, 5] [200000])))
def R81_1 : MC := (.seq (.reg [⟨some 54, none, .q (.mv (.t 0))⟩, ⟨some 55, none, .q (.mv (.t 3))⟩, ⟨some 56, none, .q (.slc (.t 54) (some (.t 55)) none 1 false)⟩, ⟨none, none,
 .clr (.t 56) 1 (.sc (.int .i64 0))⟩] [] [0, 3] [200000]) (.seq (.reg [⟨some 57, none, .q (.mv (.t 0))⟩, ⟨some 58, none, .q (.mv (.t 3))⟩, ⟨some 59, none, .q (.slc (.t 57)
 none (some (.t 58)) 1 false)⟩, ⟨some 2, none, .q (.mv (.t 59))⟩] [] [2] [200000]) .ret))
def B81_0 : MC := (.seq (.seq (.reg [⟨some 10, none, .q (.mv (.t 3))⟩, ⟨some 11, none, .q (.mv (.t 0))⟩, ⟨some 12, none, .q (.len (.t 11) false)⟩, ⟨some 13, none, .q (.bin .lss (.t 10)
 (.t 12))⟩] [] [0, 3, 13] [200000]) (.cond (.t 13) .skip (.exit 0))) (.seq (.block 1 (.seq (.reg [⟨some 16, none, .q (.mv (.t 0))⟩, ⟨some 17, none, .q (.mv (.t 3))⟩, ⟨some 18, none,
 .q (.ia (.t 16) (.t 17) 1)⟩, ⟨some 19, none, .q (.ld (.t 18) 1 false)⟩, ⟨some 20, none, .q (.mv (.t 0))⟩, ⟨some 21, none, .q (.mv (.t 3))⟩, ⟨some 22, none, .q (.bin .sub (.t 21)
 (.c (.int .i64 1)))⟩, ⟨some 23, none, .q (.ia (.t 20) (.t 22) 1)⟩, ⟨some 24, none, .q (.ld (.t 23) 1 false)⟩, ⟨some 25, none, .q (.bin .eql (.t 19) (.t 24))⟩] [] [0, 3, 25] [200000])
 (.cond (.t 25) (.seq (.reg [⟨some 26, none, .q (.mv (.t 0))⟩, ⟨some 27, none, .q (.mv (.t 3))⟩, ⟨some 28, none, .q (.slc (.t 26) (some (.t 27)) none 1 false)⟩, ⟨some 4, none,
 .q (.mv (.t 28))⟩] [] [0, 3, 4] [200000]) (.seq (.seq (.reg [⟨some 5, none, .q (.mv (.c (.int .i64 1)))⟩] [] [0, 3, 4, 5] [200000]) (.block 2 (.loop B81_1))) R81_1)) .skip)))
 (.reg [⟨some 14, none, .q (.mv (.t 3))⟩, ⟨some 15, none, .q (.bin .add (.t 14) (.c (.int .i64 1)))⟩, ⟨some 3, none, .q (.mv (.t 15))⟩] [] [0, 3] [200000])))
def R81_0 : MC := (.seq (.reg [⟨some 60, none, .q (.mv (.t 0))⟩, ⟨some 2, none, .q (.mv (.t 60))⟩] [] [2] [200000]) .ret)
def M81 : MC := (.seq (.reg [⟨some 2, none, .q (.mv .nil)⟩] [] [0] [200000]) (.seq (.seq (.reg [⟨some 6, none, .q (.mv (.t 0))⟩, ⟨some 7, none, .q (.len (.t 6) false)⟩, ⟨some 8, none,
 .q (.bin .lss (.t 7) (.c (.int .i64 2)))⟩] [] [0, 8] [200000]) (.cond (.t 8) (.seq (.reg [⟨some 9, none, .q (.mv (.t 0))⟩, ⟨some 2, none, .q (.mv (.t 9))⟩] [] [2] [200000]) .ret) .skip))
 (.seq (.seq (.reg [⟨some 3, none, .q (.mv (.c (.int .i64 1)))⟩] [] [0, 3] [200000]) (.block 0 (.loop B81_0))) R81_0)))
theorem mc81 : ofCode Tryz.prog [] Tryz.f81.ntmps [(0, ⟨[0], [200000], [], 0, [], none⟩),
  (1, ⟨[0, 8], [200000], [], 0, [], none⟩),
  (2, ⟨[2], [200000], [], 0, [], none⟩),
  (3, ⟨[0, 3], [200000], [], 0, [], none⟩),
  (4, ⟨[0, 3, 13], [200000], [], 0, [], none⟩),
  (5, ⟨[0, 3], [200000], [], 0, [], none⟩),
  (6, ⟨[0, 3, 25], [200000], [(0, 525), (1, 526), (2, 524), (3, 520), (4, 912), (5, 992), (6, 960), (7, 896), (8, 768), (9, 512)], 1023, [], none⟩),
  (7, ⟨[0, 3, 4], [200000], [], 0, [], none⟩),
  (8, ⟨[0, 3, 4, 5], [200000], [], 0, [], none⟩),
  (9, ⟨[0, 3, 4, 5, 32], [200000], [], 0, [], none⟩),
  (10, ⟨[0, 3, 4, 5], [200000], [], 0, [], none⟩),
  (11, ⟨[0, 3, 4, 5, 44], [200000], [(0, 525), (1, 526), (2, 524), (3, 520), (4, 912), (5, 992), (6, 960), (7, 896), (8, 768), (9, 512)], 1023, [], none⟩),
  (12, ⟨[0, 3, 4, 5], [200000], [], 0, [], none⟩),
  (13, ⟨[0, 3, 4, 5], [200000], [], 0, [], none⟩),
  (14, ⟨[0, 3], [200000], [], 0, [], none⟩),
  (15, ⟨[2], [200000], [], 0, [], none⟩),
  (16, ⟨[2], [200000], [], 0, [], none⟩)] (Tryz.f81.body.getD .skip) = some M81 := by kernel_rfl
theorem RunS81 {args : List AV} {st st' : List (Nat × Row)} {v : AV} (h : args.length ≤ 61) (hk : (st'.map (·.1)).Nodup) (hv : run Tryz.prog (retS [RV.tmp 2] v st') M81 [] ⟨entryA 0 args, st⟩) : FnS Tryz.prog 81 args st v st' :=
 FnS_run (by kernel_rfl) Tryz.func81 (by decide) rfl mc81 (by kernel_rfl) (by rw [Tryz.ntmps81]; exact h) (by rw [Tryz.ntmps81]; decide) hk hv
end Go.Vc

namespace Go.Vc
open Go.Proofs
set_option linter.unusedSimpArgs false
set_option linter.unusedVariables false
structure NF.Dn (n : NF) : Prop where
 lt : ∀ s s' g g', s < s' → g ∈ n.done.getD s [] → g' ∈ n.done.getD s' [] → g < g'
 one : ∀ s, (n.done.getD s []).length ≤ 1
 glob : ∀ s g, g ∈ n.done.getD s [] → g < n.beg.length
theorem done_at {gs : List (List ByteArray)} {s g : Nat} (h : g ∈ (nfaOf gs).done.getD s []) : ∃ hg : g < gs.length, s = base gs g + gs[g].length := by
 have hd : (nfaOf gs).done = doneG 0 gs := rfl
 rw [hd] at h
 rcases Nat.lt_or_ge s (base gs gs.length) with hs | hs
 ·obtain ⟨i, hi, _, k, hk, rfl⟩ := base_split _ (Nat.le_refl _) s hs
  rw [doneG_at gs 0 i k hi hk] at h
  split at h
  ·rename_i he
   simp only [Nat.zero_add, List.mem_singleton] at h
   subst h
   exact ⟨hi, by rw [he]⟩
  ·cases h
 ·rw [List.getD_eq_getElem?_getD, List.getElem?_eq_none (by rw [doneG_len]; omega)] at h
  cases h
theorem dn_nfa (gs : List (List ByteArray)) : (nfaOf gs).Dn where
 lt := fun s s' g g' hlt h h' => by
  obtain ⟨h1, e1⟩ := done_at h
  obtain ⟨h2, e2⟩ := done_at h'
  rcases Nat.lt_trichotomy g g' with h3 | h3 | h3
  ·exact h3
  ·subst h3; omega
  ·have := base_mono (gs := gs) h3 (by omega)
   omega
 one := fun s => by
  have hd : (nfaOf gs).done = doneG 0 gs := rfl
  rw [hd]
  rcases Nat.lt_or_ge s (base gs gs.length) with hs | hs
  ·obtain ⟨i, hi, _, k, hk, rfl⟩ := base_split _ (Nat.le_refl _) s hs
   rw [doneG_at gs 0 i k hi hk]
   split <;> simp
  ·rw [List.getD_eq_getElem?_getD, List.getElem?_eq_none (by rw [doneG_len]; omega)]; simp
 glob := fun s g h => by
  obtain ⟨h1, _⟩ := done_at h
  simp [nfaOf]; exact h1
def flatD (n : NF) (S : List Nat) : List Nat := S.flatMap fun s => n.done.getD s []
theorem flatD_ris {n : NF} (hn : n.Dn) {S : List Nat} (h : S.Pairwise (· < ·)) : (flatD n S).Pairwise (· < ·) := by
 unfold flatD
 rw [List.pairwise_flatMap]
 refine ⟨fun s _ => ?_, h.imp fun {a b} hab x hx y hy => hn.lt a b x y hab hx hy⟩
 have := hn.one s
 match hD : n.done.getD s [], this with
 | [], _ => simp
 | [x], _ => simp
 | x :: y :: r, h => simp at h
theorem flatD_eq {n : NF} (hn : n.Dn) {S : List Nat} (h : S.Pairwise (· < ·)) : flatD n S = doneOf n S := by
 refine risI_ext (flatD_ris hn h) (range_filter_ris _ _) fun g => ?_
 unfold flatD doneOf
 rw [List.mem_flatMap, List.mem_filter, List.mem_range, List.any_eq_true]
 constructor
 ·rintro ⟨s, h1, h2⟩
  exact ⟨hn.glob s g h2, s, h1, by simpa using h2⟩
 ·rintro ⟨_, s, h1, h2⟩
  exact ⟨s, h1, by simpa using h2⟩
theorem flatD_len {n : NF} (hn : n.Dn) : ∀ S : List Nat, (flatD n S).length ≤ S.length
 | [] => by simp [flatD]
 | s :: S => by
  have := flatD_len hn S
  have h2 := hn.one s
  unfold flatD at *
  rw [List.flatMap_cons, List.length_append, List.length_cons]
  omega
theorem fnS81 (d : List Nat) (hd : d.length ≤ 100000) (hr : d.Pairwise (· < ·)) :
  FnS Tryz.prog 81 [.row 200000 0 d.length] [(200000, .sl 1 ((toI d).map fun n => pI n))] (.row 200000 0 d.length) [(200000, .sl 1 ((toI d).map fun n => pI n))] := by
 refine RunS81 (by simp) (by simp) ?_
 simp only [go_sem, Nat.reduceEqDiff, reduceCtorEq, and_self, M81]
 intro h2
 refine run_loop (T := Nat) (fun k => ⟨[(0, .row 200000 0 d.length), (3, .pv (pI k))], [(200000, .sl 1 ((toI d).map fun n => pI n))]⟩) (fun k => 1 ≤ k ∧ k ≤ d.length) (fun k => d.length - k) 1 rfl ⟨by omega, by omega⟩ ?_
 rintro k ⟨h1, hk⟩
 by_cases hlt : k < d.length
 ·have e1 : ((k : Int) - 1).toNat = k - 1 := by omega
  have hA : (toI d)[k]'(by simp [toI]; exact hlt) = (d[k] : Int) := by simp [toI]
  have hB : (toI d)[k - 1]'(by simp [toI]; omega) = (d[k - 1] : Int) := by simp [toI]
  have hne := List.pairwise_iff_getElem.1 hr (k - 1) k (by omega) hlt (by omega)
  simp only [go_sem, Nat.reduceEqDiff, reduceCtorEq, Int.reduceNeg, and_self, B81_0, R81_0, show (k : Int) < (d.length : Int) by omega, show (toI d).length = d.length by simp [toI], e1, getD_map (show k < (toI d).length by simp [toI]; exact hlt), getD_map (show k - 1 < (toI d).length by simp [toI]; omega), hA, hB, show ¬ ((d[k] : Int) = (d[k - 1] : Int)) by omega]
  exact ⟨hlt, ⟨by omega, by omega⟩, by omega, by omega, ⟨by omega, by omega⟩, k + 1, rfl, ⟨by omega, by omega⟩, by omega⟩
 ·simp only [go_sem, Nat.reduceEqDiff, reduceCtorEq, Int.reduceNeg, and_self, B81_0, R81_0, show ¬ (k : Int) < (d.length : Int) by omega]
theorem flatD_take {n : NF} {S : List Nat} {i : Nat} (h : i < S.length) : flatD n (S.take (i + 1)) = flatD n (S.take i) ++ n.done.getD S[i] [] := by
 unfold flatD
 rw [List.take_succ_eq_append_getElem h, List.flatMap_append]
 simp
theorem fn49 (n : NF) (S : List Nat) (hn : n.Dn) (hS : S.Pairwise (· < ·)) (hl : S.length ≤ 1000) (hd : n.done.length ≤ 1000) : Fn Tryz.prog 49 [pNf n, pNs S] (.pv (pNs (doneOf n S))) [] := by
 refine Run49 [] (by simp) ?_
 simp only [go_sem, Nat.reduceEqDiff, Nat.reduceBEq, Nat.reduceLT, reduceCtorEq, and_self, M49]
 refine run_loopN (T := Nat) [2, 5, 8, 9, 10] [2, 2005] (fun i => ⟨[(2, .ptr 2 0), (5, .row 2005 0 (flatD n (S.take i)).length), (8, .pv (pNs S)), (9, .pv (pI S.length)), (10, .pv (pI i))], [(2, .box (nBox n)), (2005, .sl 1 ((toI (flatD n (S.take i))).map fun n => pI n))]⟩)
  (fun i => i ≤ S.length) (fun i => S.length - i) 0 ?_ (Nat.zero_le _) ?_
 ·simp only [go_sem, Nat.reduceEqDiff, Int.cast_ofNat_Int]
  simp [toI, flatD]
 intro i hi
 have hfl := flatD_len hn (S.take i)
 rw [List.length_take] at hfl
 by_cases hlt : i < S.length
 ·have hx : (toI S)[i]'(by simp [toI]; exact hlt) = (S[i] : Int) := by simp [toI]
  have hft := flatD_take (n := n) hlt
  have tk : List.take (flatD n (S.take i)).length ((toI (flatD n (S.take i))).map fun n => pI n) = (toI (flatD n (S.take i))).map fun n => pI n := List.take_of_length_le (by simp [toI])
  have h1 := hn.one S[i]
  generalize S[i] = s at hx hft h1
  by_cases hin : s < n.done.length
  ·obtain ⟨D, hD⟩ : ∃ D, D = n.done.getD s [] := ⟨_, rfl⟩
   have hDg : n.done[s] = D := by rw [hD]; simp [List.getD_eq_getElem?_getD, hin]
   rw [← hD] at h1 hft
   simp only [go_sem, Nat.reduceEqDiff, Nat.reduceBEq, Nat.reduceAdd, Nat.reduceLeDiff, Nat.reduceLT, Int.reduceNeg, and_self, B49_0, show (i : Int) < (S.length : Int) by omega, show (toI S).length = S.length by simp [toI], wf_ints, getD_map (show i < (toI S).length by simp [toI]; exact hlt), hx, show (s : Int) < (n.done.length : Int) by omega, getD_map hin, wf_pNs, hDg, tk]
   have hdl : (toI D).length = D.length := by simp [toI]
   rw [hdl]
   refine ⟨⟨by omega, by omega⟩, ⟨by omega, by omega⟩, i + 1, ?_, hlt, by omega⟩
   rw [hft, toI_app, List.map_append, List.length_append]; rfl
  ·have h0 : n.done.getD s [] = [] := by rw [List.getD_eq_getElem?_getD, List.getElem?_eq_none (by omega)]; rfl
   rw [h0, List.append_nil] at hft
   simp only [go_sem, Nat.reduceEqDiff, Nat.reduceBEq, Nat.reduceAdd, Nat.reduceLeDiff, Nat.reduceLT, Int.reduceNeg, and_self, B49_0, show (i : Int) < (S.length : Int) by omega, show (toI S).length = S.length by simp [toI], wf_ints, getD_map (show i < (toI S).length by simp [toI]; exact hlt), hx, show ¬ (s : Int) < (n.done.length : Int) by omega]
   exact ⟨⟨by omega, by omega⟩, i + 1, by rw [hft]; rfl, hlt, by omega⟩
 ·have hie : i = S.length := by omega
  subst hie
  rw [List.take_length, flatD_eq hn hS]
  rw [List.take_length, flatD_eq hn hS] at hfl
  have hr : (doneOf n S).Pairwise (· < ·) := range_filter_ris _ _
  generalize doneOf n S = D at hfl hr
  simp only [go_sem, Nat.reduceEqDiff, Nat.reduceBEq, Nat.reduceAdd, Nat.reduceLeDiff, Nat.reduceLT, Int.reduceNeg, and_self, B49_0, R49_0, show ¬ (S.length : Int) < (S.length : Int) by omega]
  have hS2 := fnS80 (toI D) (by simp [toI]; omega) 200001
  rw [show srtI (toI D) = toI D from sort_ris (hr.imp fun h => by omega) hr (fun _ => Iff.rfl), show (toI D).length = D.length by simp [toI]] at hS2
  refine runR_calls (fun n => if n = 200001 then 2005 else n) (by simp only [go_sem, Nat.reduceEqDiff, and_self]) (by simp only [go_sem, Nat.reduceEqDiff] <;> rfl) hS2 rfl (by intro e he; simp only [List.mem_cons, List.not_mem_nil, or_false] at he; rcases he with rfl <;> simp only [go_sem]) (by simp) (by simp) (by simp) (by intro e he h9; simp only [List.mem_cons, List.not_mem_nil, or_false] at he; rcases he with rfl <;> simp) ?_
  simp only [go_sem, Nat.reduceEqDiff, Nat.reduceBEq, Nat.reduceLT, and_self]
  refine runR_calls (fun n => if n = 200000 then 2005 else n) (by simp only [go_sem, Nat.reduceEqDiff, and_self]) (by simp only [go_sem, Nat.reduceEqDiff] <;> rfl) (fnS81 D (by omega) hr) rfl (by intro e he; simp only [List.mem_cons, List.not_mem_nil, or_false] at he; rcases he with rfl <;> simp only [go_sem]) (by simp) (by simp) (by simp) (by intro e he h9; simp only [List.mem_cons, List.not_mem_nil, or_false] at he; rcases he with rfl <;> simp) ?_
  simp only [go_sem, Nat.reduceEqDiff, and_self]
  rw [List.take_of_length_le (by simp [toI])]
end Go.Vc
