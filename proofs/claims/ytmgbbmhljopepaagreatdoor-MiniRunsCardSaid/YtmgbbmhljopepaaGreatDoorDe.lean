/- A part of the proofs of the seat YtmgbbmhljopepaaGreatDoor: the contracts of functions, each proved out of its code. -/
import Derived.Test.YtmgbbmhljopepaaGreatDoorVh
import Derived.Test.YtmgbbmhljopepaaGreatDoorProg
import Derived.Test.YtmgbbmhljopepaaGreatDoorDd
namespace Go.Vc
open Go.Proofs
set_option maxRecDepth 100000
def B13_0 : MC := (.seq (.reg [⟨some 18, none, .q (.bin .lss (.t 17) (.t 16))⟩] [] [0, 2, 15, 16, 17, 18] [2, 42, 57, 62, 68, 75, 1027]) (.seq (.cond (.t 18) .skip (.exit 0))
 (.seq (.block 1 (.seq (.reg [⟨some 19, none, .q (.ia (.t 15) (.t 17) 1)⟩, ⟨some 20, none, .q (.ld (.t 19) 1 false)⟩, ⟨some 5, none, .q (.mv (.t 20))⟩] [] [0, 2, 5, 15, 16, 17] [2, 42,
 57, 62, 68, 75, 1027]) (.seq (.reg [⟨some 21, none, .q (.mv (.t 5))⟩, ⟨some 22, none, .call (.f 39) [.t 21]⟩, ⟨some 23, none, .q (.not (.t 22))⟩] [] [0, 2, 15, 16, 17, 23] [2, 42, 57,
 62, 68, 75, 1022, 1027]) (.cond (.t 23) (.seq (.reg [⟨some 24, none, .q (.mk [.e0, .e0, .e0, .e0] [])⟩, ⟨none, none, .st (.t 2) (.t 24) 4⟩, ⟨some 3, none,
 .q (.mv (.c (.int .i64 1)))⟩] [] [2, 3] [2, 42, 57, 62, 68, 75, 1027]) .ret) .skip)))) (.reg [⟨some 25, none, .q (.bin .add (.t 17) (.c (.int .i64 1)))⟩, ⟨some 17, none,
 .q (.mv (.t 25))⟩] [] [0, 2, 15, 16, 17] [2, 42, 57, 62, 68, 75, 1027]))))
def B13_2 : MC := (.seq (.reg [⟨some 48, none, .q (.bin .lss (.t 47) (.t 46))⟩] [] [2, 6, 7, 29, 30, 31, 45, 46, 47, 48] [2, 6, 42, 57, 62, 68, 75, 1027, 1045]) (.seq (.cond (.t 48)
 .skip (.exit 4)) (.seq (.block 5 (.seq (.reg [⟨some 49, none, .q (.ia (.t 45) (.t 47) 1)⟩, ⟨some 50, none, .q (.ld (.t 49) 1 false)⟩, ⟨some 10, none, .q (.mv (.t 50))⟩] [] [2, 6, 7, 10,
 29, 30, 31, 45, 46, 47] [2, 6, 42, 57, 62, 68, 75, 1027, 1045]) (.seq (.reg [⟨some 51, none, .q (.fa (.t 6) 1)⟩, ⟨some 52, none, .q (.ld (.t 51) 1 false)⟩, ⟨some 53, none, .q (.ld (.t 6)
 4 true)⟩, ⟨some 54, none, .q (.mv (.t 10))⟩, ⟨some 55, none, .call (.f 42) [.t 53, .t 54]⟩, ⟨some 56, none, .lits [.t 55] 1⟩, ⟨some 57, none, .app (.t 52) (.t 56) 1 24⟩,
 ⟨some 58, none, .q (.fa (.t 6) 1)⟩, ⟨none, none, .st (.t 58) (.t 57) 1⟩] [] [2, 6, 7, 29, 30, 31, 45, 46, 47] [2, 6, 42, 57, 62, 68, 75, 1027, 1045]) (.reg [⟨some 59, none, .q (.fa (.t 6)
 2)⟩, ⟨some 60, none, .q (.ld (.t 59) 1 false)⟩, ⟨some 61, none, .lits [.nil] 1⟩, ⟨some 62, none, .app (.t 60) (.t 61) 1 24⟩, ⟨some 63, none, .q (.fa (.t 6) 2)⟩, ⟨none, none,
 .st (.t 63) (.t 62) 1⟩] [] [2, 6, 7, 29, 30, 31, 45, 46, 47] [2, 6, 42, 57, 62, 68, 75, 1027, 1045])))) (.reg [⟨some 64, none, .q (.bin .add (.t 47) (.c (.int .i64 1)))⟩, ⟨some 47, none,
 .q (.mv (.t 64))⟩] [] [2, 6, 7, 29, 30, 31, 45, 46, 47] [2, 6, 42, 57, 62, 68, 75, 1027, 1045]))))
def R13_2 : MC := (.seq (.reg [⟨some 65, none, .q (.fa (.t 6) 1)⟩, ⟨some 66, none, .q (.ld (.t 65) 1 false)⟩, ⟨some 67, none, .lits [.nil] 1⟩, ⟨some 68, none, .app (.t 66) (.t 67)
 1 24⟩, ⟨some 69, none, .q (.fa (.t 6) 1)⟩, ⟨none, none, .st (.t 69) (.t 68) 1⟩] [] [2, 6, 7, 29, 30, 31] [2, 6, 42, 57, 62, 68, 75, 1027]) (.reg [⟨some 70, none, .q (.fa (.t 6) 2)⟩,
 ⟨some 71, none, .q (.ld (.t 70) 1 false)⟩, ⟨some 72, none, .q (.mv (.t 7))⟩, ⟨some 73, none, .lits [.t 72] 1⟩, ⟨some 74, none, .lits [.t 73] 1⟩, ⟨some 75, none, .app (.t 71)
 (.t 74) 1 24⟩, ⟨some 76, none, .q (.fa (.t 6) 2)⟩, ⟨none, none, .st (.t 76) (.t 75) 1⟩] [] [2, 6, 29, 30, 31] [2, 6, 42, 57, 62, 68, 75, 1027]))
def B13_1 : MC := (.seq (.reg [⟨some 32, none, .q (.bin .lss (.t 31) (.t 30))⟩] [] [2, 6, 29, 30, 31, 32] [2, 6, 42, 57, 62, 68, 75, 1027]) (.seq (.cond (.t 32) .skip (.exit 2))
 (.seq (.block 3 (.seq (.reg [⟨some 33, none, .q (.mv (.t 31))⟩, ⟨some 34, none, .q (.ia (.t 29) (.t 31) 1)⟩, ⟨some 35, none, .q (.ld (.t 34) 1 false)⟩, ⟨some 7, none,
 .q (.mv (.t 33))⟩, ⟨some 8, none, .q (.mv (.t 35))⟩] [] [2, 6, 7, 8, 29, 30, 31] [2, 6, 42, 57, 62, 68, 75, 1027]) (.seq (.reg [⟨some 36, none, .q (.fa (.t 6) 3)⟩, ⟨some 37, none,
 .q (.ld (.t 36) 1 false)⟩, ⟨some 38, none, .q (.fa (.t 6) 1)⟩, ⟨some 39, none, .q (.ld (.t 38) 1 false)⟩, ⟨some 40, none, .q (.len (.t 39) false)⟩, ⟨some 41, none,
 .lits [.t 40] 1⟩, ⟨some 42, none, .app (.t 37) (.t 41) 1 8⟩, ⟨some 43, none, .q (.fa (.t 6) 3)⟩, ⟨none, none, .st (.t 43) (.t 42) 1⟩] [] [2, 6, 7, 8, 29, 30, 31] [2, 6, 42, 57, 62, 68,
 75, 1027]) (.seq (.seq (.reg [⟨some 44, none, .q (.mv (.t 8))⟩, ⟨some 45, none, .call (.f 41) [.t 44]⟩, ⟨some 46, none, .q (.len (.t 45) false)⟩, ⟨some 47, none,
 .q (.mv (.c (.int .i64 0)))⟩] [] [2, 6, 7, 29, 30, 31, 45, 46, 47] [2, 6, 42, 57, 62, 68, 75, 1027, 1045]) (.block 4 (.loop B13_2))) R13_2)))) (.reg [⟨some 77, none, .q (.bin .add (.t 31)
 (.c (.int .i64 1)))⟩, ⟨some 31, none, .q (.mv (.t 77))⟩] [] [2, 6, 29, 30, 31] [2, 6, 42, 57, 62, 68, 75, 1027]))))
def R13_1 : MC := (.seq (.reg [⟨some 78, none, .q (.ld (.t 6) 4 true)⟩, ⟨none, none, .st (.t 2) (.t 78) 4⟩, ⟨some 3, none, .q (.mv (.c (.int .i64 0)))⟩] [] [2, 3] [2, 42, 57, 62, 68, 75,
 1027]) .ret)
def R13_0 : MC := (.seq (.reg [⟨some 26, none, .q (.mv (.t 0))⟩, ⟨some 27, none, .call (.f 40) [.t 26]⟩, ⟨some 28, none, .q (.mk [.e0, .e0, .e0, .e0] [(0, 1, (.t 27))])⟩, ⟨some 6,
 none, .alloc [.e0, .e0, .e0, .e0]⟩, ⟨none, none, .st (.t 6) (.t 28) 4⟩] [] [0, 2, 6] [2, 6, 42, 57, 62, 68, 75, 1027]) (.seq (.seq (.reg [⟨some 29, none, .q (.mv (.t 0))⟩, ⟨some 30, none,
 .q (.len (.t 29) false)⟩, ⟨some 31, none, .q (.mv (.c (.int .i64 0)))⟩] [] [2, 6, 29, 30, 31] [2, 6, 42, 57, 62, 68, 75, 1027]) (.block 2 (.loop B13_1))) R13_1))
def M13 : MC := (.seq (.reg [⟨some 2, none, .alloc [.e0, .e0, .e0, .e0]⟩, ⟨some 3, none, .q (.mv (.c (.int .i64 0)))⟩] [] [0, 2] [2, 42, 57, 62, 68, 75, 1027]) (.seq (.seq (.reg [⟨some 11,
 none, .q (.mv (.t 0))⟩, ⟨some 12, none, .q (.len (.t 11) false)⟩, ⟨some 13, none, .q (.bin .gtr (.t 12) (.c (.int .i64 20)))⟩] [] [0, 2, 13] [2, 42, 57, 62, 68, 75, 1027]) (.cond (.t 13)
 (.seq (.reg [⟨some 14, none, .q (.mk [.e0, .e0, .e0, .e0] [])⟩, ⟨none, none, .st (.t 2) (.t 14) 4⟩, ⟨some 3, none, .q (.mv (.c (.int .i64 1)))⟩] [] [2, 3] [2, 42, 57, 62, 68, 75, 1027])
 .ret) .skip)) (.seq (.seq (.reg [⟨some 15, none, .q (.mv (.t 0))⟩, ⟨some 16, none, .q (.len (.t 15) false)⟩, ⟨some 17, none, .q (.mv (.c (.int .i64 0)))⟩] [] [0, 2, 15, 16, 17] [2, 42,
 57, 62, 68, 75, 1027]) (.block 0 (.loop B13_0))) R13_0)))
theorem mc13 : ofCode Tryz.prog [] Tryz.f13.ntmps [(0, ⟨[0, 2], [2, 42, 57, 62, 68, 75, 1027], [], 0, [], none⟩),
  (1, ⟨[0, 2, 13], [2, 42, 57, 62, 68, 75, 1027], [], 0, [], none⟩),
  (2, ⟨[2, 3], [2, 42, 57, 62, 68, 75, 1027], [], 0, [], none⟩),
  (3, ⟨[0, 2, 15, 16, 17], [2, 42, 57, 62, 68, 75, 1027], [], 0, [], none⟩),
  (4, ⟨[0, 2, 15, 16, 17, 18], [2, 42, 57, 62, 68, 75, 1027], [], 0, [], none⟩),
  (5, ⟨[0, 2, 5, 15, 16, 17], [2, 42, 57, 62, 68, 75, 1027], [], 0, [], none⟩),
  (6, ⟨[0, 2, 15, 16, 17, 23], [2, 42, 57, 62, 68, 75, 1022, 1027], [], 0, [], none⟩),
  (7, ⟨[2, 3], [2, 42, 57, 62, 68, 75, 1027], [], 0, [], none⟩),
  (8, ⟨[0, 2, 15, 16, 17], [2, 42, 57, 62, 68, 75, 1027], [], 0, [], none⟩),
  (9, ⟨[0, 2, 6], [2, 6, 42, 57, 62, 68, 75, 1027], [], 0, [], none⟩),
  (10, ⟨[2, 6, 29, 30, 31], [2, 6, 42, 57, 62, 68, 75, 1027], [], 0, [], none⟩),
  (11, ⟨[2, 6, 29, 30, 31, 32], [2, 6, 42, 57, 62, 68, 75, 1027], [], 0, [], none⟩),
  (12, ⟨[2, 6, 7, 8, 29, 30, 31], [2, 6, 42, 57, 62, 68, 75, 1027], [], 0, [], none⟩),
  (13, ⟨[2, 6, 7, 8, 29, 30, 31], [2, 6, 42, 57, 62, 68, 75, 1027], [], 0, [], none⟩),
  (14, ⟨[2, 6, 7, 29, 30, 31, 45, 46, 47], [2, 6, 42, 57, 62, 68, 75, 1027, 1045], [], 0, [], none⟩),
  (15, ⟨[2, 6, 7, 29, 30, 31, 45, 46, 47, 48], [2, 6, 42, 57, 62, 68, 75, 1027, 1045], [], 0, [], none⟩),
  (16, ⟨[2, 6, 7, 10, 29, 30, 31, 45, 46, 47], [2, 6, 42, 57, 62, 68, 75, 1027, 1045], [], 0, [], none⟩),
  (17, ⟨[2, 6, 7, 29, 30, 31, 45, 46, 47], [2, 6, 42, 57, 62, 68, 75, 1027, 1045], [(0, 451), (1, 450), (2, 500), (3, 504), (4, 0), (5, 0), (6, 0), (7, 384), (8, 0)], 191, [], none⟩),
  (18, ⟨[2, 6, 7, 29, 30, 31, 45, 46, 47], [2, 6, 42, 57, 62, 68, 75, 1027, 1045], [], 0, [], none⟩),
  (19, ⟨[2, 6, 7, 29, 30, 31, 45, 46, 47], [2, 6, 42, 57, 62, 68, 75, 1027, 1045], [], 0, [], none⟩),
  (20, ⟨[2, 6, 7, 29, 30, 31], [2, 6, 42, 57, 62, 68, 75, 1027], [], 0, [], none⟩),
  (21, ⟨[2, 6, 29, 30, 31], [2, 6, 42, 57, 62, 68, 75, 1027], [], 0, [], none⟩),
  (22, ⟨[2, 6, 29, 30, 31], [2, 6, 42, 57, 62, 68, 75, 1027], [], 0, [], none⟩),
  (23, ⟨[2, 3], [2, 42, 57, 62, 68, 75, 1027], [], 0, [], none⟩)] (Tryz.f13.body.getD .skip) = some M13 := by kernel_rfl
theorem Run13 {args : List PV} {v : AV} {rs : List (Nat × List PV)} (ids : List Bool) (h : args.length ≤ 79) (hv : run Tryz.prog (retK [RV.cell 2 4 true, RV.tmp 3] ids v rs) M13 [] ⟨entry 0 args, []⟩) : Fn Tryz.prog 13 args v rs :=
 Fn_run ids (by kernel_rfl) Tryz.func13 (by decide) rfl mc13 (by kernel_rfl) (by rw [Tryz.ntmps13]; exact h) (by rw [Tryz.ntmps13]; decide) hv
end Go.Vc

namespace Go.Vc
open Go.Proofs
set_option linter.unusedSimpArgs false
set_option linter.unusedVariables false
def goodB (bs : List ByteArray) : Bool := decide (bs.length ≤ 20) && bs.all globB
def buildR (bs : List ByteArray) : NF := if goodB bs = true then nfaOf (bs.map cutS) else nfaOf []
theorem goodB_iff {bs : List ByteArray} : goodB bs = true ↔ bs.length ≤ 20 ∧ ∀ b ∈ bs, globB b = true := by simp [goodB]
theorem partsB_good {b : ByteArray} (h : globB b = true) : partsB b = cutS b := by simp [partsB, h]
theorem map_parts {bs : List ByteArray} (h : ∀ b ∈ bs, globB b = true) : bs.map partsB = bs.map cutS := List.map_congr_left fun b hb => partsB_good (h b hb)
theorem gsOk {bs : List ByteArray} (h : goodB bs = true) : GsOk (bs.map cutS) := by
 obtain ⟨h1, h2⟩ := goodB_iff.1 h
 refine ⟨by simpa using h1, fun ps hp => ?_⟩
 obtain ⟨b, hb, rfl⟩ := List.mem_map.1 hp
 have := partsB_len b
 rwa [partsB_good (h2 b hb)] at this
abbrev begL (gs : List (List ByteArray)) (i : Nat) : List Int := toI ((List.range i).map (base gs))
theorem begL_succ (gs : List (List ByteArray)) (i : Nat) : begL gs (i + 1) = begL gs i ++ [((base gs i : Nat) : Int)] := by simp [begL, toI, List.range_succ]
theorem begL_len (gs : List (List ByteArray)) (i : Nat) : (begL gs i).length = i := by simp [begL, toI]
abbrev wayL (gs : List (List ByteArray)) (sg : List ByteArray) (i : Nat) (ps : List ByteArray) (k : Nat) : List (List (Int × Int)) := waysG sg 0 (gs.take i) ++ waysK sg (base gs i) ps k
abbrev donL (gs : List (List ByteArray)) (i k : Nat) : List (List Nat) := doneG 0 (gs.take i) ++ List.replicate k []
theorem wayL_len {gs : List (List ByteArray)} {sg : List ByteArray} {i k : Nat} {ps : List ByteArray} (h : i ≤ gs.length) : (wayL gs sg i ps k).length = base gs i + k := by
 simp [wayL, waysG_lenT h, waysK_len]
theorem donL_len {gs : List (List ByteArray)} {i k : Nat} (h : i ≤ gs.length) : (donL gs i k).length = base gs i + k := by
 simp [donL, doneG_lenT h]
theorem fn13 (bs : List ByteArray) (hb : bs.length ≤ 30) (hs : ∀ b ∈ bs, b.size ≤ 1000) : Fn Tryz.prog 13 [ss bs] (.pv (.tup [pNf (buildR bs), pI (if goodB bs = true then 0 else 1)])) [] := by
 have bad : goodB bs = false → pNf (buildR bs) = .agg [.lst [], .lst [], .lst [], .lst []] := fun h => by
  unfold buildR; rw [h]; rfl
 refine Run13 [] (by simp) ?_
 simp only [go_sem, Nat.reduceEqDiff, Nat.reduceAdd, reduceCtorEq, and_self, M13]
 refine ⟨fun h => ?_, fun h => ?_⟩
 ·have hbd : goodB bs = false := by simp [goodB]; omega
  rw [bad hbd, hbd]; rfl
 refine run_loop (T := Nat) (fun i => ⟨[(0, .pv (ss bs)), (2, .ptr 2 0), (15, .pv (ss bs)), (16, .pv (pI bs.length)), (17, .pv (pI i))], [(2, .box [.e0, .e0, .e0, .e0])]⟩) (fun i => i ≤ bs.length ∧ ∀ b ∈ bs.take i, globB b = true) (fun i => bs.length - i) 0 rfl ⟨Nat.zero_le _, by simp⟩ ?_
 rintro i ⟨hi, hg⟩
 by_cases hlt : i < bs.length
 ·simp only [go_sem, Nat.reduceEqDiff, reduceCtorEq, and_self, B13_0, show (i : Int) < (bs.length : Int) by omega, wf_ss, getD_map hlt]
  refine runR_callf (by simp only [go_sem, Nat.reduceEqDiff, reduceCtorEq, and_self]) (by simp only [go_sem, Nat.reduceEqDiff, reduceCtorEq] <;> rfl) (fn39 bs[i]) ⟨rfl, trivial⟩ trivial ?_
  simp only [go_sem, Nat.reduceEqDiff, Nat.reduceAdd, reduceCtorEq, Int.reduceNeg, and_self]
  refine ⟨fun hx => ?_, fun hx => ⟨⟨by omega, by omega⟩, i + 1, rfl, ⟨hlt, fun b hb2 => ?_⟩, by omega⟩⟩
  ·have hbd : goodB bs = false := by
    cases hc : goodB bs with
    | false => rfl
    | true => rw [(goodB_iff.1 hc).2 _ (List.getElem_mem hlt)] at hx; cases hx
   rw [bad hbd, hbd]; rfl
  ·rw [List.take_succ_eq_append_getElem hlt] at hb2
   rcases List.mem_append.1 hb2 with h1 | h1
   ·exact hg b h1
   ·simp only [List.mem_singleton] at h1; rw [h1]; exact hx
 ·have hall : ∀ b ∈ bs, globB b = true := by rwa [List.take_of_length_le (by omega)] at hg
  have hgd : goodB bs = true := goodB_iff.2 ⟨by omega, hall⟩
  have hgo := gsOk hgd
  have hbr : buildR bs = nfaOf (bs.map cutS) := by unfold buildR; rw [hgd]; rfl
  simp only [go_sem, Nat.reduceEqDiff, reduceCtorEq, and_self, B13_0, R13_0, show ¬ (i : Int) < (bs.length : Int) by omega]
  refine runR_call (by simp only [go_sem, Nat.reduceEqDiff, reduceCtorEq, and_self]) rfl (fn40 bs hb hs) (.inl rfl) trivial ?_
  rw [hbr, hgd, map_parts hall]
  have hgl : (bs.map cutS).length = bs.length := by simp
  have hps : ∀ j (h : j < bs.length), partsB bs[j] = (bs.map cutS).getD j [] := fun j h => by rw [partsB_good (hall _ (List.getElem_mem h))]; simp [List.getD_eq_getElem?_getD, h]
  have hsz := base_le hgo.p
  have hsgl := hgo.signs
  have hris := signsOf_ris (bs.map cutS)
  generalize hgs : bs.map cutS = gs at hgo hgl hps hsz hsgl hris ⊢
  have hln := hgo.n
  have hfin : nfaOf gs = ⟨signsOf gs, (List.range gs.length).map (base gs), waysG (signsOf gs) 0 gs, doneG 0 gs⟩ := rfl
  generalize hsg : signsOf gs = sg at hsgl hris hfin ⊢
  simp only [go_sem, Nat.reduceEqDiff, Nat.reduceBEq, Nat.reduceAdd, Nat.reduceLeDiff, reduceCtorEq, and_self]
  refine run_loopF (T := Nat) (fun _ => []) (fun _ => [(6, 1, 57, 1), (6, 2, 62, 1), (6, 3, 42, 1)]) [2, 6, 29, 30, 31] [2, 6, 42, 57, 62]
   (fun i => ⟨[(2, .ptr 2 0), (6, .ptr 6 0), (29, .pv (ss bs)), (30, .pv (pI bs.length)), (31, .pv (pI i))],
    [(2, .box [.e0, .e0, .e0, .e0]), (6, .box [.pv (ss sg), .row 57 0 (base gs i), .row 62 0 (base gs i), .row 42 0 i]), (42, .sl 1 ((begL gs i).map fun n => pI n)), (57, .sl 1 ((waysG sg 0 (gs.take i)).map pWs)), (62, .sl 1 ((doneG 0 (gs.take i)).map pNs))]⟩)
   (fun i => i ≤ gs.length) (fun i => gs.length - i) 0 ?_ (Nat.zero_le _) ?_
  ·simp only [go_sem, Nat.reduceEqDiff, Nat.reduceBEq, Nat.reduceLT, reduceCtorEq, Int.cast_ofNat_Int]
   rfl
  intro i hi
  have tkB : ((begL gs i).map fun n => pI n).take i = (begL gs i).map fun n => pI n := List.take_of_length_le (by simp [begL_len])
  by_cases hlt : i < gs.length
  ·have hib : i < bs.length := by omega
   have hbi := hsz i hi
   simp only [go_sem, Nat.reduceEqDiff, Nat.reduceBEq, Nat.reduceAdd, Nat.reduceLeDiff, Nat.reduceLT, reduceCtorEq, and_self, B13_1, show (i : Int) < (bs.length : Int) by omega, wf_ss, getD_map hib, tkB]
   refine ⟨⟨wf_ints [((base gs i : Nat) : Int)], by omega, by omega⟩, ?_⟩
   refine runR_call (by simp only [go_sem, Nat.reduceEqDiff, and_self]) rfl (fn41 bs[i] (hs _ (List.getElem_mem hib))) (.inl rfl) trivial ?_
   rw [hps i hib]
   obtain ⟨ps, hpsd⟩ : ∃ ps, ps = gs[i] := ⟨_, rfl⟩
   have hgi : gs.getD i [] = ps := by simp [List.getD_eq_getElem?_getD, hlt, hpsd]
   have hpl : ps.length ≤ 8 := by rw [hpsd]; exact hgo.p _ (List.getElem_mem hlt)
   rw [hgi]
   simp only [go_sem, Nat.reduceEqDiff, and_self]
   refine run_loopN (T := Nat) [2, 6, 7, 29, 30, 31, 45, 46, 47] [2, 6, 42, 57, 62]
    (fun k => ⟨[(2, .ptr 2 0), (6, .ptr 6 0), (7, .pv (pI i)), (29, .pv (ss bs)), (30, .pv (pI bs.length)), (31, .pv (pI i)), (45, .pv (ss ps)), (46, .pv (pI ps.length)), (47, .pv (pI k))],
     [(2, .box [.e0, .e0, .e0, .e0]), (6, .box [.pv (ss sg), .row 57 0 (base gs i + k), .row 62 0 (base gs i + k), .row 42 0 (i + 1)]), (42, .sl 1 ((begL gs (i + 1)).map fun n => pI n)), (57, .sl 1 ((wayL gs sg i ps k).map pWs)), (62, .sl 1 ((donL gs i k).map pNs))]⟩)
    (fun k => k ≤ ps.length) (fun k => ps.length - k) 0 ?_ (Nat.zero_le _) ?_
   ·simp only [go_sem, Nat.reduceEqDiff, Int.cast_ofNat_Int]
    rw [begL_succ, List.map_append]
    simp [wayL, donL, waysK]
   intro k hk
   have tkW : ((wayL gs sg i ps k).map pWs).take (base gs i + k) = (wayL gs sg i ps k).map pWs := List.take_of_length_le (by rw [List.length_map, wayL_len hi]; exact Nat.le_refl _)
   have tkD : ((donL gs i k).map pNs).take (base gs i + k) = (donL gs i k).map pNs := List.take_of_length_le (by rw [List.length_map, donL_len hi]; exact Nat.le_refl _)
   by_cases hkk : k < ps.length
   ·simp only [go_sem, Nat.reduceEqDiff, Nat.reduceAdd, Nat.reduceLeDiff, Int.reduceNeg, and_self, B13_2, show (k : Int) < (ps.length : Int) by omega, wf_ss, getD_map hkk]
    have hF := fn42 sg ((wayL gs sg i ps k).map pWs) (.lst ((donL gs i k).map pNs)) (.lst ((begL gs (i + 1)).map fun n => pI n)) ps[k] hris (by omega) (by rw [List.length_map, wayL_len hi]; omega)
    rw [List.length_map, wayL_len hi] at hF
    have tkE : ((wayOf sg (base gs i + k) ps[k]).map pE).take (wayOf sg (base gs i + k) ps[k]).length = (wayOf sg (base gs i + k) ps[k]).map pE := List.take_of_length_le (by simp)
    have tkB1 : ((begL gs (i + 1)).map fun n => pI n).take (i + 1) = (begL gs (i + 1)).map fun n => pI n := List.take_of_length_le (by simp [begL_len])
    refine runR_callz (by simp only [go_sem, Nat.reduceEqDiff, and_self]) (by simp only [go_sem, Nat.reduceEqDiff, tkW, tkD, tkB1] <;> rfl) hF ⟨rfl, fun p hp => by
     obtain ⟨e, _, rfl⟩ := List.mem_map.1 hp
     rfl, trivial⟩ trivial ?_
    simp only [go_sem, Nat.reduceEqDiff, Nat.reduceBEq, Nat.reduceAdd, Nat.reduceLeDiff, Nat.reduceLT, Int.reduceNeg, and_self, tkW, tkE, tkD]
    refine ⟨⟨wf_pWs [wayOf sg (base gs i + k) ps[k]], by omega, by omega⟩, ⟨wf_pNs [[]], by omega, by omega⟩, ⟨by omega, by omega⟩, k + 1, ?_, hkk, by omega⟩
    have hgk : ps.getD k ⟨#[]⟩ = ps[k] := by simp [List.getD_eq_getElem?_getD, hkk]
    simp only [wayL, donL, waysK_succ, hgk, List.replicate_succ', List.map_append, List.append_assoc]
    rfl
   ·have hke : k = ps.length := by omega
    subst hke
    have hbs : base gs (i + 1) = base gs i + ps.length + 1 := by rw [base_succ hlt, ← hpsd]; omega
    simp only [go_sem, Nat.reduceEqDiff, Nat.reduceBEq, Nat.reduceAdd, Nat.reduceLeDiff, Nat.reduceLT, Int.reduceNeg, and_self, B13_2, R13_2, show ¬ (ps.length : Int) < (ps.length : Int) by omega, tkW, tkD]
    refine ⟨⟨wf_pWs [[]], by omega, by omega⟩, ⟨wf_pNs [[i]], by omega, by omega⟩, ⟨by omega, by omega⟩, i + 1, ?_, hlt, by omega⟩
    rw [hbs, waysG_take hlt, doneG_take hlt, ← hpsd]
    simp only [wayL, donL, List.map_append, List.append_assoc]
    rfl
  ·have hie : i = gs.length := by omega
   subst hie
   have tkW : ((waysG sg 0 gs).map pWs).take (base gs gs.length) = (waysG sg 0 gs).map pWs := List.take_of_length_le (by rw [List.length_map, waysG_len]; exact Nat.le_refl _)
   have tkD : ((doneG 0 gs).map pNs).take (base gs gs.length) = (doneG 0 gs).map pNs := List.take_of_length_le (by rw [List.length_map, doneG_len]; exact Nat.le_refl _)
   simp only [go_sem, Nat.reduceEqDiff, Nat.reduceBEq, Nat.reduceAdd, Nat.reduceLeDiff, Nat.reduceLT, reduceCtorEq, and_self, B13_1, R13_1, show ¬ (gs.length : Int) < (bs.length : Int) by omega, tkB, List.take_length, tkW, tkD]
   rw [hfin]
end Go.Vc
