/- A part of the proofs of the seat YtmgbbmhljopepaaGreatDoor: the contracts of functions, each proved out of its code. -/
import Derived.Test.YtmgbbmhljopepaaGreatDoorWf
import Derived.Test.YtmgbbmhljopepaaGreatDoorVe
import Derived.Test.YtmgbbmhljopepaaGreatDoorProg
import Derived.Shelf.Spec.TrailingZeros
namespace Go.Vc
open Go.Proofs
set_option linter.unusedSimpArgs false
set_option linter.unusedVariables false
def goodB (bs : List ByteArray) : Bool := decide (bs.length ≤ 20) && bs.all globB
def buildR (bs : List ByteArray) : NF := if goodB bs = true then nfaOf (bs.map cutS) else nfaOf []
theorem goodB_iff {bs : List ByteArray} : goodB bs = true ↔ bs.length ≤ 20 ∧ ∀ b ∈ bs, globB b = true := by simp [goodB]
theorem partsB_good {b : ByteArray} (h : globB b = true) : partsB b = cutS b := by simp [partsB, h]
theorem map_parts {bs : List ByteArray} (h : ∀ b ∈ bs, globB b = true) : bs.map partsB = bs.map cutS := List.map_congr_left fun b hb => partsB_good (h b hb)
theorem gsOk {bs : List ByteArray} (h : goodB bs = true) : GsOk (bs.map cutS) := by
 obtain ⟨h1, h2⟩ := goodB_iff.1 h
 refine ⟨by simpa using h1, fun ps hp => ?_⟩
 obtain ⟨b, hb, rfl⟩ := List.mem_map.1 hp
 have := partsB_len b
 rwa [partsB_good (h2 b hb)] at this
abbrev begL (gs : List (List ByteArray)) (i : Nat) : List Int := toI ((List.range i).map (base gs))
theorem begL_succ (gs : List (List ByteArray)) (i : Nat) : begL gs (i + 1) = begL gs i ++ [((base gs i : Nat) : Int)] := by simp [begL, toI, List.range_succ]
theorem begL_len (gs : List (List ByteArray)) (i : Nat) : (begL gs i).length = i := by simp [begL, toI]
abbrev wayL (gs : List (List ByteArray)) (sg : List ByteArray) (i : Nat) (ps : List ByteArray) (k : Nat) : List (List (Int × Int)) := waysG sg 0 (gs.take i) ++ waysK sg (base gs i) ps k
abbrev donL (gs : List (List ByteArray)) (i k : Nat) : List (List Nat) := doneG 0 (gs.take i) ++ List.replicate k []
theorem wayL_len {gs : List (List ByteArray)} {sg : List ByteArray} {i k : Nat} {ps : List ByteArray} (h : i ≤ gs.length) : (wayL gs sg i ps k).length = base gs i + k := by
 simp [wayL, waysG_lenT h, waysK_len]
theorem donL_len {gs : List (List ByteArray)} {i k : Nat} (h : i ≤ gs.length) : (donL gs i k).length = base gs i + k := by
 simp [donL, doneG_lenT h]
theorem fn13 (bs : List ByteArray) (hb : bs.length ≤ 30) (hs : ∀ b ∈ bs, b.size ≤ 1000) : Fn Tryz.prog 13 [ss bs] (.pv (.tup [pNf (buildR bs), pI (if goodB bs = true then 0 else 1)])) [] := by
 have bad : goodB bs = false → pNf (buildR bs) = .agg [.lst [], .lst [], .lst [], .lst []] := fun h => by
  unfold buildR; rw [h]; rfl
 refine Run13 [] (by simp) ?_
 simp only [go_sem, M13]
 refine ⟨fun h => ?_, fun h => ?_⟩
 ·have hbd : goodB bs = false := by simp [goodB]; omega
  rw [bad hbd, hbd]; rfl
 refine run_loop (T := Nat) (fun i => ⟨[(0, .pv (ss bs)), (2, .ptr 2 0), (15, .pv (ss bs)), (16, .pv (pI bs.length)), (17, .pv (pI i))], [(2, .box [.e0, .e0, .e0, .e0])]⟩) (fun i => i ≤ bs.length ∧ ∀ b ∈ bs.take i, globB b = true) (fun i => bs.length - i) 0 rfl ⟨Nat.zero_le _, by simp⟩ ?_
 rintro i ⟨hi, hg⟩
 by_cases hlt : i < bs.length
 ·simp only [go_sem, B13_0, show (i : Int) < (bs.length : Int) by omega, wf_ss, getD_map hlt]
  refine runR_callf (by simp only [go_sem]) (by simp only [go_sem] <;> rfl) (fn39 bs[i]) ⟨rfl, trivial⟩ trivial ?_
  simp only [go_sem]
  refine ⟨fun hx => ?_, fun hx => ⟨⟨by omega, by omega⟩, i + 1, rfl, ⟨hlt, fun b hb2 => ?_⟩, by omega⟩⟩
  ·have hbd : goodB bs = false := by
    cases hc : goodB bs with
    | false => rfl
    | true => rw [(goodB_iff.1 hc).2 _ (List.getElem_mem hlt)] at hx; cases hx
   rw [bad hbd, hbd]; rfl
  ·rw [List.take_succ_eq_append_getElem hlt] at hb2
   rcases List.mem_append.1 hb2 with h1 | h1
   ·exact hg b h1
   ·simp only [List.mem_singleton] at h1; rw [h1]; exact hx
 ·have hall : ∀ b ∈ bs, globB b = true := by rwa [List.take_of_length_le (by omega)] at hg
  have hgd : goodB bs = true := goodB_iff.2 ⟨by omega, hall⟩
  have hgo := gsOk hgd
  have hbr : buildR bs = nfaOf (bs.map cutS) := by unfold buildR; rw [hgd]; rfl
  simp only [go_sem, B13_0, R13_0, show ¬ (i : Int) < (bs.length : Int) by omega]
  refine runR_call (by simp only [go_sem]) rfl (fn40 bs hb hs) (.inl rfl) trivial ?_
  rw [hbr, hgd, map_parts hall]
  have hgl : (bs.map cutS).length = bs.length := by simp
  have hps : ∀ j (h : j < bs.length), partsB bs[j] = (bs.map cutS).getD j [] := fun j h => by rw [partsB_good (hall _ (List.getElem_mem h))]; simp [List.getD_eq_getElem?_getD, h]
  have hsz := base_le hgo.p
  have hsgl := hgo.signs
  have hris := signsOf_ris (bs.map cutS)
  generalize hgs : bs.map cutS = gs at hgo hgl hps hsz hsgl hris ⊢
  have hln := hgo.n
  have hfin : nfaOf gs = ⟨signsOf gs, (List.range gs.length).map (base gs), waysG (signsOf gs) 0 gs, doneG 0 gs⟩ := rfl
  generalize hsg : signsOf gs = sg at hsgl hris hfin ⊢
  simp only [go_sem]
  refine run_loopF (T := Nat) (fun _ => []) (fun _ => [(6, 1, 57, 1), (6, 2, 62, 1), (6, 3, 42, 1)]) [2, 6, 29, 30, 31] [2, 6, 42, 57, 62]
   (fun i => ⟨[(2, .ptr 2 0), (6, .ptr 6 0), (29, .pv (ss bs)), (30, .pv (pI bs.length)), (31, .pv (pI i))],
    [(2, .box [.e0, .e0, .e0, .e0]), (6, .box [.pv (ss sg), .row 57 0 (base gs i), .row 62 0 (base gs i), .row 42 0 i]), (42, .sl 1 ((begL gs i).map fun n => pI n)), (57, .sl 1 ((waysG sg 0 (gs.take i)).map pWs)), (62, .sl 1 ((doneG 0 (gs.take i)).map pNs))]⟩)
   (fun i => i ≤ gs.length) (fun i => gs.length - i) 0 ?_ (Nat.zero_le _) ?_
  ·simp only [go_sem]
   rfl
  intro i hi
  have tkB : ((begL gs i).map fun n => pI n).take i = (begL gs i).map fun n => pI n := List.take_of_length_le (by simp [begL_len])
  by_cases hlt : i < gs.length
  ·have hib : i < bs.length := by omega
   have hbi := hsz i hi
   simp only [go_sem, B13_1, show (i : Int) < (bs.length : Int) by omega, wf_ss, getD_map hib, tkB]
   refine ⟨⟨wf_ints [((base gs i : Nat) : Int)], by omega, by omega⟩, ?_⟩
   refine runR_call (by simp only [go_sem]) rfl (fn41 bs[i] (hs _ (List.getElem_mem hib))) (.inl rfl) trivial ?_
   rw [hps i hib]
   obtain ⟨ps, hpsd⟩ : ∃ ps, ps = gs[i] := ⟨_, rfl⟩
   have hgi : gs.getD i [] = ps := by simp [List.getD_eq_getElem?_getD, hlt, hpsd]
   have hpl : ps.length ≤ 8 := by rw [hpsd]; exact hgo.p _ (List.getElem_mem hlt)
   rw [hgi]
   simp only [go_sem]
   refine run_loopN (T := Nat) [2, 6, 7, 29, 30, 31, 45, 46, 47] [2, 6, 42, 57, 62]
    (fun k => ⟨[(2, .ptr 2 0), (6, .ptr 6 0), (7, .pv (pI i)), (29, .pv (ss bs)), (30, .pv (pI bs.length)), (31, .pv (pI i)), (45, .pv (ss ps)), (46, .pv (pI ps.length)), (47, .pv (pI k))],
     [(2, .box [.e0, .e0, .e0, .e0]), (6, .box [.pv (ss sg), .row 57 0 (base gs i + k), .row 62 0 (base gs i + k), .row 42 0 (i + 1)]), (42, .sl 1 ((begL gs (i + 1)).map fun n => pI n)), (57, .sl 1 ((wayL gs sg i ps k).map pWs)), (62, .sl 1 ((donL gs i k).map pNs))]⟩)
    (fun k => k ≤ ps.length) (fun k => ps.length - k) 0 ?_ (Nat.zero_le _) ?_
   ·simp only [go_sem]
    rw [begL_succ, List.map_append]
    simp [wayL, donL, waysK]
   intro k hk
   have tkW : ((wayL gs sg i ps k).map pWs).take (base gs i + k) = (wayL gs sg i ps k).map pWs := List.take_of_length_le (by rw [List.length_map, wayL_len hi]; exact Nat.le_refl _)
   have tkD : ((donL gs i k).map pNs).take (base gs i + k) = (donL gs i k).map pNs := List.take_of_length_le (by rw [List.length_map, donL_len hi]; exact Nat.le_refl _)
   by_cases hkk : k < ps.length
   ·simp only [go_sem, B13_2, show (k : Int) < (ps.length : Int) by omega, wf_ss, getD_map hkk]
    have hF := fn42 sg ((wayL gs sg i ps k).map pWs) (.lst ((donL gs i k).map pNs)) (.lst ((begL gs (i + 1)).map fun n => pI n)) ps[k] hris (by omega) (by rw [List.length_map, wayL_len hi]; omega)
    rw [List.length_map, wayL_len hi] at hF
    have tkE : ((wayOf sg (base gs i + k) ps[k]).map pE).take (wayOf sg (base gs i + k) ps[k]).length = (wayOf sg (base gs i + k) ps[k]).map pE := List.take_of_length_le (by simp)
    have tkB1 : ((begL gs (i + 1)).map fun n => pI n).take (i + 1) = (begL gs (i + 1)).map fun n => pI n := List.take_of_length_le (by simp [begL_len])
    refine runR_callz (by simp only [go_sem]) (by simp only [go_sem, tkW, tkD, tkB1] <;> rfl) hF ⟨rfl, fun p hp => by
     obtain ⟨e, _, rfl⟩ := List.mem_map.1 hp
     rfl, trivial⟩ trivial ?_
    simp only [go_sem, tkW, tkE, tkD]
    refine ⟨⟨wf_pWs [wayOf sg (base gs i + k) ps[k]], by omega, by omega⟩, ⟨wf_pNs [[]], by omega, by omega⟩, ⟨by omega, by omega⟩, k + 1, ?_, hkk, by omega⟩
    have hgk : ps.getD k ⟨#[]⟩ = ps[k] := by simp [List.getD_eq_getElem?_getD, hkk]
    simp only [wayL, donL, waysK_succ, hgk, List.replicate_succ', List.map_append, List.append_assoc]
    rfl
   ·have hke : k = ps.length := by omega
    subst hke
    have hbs : base gs (i + 1) = base gs i + ps.length + 1 := by rw [base_succ hlt, ← hpsd]; omega
    simp only [go_sem, B13_2, R13_2, show ¬ (ps.length : Int) < (ps.length : Int) by omega, tkW, tkD]
    refine ⟨⟨wf_pWs [[]], by omega, by omega⟩, ⟨wf_pNs [[i]], by omega, by omega⟩, ⟨by omega, by omega⟩, i + 1, ?_, hlt, by omega⟩
    rw [hbs, waysG_take hlt, doneG_take hlt, ← hpsd]
    simp only [wayL, donL, List.map_append, List.append_assoc]
    rfl
  ·have hie : i = gs.length := by omega
   subst hie
   have tkW : ((waysG sg 0 gs).map pWs).take (base gs gs.length) = (waysG sg 0 gs).map pWs := List.take_of_length_le (by rw [List.length_map, waysG_len]; exact Nat.le_refl _)
   have tkD : ((doneG 0 gs).map pNs).take (base gs gs.length) = (doneG 0 gs).map pNs := List.take_of_length_le (by rw [List.length_map, doneG_len]; exact Nat.le_refl _)
   simp only [go_sem, B13_1, R13_1, show ¬ (gs.length : Int) < (bs.length : Int) by omega, tkB, List.take_length, tkW, tkD]
   rw [hfin]
end Go.Vc

namespace Go.Vc
open Go.Proofs
set_option maxRecDepth 100000
def B44_0 : MC := (.seq (.reg [qi 9 (.bin .lss (.t 8) (.t 7))] [] [2,3,6,7,8,9] [2,3]) (.seq (.cond (.t 9) .skip (.exit 0)) (.seq (.block 1 (.seq (.reg [qi 10 (.ia (.t 6) (.t 8) 1),qi 11 (.ld (.t 10) 1 false),mi 5 11] [] [2,3,5,6,7,8] [2,3]) (.reg [mi 12 5,qi 13 (.bin .quo (.t 12) (ic 64)),qi 14 (.iaa (.t 3) (.t 13) 3 1),qi 15 (.ld (.t 14) 1 false),mi 16 5,qi 17 (.bin .rem (.t 16) (ic 64)),qi 18 (.shf true (.c (.int .u64 1)) (.t 17)),qi 19 (.bin .or (.t 15) (.t 18)),qi 20 (.iaa (.t 3) (.t 13) 3 1),⟨none,none,.st (.t 20) (.t 19) 1⟩] [] [2,3,6,7,8] [2,3]))) (.reg [qi 21 (.bin .add (.t 8) (ic 1)),mi 8 21] [] [2,3,6,7,8] [2,3]))))
def R44_0 : MC := (.seq (.reg [qi 22 (.ld (.t 3) 3 true),⟨none,none,.st (.t 2) (.t 22) 3⟩] [] [2] [2]) .ret)
def M44 : MC := (.seq (.reg [⟨some 2,none,.alloc [.pv (.sc (.int .u64 0)),.pv (.sc (.int .u64 0)),.pv (.sc (.int .u64 0))]⟩] [] [0,2] [2]) (.seq (.reg [⟨some 3,none,.alloc [.pv (.sc (.int .u64 0)),.pv (.sc (.int .u64 0)),.pv (.sc (.int .u64 0))]⟩] [] [0,2,3] [2,3]) (.seq (.seq (.reg [mi 6 0,qi 7 (.len (.t 6) false),qi 8 (.mv (ic 0))] [] [2,3,6,7,8] [2,3]) (.block 0 (.loop B44_0))) R44_0)))
theorem mc44 : ofCode Tryz.prog [] Tryz.f44.ntmps [(0, ⟨[0, 2], [2], [], 0, [], none⟩),
  (1, ⟨[0, 2, 3], [2, 3], [], 0, [], none⟩),
  (2, ⟨[2, 3, 6, 7, 8], [2, 3], [], 0, [], none⟩),
  (3, ⟨[2, 3, 6, 7, 8, 9], [2, 3], [], 0, [], none⟩),
  (4, ⟨[2, 3, 5, 6, 7, 8], [2, 3], [], 0, [], none⟩),
  (5, ⟨[2, 3, 6, 7, 8], [2, 3], [(0, 911), (1, 910), (2, 908), (3, 904), (4, 1008), (5, 992), (6, 960), (7, 896), (8, 768), (9, 0)], 511, [], none⟩),
  (6, ⟨[2, 3, 6, 7, 8], [2, 3], [], 0, [], none⟩),
  (7, ⟨[2], [2], [], 0, [], none⟩)] (Tryz.f44.body.getD .skip) = some M44 := by kernel_rfl
theorem Run44 {args : List PV} {v : AV} {rs : List (Nat × List PV)} (ids : List Bool) (h : args.length ≤ 23) (hv : run Tryz.prog (retK [RV.cell 2 3 true] ids v rs) M44 [] ⟨entry 0 args, []⟩) : Fn Tryz.prog 44 args v rs :=
 Fn_run ids (by kernel_rfl) Tryz.func44 (by decide) rfl mc44 (by kernel_rfl) (by rw [Tryz.ntmps44]; exact h) (by rw [Tryz.ntmps44]; decide) hv
def B48_0 : MC := (.seq (.reg [qi 7 (.bin .lss (.t 6) (ic 3))] [] [2,3,4,6,7] [2,3,4]) (.seq (.cond (.t 7) .skip (.exit 0)) (.seq (.block 1 (.seq (.reg [mi 8 6,mi 5 8] [] [2,3,4,5,6] [2,3,4]) (.reg [mi 9 5,qi 10 (.iaa (.t 2) (.t 9) 3 1),qi 11 (.ld (.t 10) 1 false),mi 12 5,qi 13 (.iaa (.t 3) (.t 12) 3 1),qi 14 (.ld (.t 13) 1 false),qi 15 (.bin .or (.t 11) (.t 14)),qi 16 (.iaa (.t 2) (.t 9) 3 1),⟨none,none,.st (.t 16) (.t 15) 1⟩] [] [2,3,4,6] [2,3,4]))) (.reg [qi 17 (.bin .add (.t 6) (ic 1)),mi 6 17] [] [2,3,4,6] [2,3,4]))))
def R48_0 : MC := (.seq (.reg [qi 18 (.ld (.t 2) 3 true),⟨none,none,.st (.t 4) (.t 18) 3⟩] [] [4] [4]) .ret)
def M48 : MC := (.seq (.reg [⟨some 2,none,.box (.t 0)⟩,⟨some 3,none,.box (.t 1)⟩,⟨some 4,none,.alloc [.pv (.sc (.int .u64 0)),.pv (.sc (.int .u64 0)),.pv (.sc (.int .u64 0))]⟩] [] [2,3,4] [2,3,4]) (.seq (.seq (.reg [qi 6 (.mv (ic 0))] [] [2,3,4,6] [2,3,4]) (.block 0 (.loop B48_0))) R48_0))
theorem mc48 : ofCode Tryz.prog [] Tryz.f48.ntmps [(0, ⟨[2, 3, 4], [2, 3, 4], [], 0, [], none⟩),
  (1, ⟨[2, 3, 4, 6], [2, 3, 4], [], 0, [], none⟩),
  (2, ⟨[2, 3, 4, 6, 7], [2, 3, 4], [], 0, [], none⟩),
  (3, ⟨[2, 3, 4, 5, 6], [2, 3, 4], [], 0, [], none⟩),
  (4, ⟨[2, 3, 4, 6], [2, 3, 4], [(0, 455), (1, 454), (2, 452), (3, 504), (4, 496), (5, 480), (6, 448), (7, 384), (8, 0)], 255, [], none⟩),
  (5, ⟨[2, 3, 4, 6], [2, 3, 4], [], 0, [], none⟩),
  (6, ⟨[4], [4], [], 0, [], none⟩)] (Tryz.f48.body.getD .skip) = some M48 := by kernel_rfl
theorem Run48 {args : List PV} {v : AV} {rs : List (Nat × List PV)} (ids : List Bool) (h : args.length ≤ 19) (hv : run Tryz.prog (retK [RV.cell 4 3 true] ids v rs) M48 [] ⟨entry 0 args, []⟩) : Fn Tryz.prog 48 args v rs :=
 Fn_run ids (by kernel_rfl) Tryz.func48 (by decide) rfl mc48 (by kernel_rfl) (by rw [Tryz.ntmps48]; exact h) (by rw [Tryz.ntmps48]; decide) hv
def B47_1 : MC := (.seq (.seq (.reg [mi 11 5,qi 12 (.bin .neq (.t 11) (.c (.int .u64 0)))] [] [3,4,5,6,7,12] [24,2003]) (.cond (.t 12) .skip (.exit 2))) (.seq (.block 3 (.reg [mi 17 3,mi 18 4,qi 19 (.bin .mul (ic 64) (.t 18)),mi 20 5,⟨some 21,none,.call (.f 79) [.t 20]⟩,qi 22 (.bin .add (.t 19) (.t 21)),⟨some 23,none,.lits [.t 22] 1⟩,⟨some 24,none,.app (.t 17) (.t 23) 1 8⟩,mi 3 24] [] [3,4,5,6,7] [24,2003])) (.reg [mi 13 5,mi 14 5,qi 15 (.bin .sub (.t 14) (.c (.int .u64 1))),qi 16 (.bin .and (.t 13) (.t 15)),mi 5 16] [] [3,4,5,6,7] [24,2003])))
def B47_0 : MC := (.seq (.reg [qi 8 (.bin .lss (.t 7) (ic 3))] [] [3,6,7,8] [24,2003]) (.seq (.cond (.t 8) .skip (.exit 0)) (.seq (.block 1 (.seq (.reg [mi 9 7,qi 10 (.idxa (.t 6) (.t 7) 3),mi 4 9,mi 5 10] [] [3,4,5,6,7] [24,2003]) (.block 2 (.loop B47_1)))) (.reg [qi 25 (.bin .add (.t 7) (ic 1)),mi 7 25] [] [3,6,7] [24,2003]))))
def R47_0 : MC := (.seq (.reg [mi 26 3,mi 2 26] [] [2] [24,2003]) .ret)
def M47 : MC := (.seq (.reg [⟨some 1,none,.box (.t 0)⟩,qi 2 (.mv .nil)] [] [1] [1]) (.seq (.reg [qi 3 (.mv .nil)] [(3,2003,1)] [1,3] [1,24,2003]) (.seq (.seq (.reg [qi 6 (.ld (.t 1) 3 true),qi 7 (.mv (ic 0))] [] [3,6,7] [24,2003]) (.block 0 (.loop B47_0))) R47_0)))
theorem mc47 : ofCode Tryz.prog [] Tryz.f47.ntmps [(0, ⟨[1], [1], [], 0, [], none⟩),
  (1, ⟨[1, 3], [1, 24, 2003], [], 0, [(3, 2003, 1)], none⟩),
  (2, ⟨[3, 6, 7], [24, 2003], [], 0, [], none⟩),
  (3, ⟨[3, 6, 7, 8], [24, 2003], [], 0, [], none⟩),
  (4, ⟨[3, 4, 5, 6, 7], [24, 2003], [], 0, [], none⟩),
  (5, ⟨[3, 4, 5, 6, 7, 12], [24, 2003], [], 0, [], none⟩),
  (6, ⟨[3, 4, 5, 6, 7], [24, 2003], [], 0, [], none⟩),
  (7, ⟨[3, 4, 5, 6, 7], [24, 2003], [], 0, [], none⟩),
  (8, ⟨[3, 6, 7], [24, 2003], [], 0, [], none⟩),
  (9, ⟨[2], [24, 2003], [], 0, [], none⟩)] (Tryz.f47.body.getD .skip) = some M47 := by kernel_rfl
theorem Run47 {args : List PV} {v : AV} {rs : List (Nat × List PV)} (ids : List Bool) (h : args.length ≤ 27) (hv : run Tryz.prog (retK [RV.tmp 2] ids v rs) M47 [] ⟨entry 0 args, []⟩) : Fn Tryz.prog 47 args v rs :=
 Fn_run ids (by kernel_rfl) Tryz.func47 (by decide) rfl mc47 (by kernel_rfl) (by rw [Tryz.ntmps47]; exact h) (by rw [Tryz.ntmps47]; decide) hv
end Go.Vc

namespace Go.Vc
open Go.Proofs Go.Shelf Go.RowKit
set_option linter.unusedSimpArgs false
set_option linter.unusedVariables false
def ren29 : Ren := ⟨fun n => if n = 29 then 79 else n,
 fun t => if t = 22 then 56 else if t = 25 then 130 else if t = 54 then 143 else t,
 fun g => if g = 1 then 0 else g⟩
theorem lays29 : Lays7.n29 Tryz.prog ren29 where
 mixed := by kernel_rfl
 f29 := by kernel_rfl
 t0 := by kernel_rfl
 a0 := fun w => by kernel_rfl
 z0 := fun w => by kernel_rfl
 v0 := fun w => by kernel_rfl
 i0 := by kernel_rfl
 t3 := by kernel_rfl
 a3 := fun w => by kernel_rfl
 z3 := fun w => by kernel_rfl
 v3 := fun w => by kernel_rfl
 i3 := by kernel_rfl
 t4 := by kernel_rfl
 a4 := fun w => by kernel_rfl
 z4 := fun w => by kernel_rfl
 v4 := fun w => by kernel_rfl
 i4 := by kernel_rfl
 t5 := by kernel_rfl
 a5 := fun w => by kernel_rfl
 z5 := fun w => by kernel_rfl
 v5 := fun w => by kernel_rfl
 i5 := by kernel_rfl
 t22 := by kernel_rfl
 a22 := fun w => by kernel_rfl
 z22 := fun w => by kernel_rfl
 v22 := fun w => by kernel_rfl
 i22 := by kernel_rfl
 t25 := by kernel_rfl
 a25 := fun w => by kernel_rfl
 z25 := fun w => by kernel_rfl
 v25 := fun w => by kernel_rfl
 i25 := by kernel_rfl
 t54 := by kernel_rfl
 a54 := fun w => by kernel_rfl
 z54 := fun w => by kernel_rfl
 g1 := by kernel_rfl
theorem fn79 (x : Nat) (hx : x < 18446744073709551616) : Fn Tryz.prog 79 [pU (x : Int)] (.pv (pI (Lib.ctz 64 x : Nat))) [] := by
 refine ⟨enters_of (fn := Tryz.f79) Tryz.func79 (by decide) rfl, fun w F vs hF htb hv => ?_⟩
 simp only [PRels, PRel] at hv
 obtain ⟨u, r, rfl, rfl, rfl⟩ := hv
 have hg : Tryz.prog.globalNamed "math/bits.deBruijn64tab" = some 0 := by kernel_rfl
 have ht := (htb ("math/bits.deBruijn64tab", .u8, Lib.deBruijn64tab.map fun n : Nat => (n : Int)) (by simp [tabList]) 0 hg).2.2
 have := Any7.bits_TrailingZeros64 lays29 x hx w (fun _ j hj => by
  have h1 := ht.cell hg j (by simpa using hj)
  rw [show (ren29.g 1) = 0 from rfl, h1]
  simp [List.getD_eq_getElem?_getD, hj])
 refine this.mono fun en w' ⟨e1, e2⟩ => ?_
 subst e1; subst e2
 refine ⟨_, ⟨w', F, fun _ => default⟩, rfl, rfl, ⟨Below.refl _ _, by simp [VRel, PRel], fun i s xs h => by simp at h, fun i j hi => by simp at hi, fun i hi => by simp at hi, fun b => by simp⟩⟩
abbrev pSet (p : Nat → Bool) : PV := .agg [pU (wd p 0 : Nat), pU (wd p 1 : Nat), pU (wd p 2 : Nat)]
def inN (l : List Nat) (j : Nat) : Bool := l.any fun x => decide (x = j)
theorem ofInt_u64 {a : Nat} (ha : a < 18446744073709551616) : (BitVec.ofInt 64 (a : Int)).toNat = a := by
 rw [BitVec.ofInt_natCast, BitVec.toNat_ofNat]; exact Nat.mod_eq_of_lt (by omega)
theorem bitI_or {a b : Nat} (ha : a < 18446744073709551616) (hb : b < 18446744073709551616) : bitI .or .u64 (a : Int) (b : Int) = ((a ||| b : Nat) : Int) := by
 have hx : a ||| b < 2 ^ 64 := Nat.or_lt_two_pow (by omega) (by omega)
 show IntKind.u64.wrap ((BitVec.ofInt 64 (a : Int) ||| BitVec.ofInt 64 (b : Int)).toNat : Int) = _
 rw [BitVec.toNat_or, ofInt_u64 ha, ofInt_u64 hb, IntKind.wrap_u64]
 omega
theorem bitI_and {a b : Nat} (ha : a < 18446744073709551616) (hb : b < 18446744073709551616) : bitI .and .u64 (a : Int) (b : Int) = ((a &&& b : Nat) : Int) := by
 have hx : a &&& b < 2 ^ 64 := Nat.and_lt_two_pow _ (by omega)
 show IntKind.u64.wrap ((BitVec.ofInt 64 (a : Int) &&& BitVec.ofInt 64 (b : Int)).toNat : Int) = _
 rw [BitVec.toNat_and, ofInt_u64 ha, ofInt_u64 hb, IntKind.wrap_u64]
 omega
abbrev wBox (p : Nat → Bool) : List AV := [.pv (pU (wd p 0 : Nat)), .pv (pU (wd p 1 : Nat)), .pv (pU (wd p 2 : Nat))]
theorem inN_take {l : List Nat} {i : Nat} (h : i < l.length) (j : Nat) : inN (l.take (i + 1)) j = (inN (l.take i) j || decide (j = l[i])) := by
 unfold inN
 rw [List.take_succ_eq_append_getElem h, List.any_append]
 simp [eq_comm]
theorem wBox_zero : wBox (inN []) = [.pv (pU 0), .pv (pU 0), .pv (pU 0)] := by
 have : inN [] = fun _ => false := funext fun j => by simp [inN]
 unfold wBox
 rw [this, wd_zero, wd_zero, wd_zero]; rfl
theorem fn44 (l : List Nat) (hl : ∀ x ∈ l, x < 192) (hn : l.length ≤ 100000) : Fn Tryz.prog 44 [pNs l] (.pv (pSet (inN l))) [] := by
 refine Run44 [] (by simp) ?_
 simp only [go_sem, M44]
 refine run_loopN (T := Nat) [2, 3, 6, 7, 8] [2, 3] (fun i => ⟨[(2, .ptr 2 0), (3, .ptr 3 0), (6, .pv (pNs l)), (7, .pv (pI l.length)), (8, .pv (pI i))], [(2, .box [.pv (pU 0), .pv (pU 0), .pv (pU 0)]), (3, .box (wBox (inN (l.take i))))]⟩)
  (fun i => i ≤ l.length) (fun i => l.length - i) 0 ?_ (Nat.zero_le _) ?_
 ·rw [List.take_zero, wBox_zero]
  simp only [go_sem]
  simp [toI]
 intro i hi
 by_cases hlt : i < l.length
 ·have hx := hl _ (List.getElem_mem hlt)
  have hiI : (toI l)[i]'(by simp [toI]; exact hlt) = (l[i] : Int) := by simp [toI]
  have hin := inN_take hlt
  generalize l[i] = x at hx hiI hin
  have hps : inN (l.take (i + 1)) = fun j => inN (l.take i) j || decide (j = x) := funext hin
  have hpow : 2 ^ (x % 64) < 18446744073709551616 := Nat.lt_of_le_of_lt (Nat.pow_le_pow_right (by omega) (show x % 64 ≤ 63 by omega)) (by omega)
  have hr : (x : Int).tmod 64 = ((x % 64 : Nat) : Int) := by rw [Int.tmod_eq_emod_of_nonneg (by omega)]; omega
  have hsh : (1 : Int) * 2 ^ (x % 64) = ((2 ^ (x % 64) : Nat) : Int) := by rw [Int.one_mul]; exact (Int.natCast_pow 2 (x % 64)).symm
  rcases (show x / 64 = 0 ∨ x / 64 = 1 ∨ x / 64 = 2 by omega) with h64 | h64 | h64
  ·have hq : (x : Int).tdiv 64 = 0 := by rw [Int.tdiv_eq_ediv_of_nonneg (by omega)]; omega
   simp only [go_sem, B44_0, show (i : Int) < (l.length : Int) by omega, show (toI l).length = l.length by simp [toI], wf_ints, getD_map (show i < (toI l).length by simp [toI]; exact hlt), hiI, hq, hr, hsh, bitI_or (wd_lt _ _) hpow, wd_add _ h64]
   refine ⟨⟨by omega, by omega⟩, ⟨by omega, by omega⟩, i + 1, ?_, hlt, by omega⟩
   have e1 := wd_same (inN (l.take i)) (i := x) (k := 1) (by omega)
   have e2 := wd_same (inN (l.take i)) (i := x) (k := 2) (by omega)
   rw [hps]
   unfold wBox
   rw [e1, e2]; rfl
  ·have hq : (x : Int).tdiv 64 = 1 := by rw [Int.tdiv_eq_ediv_of_nonneg (by omega)]; omega
   simp only [go_sem, B44_0, show (i : Int) < (l.length : Int) by omega, show (toI l).length = l.length by simp [toI], wf_ints, getD_map (show i < (toI l).length by simp [toI]; exact hlt), hiI, hq, hr, hsh, bitI_or (wd_lt _ _) hpow, wd_add _ h64]
   refine ⟨⟨by omega, by omega⟩, ⟨by omega, by omega⟩, i + 1, ?_, hlt, by omega⟩
   have e1 := wd_same (inN (l.take i)) (i := x) (k := 0) (by omega)
   have e2 := wd_same (inN (l.take i)) (i := x) (k := 2) (by omega)
   rw [hps]
   unfold wBox
   rw [e1, e2]; rfl
  ·have hq : (x : Int).tdiv 64 = 2 := by rw [Int.tdiv_eq_ediv_of_nonneg (by omega)]; omega
   simp only [go_sem, B44_0, show (i : Int) < (l.length : Int) by omega, show (toI l).length = l.length by simp [toI], wf_ints, getD_map (show i < (toI l).length by simp [toI]; exact hlt), hiI, hq, hr, hsh, bitI_or (wd_lt _ _) hpow, wd_add _ h64]
   refine ⟨⟨by omega, by omega⟩, ⟨by omega, by omega⟩, i + 1, ?_, hlt, by omega⟩
   have e1 := wd_same (inN (l.take i)) (i := x) (k := 0) (by omega)
   have e2 := wd_same (inN (l.take i)) (i := x) (k := 1) (by omega)
   rw [hps]
   unfold wBox
   rw [e1, e2]; rfl
 ·have hie : i = l.length := by omega
  subst hie
  rw [List.take_length]
  simp only [go_sem, B44_0, R44_0, show ¬ (l.length : Int) < (l.length : Int) by omega]
theorem fn48 (p q : Nat → Bool) : Fn Tryz.prog 48 [pSet p, pSet q] (.pv (pSet fun j => p j || q j)) [] := by
 refine Run48 [] (by simp) ?_
 simp only [go_sem, M48]
 have o := fun k => bitI_or (wd_lt p k) (wd_lt q k)
 have w := fun k => wd_or p q k
 generalize (fun j => p j || q j) = r at w
 refine run_loopN (T := Nat) [2, 3, 4, 6] [2, 3, 4] (fun i => ⟨[(2, .ptr 2 0), (3, .ptr 3 0), (4, .ptr 4 0), (6, .pv (pI i))], [(2, .box [.pv (pU (wd (if 0 < i then r else p) 0 : Nat)), .pv (pU (wd (if 1 < i then r else p) 1 : Nat)), .pv (pU (wd (if 2 < i then r else p) 2 : Nat))]), (3, .box (wBox q)), (4, .box [.pv (pU 0), .pv (pU 0), .pv (pU 0)])]⟩)
  (fun i => i ≤ 3) (fun i => 3 - i) 0 ?_ (by omega) ?_
 ·simp only [go_sem]
 intro i hi
 rcases (show i = 0 ∨ i = 1 ∨ i = 2 ∨ i = 3 by omega) with rfl | rfl | rfl | rfl
 ·simp only [go_sem, B48_0, o, w]
  exact ⟨1, rfl, by omega, by omega⟩
 ·simp only [go_sem, B48_0, o, w]
  exact ⟨2, rfl, by omega, by omega⟩
 ·simp only [go_sem, B48_0, o, w]
  exact ⟨3, rfl, by omega, by omega⟩
 ·simp only [go_sem, B48_0, R48_0]
theorem fn47 (p : Nat → Bool) : Fn Tryz.prog 47 [pSet p] (.pv (pNs (elemsB p 3))) [] := by
 refine Fn.row (n := (elemsB p 3).length) (s := 1) ?_ (by simp [toI])
 refine Run47 [true] (by simp) ?_
 simp only [go_sem, M47]
 refine run_loopN (T := Nat) [3, 6, 7] [2003] (fun i => ⟨[(3, .row 2003 0 (elemsB p i).length), (6, .pv (pSet p)), (7, .pv (pI i))], [(2003, .sl 1 ((toI (elemsB p i)).map fun n => pI n))]⟩)
  (fun i => i ≤ 3) (fun i => 3 - i) 0 ?_ (by omega) ?_
 ·simp only [go_sem]
  rfl
 intro i hi
 have hel : (elemsB p i).length ≤ 64 * i := by
  have := List.length_filter_le p (List.range (64 * i))
  unfold elemsB; simpa using this
 by_cases hlt : i < 3
 ·have hix : ([pU (wd p 0 : Nat), pU (wd p 1 : Nat), pU (wd p 2 : Nat)] : List PV).getD i default = pU (wd p i : Nat) := by
   rcases (show i = 0 ∨ i = 1 ∨ i = 2 by omega) with rfl | rfl | rfl <;> rfl
  have hris := wbits_ris p i
  have hsum := wbits_sum p i
  have hbl : (wbits p i).length ≤ 64 := by
   have := List.length_filter_le (fun j => p (64 * i + j)) (List.range 64)
   unfold wbits; simpa using this
  have hsc := elemsB_succ p i
  have hwl := wd_lt p i
  have hBlt : ∀ b ∈ wbits p i, b < 64 := fun b hb => wbits_lt hb
  simp only [go_sem, B47_0, show (i : Int) < 3 by omega, hix]
  rw [← hsum]
  rw [← hsum] at hwl
  generalize wbits p i = B at hris hbl hsc hwl hBlt
  refine run_loopN (T := Nat) [3, 4, 5, 6, 7] [2003] (fun m => ⟨[(3, .row 2003 0 ((elemsB p i).length + m)), (4, .pv (pI i)), (5, .pv (pU (sumB (B.drop m) : Nat))), (6, .pv (pSet p)), (7, .pv (pI i))], [(2003, .sl 1 ((toI (elemsB p i ++ (B.take m).map fun b => 64 * i + b)).map fun n => pI n))]⟩)
   (fun m => m ≤ B.length) (fun m => B.length - m) 0 ?_ (Nat.zero_le _) ?_
  ·simp only [go_sem]
  intro m hm
  have tk : List.take ((elemsB p i).length + m) ((toI (elemsB p i ++ (B.take m).map fun b => 64 * i + b)).map fun n => pI n) = (toI (elemsB p i ++ (B.take m).map fun b => 64 * i + b)).map fun n => pI n :=
   List.take_of_length_le (by simp [toI]; omega)
  by_cases hml : m < B.length
  ·obtain ⟨b1, b2, b3, b4⟩ := bits_step hris (by omega) hml
   have hbm := hBlt _ (List.getElem_mem hml)
   have hs1 : ((sumB (B.drop m) : Nat) : Int) - 1 = ((sumB (B.drop m) - 1 : Nat) : Int) := by omega
   simp only [go_sem, B47_1, show ¬ ((sumB (B.drop m) : Nat) : Int) = 0 by omega]
   refine ⟨⟨by omega, by omega⟩, ?_⟩
   refine runR_callf (by simp only [go_sem]) (by simp only [go_sem] <;> rfl) (fn79 (sumB (B.drop m)) (by omega)) ⟨rfl, trivial⟩ trivial ?_
   simp only [go_sem, b1, tk, hs1, bitI_and (show sumB (B.drop m) < 18446744073709551616 by omega) (show sumB (B.drop m) - 1 < 18446744073709551616 by omega), b2]
   refine ⟨⟨by omega, by omega⟩, ⟨wf_ints [64 * (i : Int) + (B[m] : Int)], by omega, by omega⟩, by omega, m + 1, ?_, hml, by omega⟩
   rw [List.take_succ_eq_append_getElem hml, List.map_append, ← List.append_assoc, toI_app _ ([B[m]].map _), List.map_append]
   simp [toI]
   omega
  ·have hme : m = B.length := by omega
   subst hme
   simp only [go_sem, B47_1, sumB_end (Nat.le_refl B.length)]
   refine ⟨⟨by omega, by omega⟩, i + 1, ?_, hlt, by omega⟩
   rw [hsc]
   simp [toI]
 ·obtain rfl : i = 3 := by omega
  simp only [go_sem, B47_0, R47_0]
  simp
end Go.Vc

namespace Go.Vc
open Go.Proofs
set_option maxRecDepth 100000
def B49_0 : MC := (.seq (.reg [qi 11 (.bin .lss (.t 10) (.t 9))] [] [2,5,8,9,10,11] [2,25,1028,1030,2005]) (.seq (.cond (.t 11) .skip (.exit 0)) (.seq (.block 1 (.seq (.reg [qi 12 (.ia (.t 8) (.t 10) 1),qi 13 (.ld (.t 12) 1 false),mi 7 13] [] [2,5,7,8,9,10] [2,25,1028,1030,2005]) (.seq (.reg [mi 14 7,qi 15 (.fa (.t 2) 2),qi 16 (.ld (.t 15) 1 false),qi 17 (.len (.t 16) false),qi 18 (.bin .lss (.t 14) (.t 17))] [] [2,5,7,8,9,10,18] [2,25,1028,1030,2005]) (.cond (.t 18) (.reg [mi 19 5,qi 20 (.fa (.t 2) 2),qi 21 (.ld (.t 20) 1 false),mi 22 7,qi 23 (.ia (.t 21) (.t 22) 1),qi 24 (.ld (.t 23) 1 false),⟨some 25,none,.app (.t 19) (.t 24) 1 8⟩,mi 5 25] [] [2,5,8,9,10] [2,25,1028,1030,2005]) .skip)))) (.reg [qi 26 (.bin .add (.t 10) (ic 1)),mi 10 26] [] [2,5,8,9,10] [2,25,1028,1030,2005]))))
def R49_0 : MC := (.seq (.reg [mi 27 5,⟨some 28,none,.calls (.f 80) [.t 27]⟩] [] [5] [25,1028,1030,2005]) (.seq (.reg [mi 29 5,⟨some 30,none,.calls (.f 81) [.t 29]⟩,mi 4 30] [(2005,2005,0)] [4] [25,1028,1030]) .ret))
def M49 : MC := (.seq (.reg [⟨some 2,none,.box (.t 0)⟩,qi 4 (.mv .nil)] [] [1,2] [2]) (.seq (.reg [qi 5 (.mv .nil)] [(5,2005,1)] [1,2,5] [2,25,1028,1030,2005]) (.seq (.seq (.reg [mi 8 1,qi 9 (.len (.t 8) false),qi 10 (.mv (ic 0))] [] [2,5,8,9,10] [2,25,1028,1030,2005]) (.block 0 (.loop B49_0))) R49_0)))
theorem mc49 : ofCode Tryz.prog [28, 30] Tryz.f49.ntmps [(0, ⟨[1, 2], [2], [], 0, [], none⟩),
  (1, ⟨[1, 2, 5], [2, 25, 1028, 1030, 2005], [], 0, [(5, 2005, 1)], none⟩),
  (2, ⟨[2, 5, 8, 9, 10], [2, 25, 1028, 1030, 2005], [], 0, [], none⟩),
  (3, ⟨[2, 5, 8, 9, 10, 11], [2, 25, 1028, 1030, 2005], [], 0, [], none⟩),
  (4, ⟨[2, 5, 7, 8, 9, 10], [2, 25, 1028, 1030, 2005], [], 0, [], none⟩),
  (5, ⟨[2, 5, 7, 8, 9, 10, 18], [2, 25, 1028, 1030, 2005], [], 0, [], none⟩),
  (6, ⟨[2, 5, 8, 9, 10], [2, 25, 1028, 1030, 2005], [], 0, [], none⟩),
  (7, ⟨[2, 5, 8, 9, 10], [2, 25, 1028, 1030, 2005], [], 0, [], none⟩),
  (8, ⟨[5], [25, 1028, 1030, 2005], [], 0, [], none⟩),
  (9, ⟨[4], [25, 1028, 1030], [], 0, [(2005, 2005, 0)], none⟩)] (Tryz.f49.body.getD .skip) = some M49 := by kernel_rfl
theorem Run49 {args : List PV} {v : AV} {rs : List (Nat × List PV)} (ids : List Bool) (h : args.length ≤ 31) (hv : run Tryz.prog (retK [RV.tmp 4] ids v rs) M49 [] ⟨entry 0 args, []⟩) : Fn Tryz.prog 49 args v rs :=
 Fn_run ids (by kernel_rfl) Tryz.func49 (by decide) rfl mc49 (by kernel_rfl) (by rw [Tryz.ntmps49]; exact h) (by rw [Tryz.ntmps49]; decide) hv
def B81_1 : MC := (.seq (.seq (.reg [mi 29 5,mi 30 4,qi 31 (.len (.t 30) false),qi 32 (.bin .lss (.t 29) (.t 31))] [] [0,3,4,5,32] [200000]) (.cond (.t 32) .skip (.exit 2))) (.seq (.block 3 (.seq (.reg [mi 35 4,mi 36 5,qi 37 (.ia (.t 35) (.t 36) 1),qi 38 (.ld (.t 37) 1 false),mi 39 4,mi 40 5,qi 41 (.bin .sub (.t 40) (ic 1)),qi 42 (.ia (.t 39) (.t 41) 1),qi 43 (.ld (.t 42) 1 false),qi 44 (.bin .neq (.t 38) (.t 43))] [] [0,3,4,5,44] [200000]) (.cond (.t 44) (.seq (.reg [mi 45 0,mi 46 3,mi 47 4,mi 48 5,qi 49 (.ia (.t 47) (.t 48) 1),qi 50 (.ld (.t 49) 1 false),qi 51 (.ia (.t 45) (.t 46) 1),⟨none,none,.st (.t 51) (.t 50) 1⟩] [] [0,3,4,5] [200000]) (.reg [mi 52 3,qi 53 (.bin .add (.t 52) (ic 1)),mi 3 53] [] [0,3,4,5] [200000])) .skip))) (.reg [mi 33 5,qi 34 (.bin .add (.t 33) (ic 1)),mi 5 34] [] [0,3,4,5] [200000])))
def R81_1 : MC := (.seq (.reg [mi 54 0,mi 55 3,qi 56 (.slc (.t 54) (some (.t 55)) none 1 false),⟨none,none,.clr (.t 56) 1 (.sc (.int .i64 0))⟩] [] [0,3] [200000]) (.seq (.reg [mi 57 0,mi 58 3,qi 59 (.slc (.t 57) none (some (.t 58)) 1 false),mi 2 59] [] [2] [200000]) .ret))
def B81_0 : MC := (.seq (.seq (.reg [mi 10 3,mi 11 0,qi 12 (.len (.t 11) false),qi 13 (.bin .lss (.t 10) (.t 12))] [] [0,3,13] [200000]) (.cond (.t 13) .skip (.exit 0))) (.seq (.block 1 (.seq (.reg [mi 16 0,mi 17 3,qi 18 (.ia (.t 16) (.t 17) 1),qi 19 (.ld (.t 18) 1 false),mi 20 0,mi 21 3,qi 22 (.bin .sub (.t 21) (ic 1)),qi 23 (.ia (.t 20) (.t 22) 1),qi 24 (.ld (.t 23) 1 false),qi 25 (.bin .eql (.t 19) (.t 24))] [] [0,3,25] [200000]) (.cond (.t 25) (.seq (.reg [mi 26 0,mi 27 3,qi 28 (.slc (.t 26) (some (.t 27)) none 1 false),mi 4 28] [] [0,3,4] [200000]) (.seq (.seq (.reg [qi 5 (.mv (ic 1))] [] [0,3,4,5] [200000]) (.block 2 (.loop B81_1))) R81_1)) .skip))) (.reg [mi 14 3,qi 15 (.bin .add (.t 14) (ic 1)),mi 3 15] [] [0,3] [200000])))
def R81_0 : MC := (.seq (.reg [mi 60 0,mi 2 60] [] [2] [200000]) .ret)
def M81 : MC := (.seq (.reg [qi 2 (.mv .nil)] [] [0] [200000]) (.seq (.seq (.reg [mi 6 0,qi 7 (.len (.t 6) false),qi 8 (.bin .lss (.t 7) (ic 2))] [] [0,8] [200000]) (.cond (.t 8) (.seq (.reg [mi 9 0,mi 2 9] [] [2] [200000]) .ret) .skip)) (.seq (.seq (.reg [qi 3 (.mv (ic 1))] [] [0,3] [200000]) (.block 0 (.loop B81_0))) R81_0)))
theorem mc81 : ofCode Tryz.prog [] Tryz.f81.ntmps [(0, ⟨[0], [200000], [], 0, [], none⟩),
  (1, ⟨[0, 8], [200000], [], 0, [], none⟩),
  (2, ⟨[2], [200000], [], 0, [], none⟩),
  (3, ⟨[0, 3], [200000], [], 0, [], none⟩),
  (4, ⟨[0, 3, 13], [200000], [], 0, [], none⟩),
  (5, ⟨[0, 3], [200000], [], 0, [], none⟩),
  (6, ⟨[0, 3, 25], [200000], [(0, 525), (1, 526), (2, 524), (3, 520), (4, 912), (5, 992), (6, 960), (7, 896), (8, 768), (9, 512)], 1023, [], none⟩),
  (7, ⟨[0, 3, 4], [200000], [], 0, [], none⟩),
  (8, ⟨[0, 3, 4, 5], [200000], [], 0, [], none⟩),
  (9, ⟨[0, 3, 4, 5, 32], [200000], [], 0, [], none⟩),
  (10, ⟨[0, 3, 4, 5], [200000], [], 0, [], none⟩),
  (11, ⟨[0, 3, 4, 5, 44], [200000], [(0, 525), (1, 526), (2, 524), (3, 520), (4, 912), (5, 992), (6, 960), (7, 896), (8, 768), (9, 512)], 1023, [], none⟩),
  (12, ⟨[0, 3, 4, 5], [200000], [], 0, [], none⟩),
  (13, ⟨[0, 3, 4, 5], [200000], [], 0, [], none⟩),
  (14, ⟨[0, 3], [200000], [], 0, [], none⟩),
  (15, ⟨[2], [200000], [], 0, [], none⟩),
  (16, ⟨[2], [200000], [], 0, [], none⟩)] (Tryz.f81.body.getD .skip) = some M81 := by kernel_rfl
theorem RunS81 {args : List AV} {st st' : List (Nat × Row)} {v : AV} (h : args.length ≤ 61) (hk : (st'.map (·.1)).Nodup) (hv : run Tryz.prog (retS [RV.tmp 2] v st') M81 [] ⟨entryA 0 args, st⟩) : FnS Tryz.prog 81 args st v st' :=
 FnS_run (by kernel_rfl) Tryz.func81 (by decide) rfl mc81 (by kernel_rfl) (by rw [Tryz.ntmps81]; exact h) (by rw [Tryz.ntmps81]; decide) hk hv
end Go.Vc

namespace Go.Vc
open Go.Proofs
set_option maxRecDepth 100000
def M77 : MC := (.seq (.reg [qi 8 (.ld (.t 1) 1 false),mi 9 0,qi 10 (.mget (.t 8) (.t 9) true Kk.int (.pv (.agg []))),mi 7 10,qi 11 (.ext (.t 7) 0),qi 12 (.ext (.t 7) 1),⟨some 5,none,.alloc []⟩,⟨none,none,.st (.t 5) (.t 11) 0⟩,mi 6 12] [] [0,1,2,3,6] [32,150000,200000,200001,200002,200003]) (.seq (.reg [mi 13 6,qi 14 (.not (.t 13)),mi 15 14,gi 16 15 true (.mv (.t 0)),gi 17 15 true (.bin .geq (.t 16) (ic 0)),qi 18 (.pick (.t 15) (.t 17) (.c (.bool false))),mi 19 18,gi 20 19 true (.mv (.t 0)),gi 21 19 true (.fa (.t 2) 1),gi 22 19 true (.ld (.t 21) 1 false),gi 23 19 true (.len (.t 22) false),gi 24 19 true (.bin .lss (.t 20) (.t 23)),qi 25 (.pick (.t 19) (.t 24) (.c (.bool false)))] [] [0,1,3,25] [32,150000,200000,200001,200002,200003]) (.cond (.t 25) (.seq (.reg [qi 26 (.ld (.t 1) 1 false),mi 27 0,qi 28 (.mk [] []),⟨none,none,.mset (.t 26) (.t 27) (.t 28) Kk.int⟩] [] [0,3] [32,150000,200000,200001,200002,200003]) (.reg [qi 29 (.ld (.t 3) 1 false),mi 30 0,⟨some 31,none,.lits [.t 30] 1⟩,⟨some 32,none,.app (.t 29) (.t 31) 1 8⟩,⟨none,none,.st (.t 3) (.t 32) 1⟩] [] [] [32,150000,200000,200001,200002,200003])) .skip)))
theorem mc77 : ofCode Tryz.prog [] Tryz.f77.ntmps [(0, ⟨[0, 1, 2, 3, 6], [32, 150000, 200000, 200001, 200002, 200003], [], 0, [], none⟩),
  (1, ⟨[0, 1, 3, 25], [32, 150000, 200000, 200001, 200002, 200003], [], 0, [], none⟩),
  (2, ⟨[0, 3], [32, 150000, 200000, 200001, 200002, 200003], [], 0, [], none⟩),
  (3, ⟨[], [32, 150000, 200000, 200001, 200002, 200003], [], 0, [], none⟩)] (Tryz.f77.body.getD .skip) = some M77 := by kernel_rfl
theorem RunS77 {args : List AV} {st st' : List (Nat × Row)} {v : AV} (h : args.length ≤ 33) (hk : (st'.map (·.1)).Nodup) (hv : run Tryz.prog (retS [] v st') M77 [] ⟨entryA 0 args, st⟩) : FnS Tryz.prog 77 args st v st' :=
 FnS_run (by kernel_rfl) Tryz.func77 (by decide) rfl mc77 (by kernel_rfl) (by rw [Tryz.ntmps77]; exact h) (by rw [Tryz.ntmps77]; decide) hk hv
def B45_0 : MC := (.seq (.reg [qi 18 (.bin .lss (.t 17) (.t 16))] [] [2,5,6,7,15,16,17,18] [2,5,6,13,1023,1053,1056,140000]) (.seq (.cond (.t 18) .skip (.exit 0)) (.seq (.block 1 (.seq (.reg [qi 19 (.ia (.t 15) (.t 17) 1),qi 20 (.ld (.t 19) 1 false),mi 9 20] [] [2,5,6,7,9,15,16,17] [2,5,6,13,1023,1053,1056,140000]) (.reg [mi 21 7,mi 22 9,⟨some 23,none,.calls (.t 21) [.t 22]⟩] [] [2,5,6,7,15,16,17] [2,5,6,13,1023,1053,1056,140000]))) (.reg [qi 24 (.bin .add (.t 17) (ic 1)),mi 17 24] [] [2,5,6,7,15,16,17] [2,5,6,13,1023,1053,1056,140000]))))
def B45_2 : MC := (.seq (.reg [qi 44 (.bin .lss (.t 43) (.t 42))] [] [2,5,6,7,41,42,43,44] [2,5,6,13,1023,1041,1053,1056,140000]) (.seq (.cond (.t 44) .skip (.exit 4)) (.seq (.block 5 (.seq (.reg [qi 45 (.ia (.t 41) (.t 43) 2),qi 46 (.ld (.t 45) 2 true),⟨some 12,none,.alloc [.pv (.sc (.int .i64 0)),.pv (.sc (.int .i64 0))]⟩,⟨none,none,.st (.t 12) (.t 46) 2⟩] [] [2,5,6,7,12,41,42,43] [2,5,6,12,13,1023,1041,1053,1056,140000]) (.seq (.reg [qi 47 (.fa (.t 12) 0),qi 48 (.ld (.t 47) 1 false),qi 49 (.bin .eql (.t 48) (.c (.int .i64 (-1))))] [] [2,5,6,7,12,41,42,43,49] [2,5,6,12,13,1023,1041,1053,1056,140000]) (.cond (.t 49) (.reg [mi 50 7,qi 51 (.fa (.t 12) 1),qi 52 (.ld (.t 51) 1 false),⟨some 53,none,.calls (.t 50) [.t 52]⟩] [] [2,5,6,7,41,42,43] [2,5,6,13,1023,1041,1053,1056,140000]) .skip)))) (.reg [qi 54 (.bin .add (.t 43) (ic 1)),mi 43 54] [] [2,5,6,7,41,42,43] [2,5,6,13,1023,1041,1053,1056,140000]))))
def B45_1 : MC := (.seq (.seq (.reg [qi 25 (.ld (.t 6) 1 false),qi 26 (.len (.t 25) false),qi 27 (.bin .gtr (.t 26) (ic 0))] [] [2,5,6,7,27] [2,5,6,13,1023,1053,1056,140000]) (.cond (.t 27) .skip (.exit 2))) (.block 3 (.seq (.reg [qi 28 (.ld (.t 6) 1 false),qi 29 (.ld (.t 6) 1 false),qi 30 (.len (.t 29) false),qi 31 (.bin .sub (.t 30) (ic 1)),qi 32 (.ia (.t 28) (.t 31) 1),qi 33 (.ld (.t 32) 1 false),mi 10 33] [] [2,5,6,7,10] [2,5,6,13,1023,1053,1056,140000]) (.seq (.reg [qi 34 (.ld (.t 6) 1 false),qi 35 (.ld (.t 6) 1 false),qi 36 (.len (.t 35) false),qi 37 (.bin .sub (.t 36) (ic 1)),qi 38 (.slc (.t 34) none (some (.t 37)) 1 false),⟨none,none,.st (.t 6) (.t 38) 1⟩] [] [2,5,6,7,10] [2,5,6,13,1023,1053,1056,140000]) (.seq (.reg [qi 39 (.ld (.t 2) 4 true),mi 40 10,⟨some 41,none,.call (.f 78) [.t 39,.t 40]⟩,qi 42 (.len (.t 41) false),qi 43 (.mv (ic 0))] [] [2,5,6,7,41,42,43] [2,5,6,13,1023,1041,1053,1056,140000]) (.block 4 (.loop B45_2)))))))
def R45_1 : MC := (.seq (.reg [qi 55 (.ld (.t 5) 1 false),⟨some 56,none,.calls (.f 69) [.t 55]⟩,mi 4 56] [] [4] [13,1023,1053,1056]) .ret)
def R45_0 : MC := (.seq (.block 2 (.loop B45_1)) R45_1)
def M45 : MC := (.seq (.reg [⟨some 2,none,.box (.t 0)⟩,qi 4 (.mv .nil)] [] [1,2] [2,1023,1053,1056]) (.seq (.reg [⟨some 13,none,.mkm⟩,⟨some 5,none,.alloc [.pv (.sc (.map none))]⟩,⟨none,none,.st (.t 5) (.t 13) 1⟩] [] [1,2,5] [2,5,13,1023,1053,1056]) (.seq (.reg [⟨some 6,none,.alloc [.e0]⟩] [] [1,2,5,6] [2,5,6,13,1023,1053,1056,140000]) (.seq (.reg [qi 14 (.clo 77 [.t 5,.t 2,.t 6]),mi 7 14] [] [1,2,5,6,7] [2,5,6,13,1023,1053,1056,140000]) (.seq (.seq (.reg [mi 15 1,qi 16 (.len (.t 15) false),qi 17 (.mv (ic 0))] [] [2,5,6,7,15,16,17] [2,5,6,13,1023,1053,1056,140000]) (.block 0 (.loop B45_0))) R45_0)))))
theorem mc45 : ofCode Tryz.prog [23, 53, 56] Tryz.f45.ntmps [(0, ⟨[1, 2], [2, 1023, 1053, 1056], [], 0, [], none⟩),
  (1, ⟨[1, 2, 5], [2, 5, 13, 1023, 1053, 1056], [], 0, [], none⟩),
  (2, ⟨[1, 2, 5, 6], [2, 5, 6, 13, 1023, 1053, 1056, 140000], [], 0, [], none⟩),
  (3, ⟨[1, 2, 5, 6, 7], [2, 5, 6, 13, 1023, 1053, 1056, 140000], [], 0, [], none⟩),
  (4, ⟨[2, 5, 6, 7, 15, 16, 17], [2, 5, 6, 13, 1023, 1053, 1056, 140000], [], 0, [], none⟩),
  (5, ⟨[2, 5, 6, 7, 15, 16, 17, 18], [2, 5, 6, 13, 1023, 1053, 1056, 140000], [], 0, [], none⟩),
  (6, ⟨[2, 5, 6, 7, 9, 15, 16, 17], [2, 5, 6, 13, 1023, 1053, 1056, 140000], [], 0, [], none⟩),
  (7, ⟨[2, 5, 6, 7, 15, 16, 17], [2, 5, 6, 13, 1023, 1053, 1056, 140000], [], 0, [], none⟩),
  (8, ⟨[2, 5, 6, 7, 15, 16, 17], [2, 5, 6, 13, 1023, 1053, 1056, 140000], [], 0, [], none⟩),
  (9, ⟨[2, 5, 6, 7, 27], [2, 5, 6, 13, 1023, 1053, 1056, 140000], [], 0, [], none⟩),
  (10, ⟨[2, 5, 6, 7, 10], [2, 5, 6, 13, 1023, 1053, 1056, 140000], [], 0, [], none⟩),
  (11, ⟨[2, 5, 6, 7, 10], [2, 5, 6, 13, 1023, 1053, 1056, 140000], [], 0, [], none⟩),
  (12, ⟨[2, 5, 6, 7, 41, 42, 43], [2, 5, 6, 13, 1023, 1041, 1053, 1056, 140000], [], 0, [], none⟩),
  (13, ⟨[2, 5, 6, 7, 41, 42, 43, 44], [2, 5, 6, 13, 1023, 1041, 1053, 1056, 140000], [], 0, [], none⟩),
  (14, ⟨[2, 5, 6, 7, 12, 41, 42, 43], [2, 5, 6, 12, 13, 1023, 1041, 1053, 1056, 140000], [], 0, [], none⟩),
  (15, ⟨[2, 5, 6, 7, 12, 41, 42, 43, 49], [2, 5, 6, 12, 13, 1023, 1041, 1053, 1056, 140000], [], 0, [], none⟩),
  (16, ⟨[2, 5, 6, 7, 41, 42, 43], [2, 5, 6, 13, 1023, 1041, 1053, 1056, 140000], [], 0, [], none⟩),
  (17, ⟨[2, 5, 6, 7, 41, 42, 43], [2, 5, 6, 13, 1023, 1041, 1053, 1056, 140000], [], 0, [], none⟩),
  (18, ⟨[4], [13, 1023, 1053, 1056], [], 0, [], none⟩)] (Tryz.f45.body.getD .skip) = some M45 := by kernel_rfl
theorem Run45 {args : List PV} {v : AV} {rs : List (Nat × List PV)} (ids : List Bool) (h : args.length ≤ 57) (hv : run Tryz.prog (retK [RV.tmp 4] ids v rs) M45 [] ⟨entry 0 args, []⟩) : Fn Tryz.prog 45 args v rs :=
 Fn_run ids (by kernel_rfl) Tryz.func45 (by decide) rfl mc45 (by kernel_rfl) (by rw [Tryz.ntmps45]; exact h) (by rw [Tryz.ntmps45]; decide) hv
end Go.Vc

namespace Go.Vc
open Go.Proofs
set_option linter.unusedSimpArgs false
set_option linter.unusedVariables false
theorem lkp_N (k : Nat) : ∀ met : List Nat, lkp (pI (k : Int)) (met.map enN) = if k ∈ met then some (.agg []) else none
 | [] => rfl
 | m :: met => by
  simp only [List.map_cons, lkp, keyEq, lkp_N k met]
  by_cases h : k = m
  ·subst h; simp
  ·have h2 : ¬ ((k : Int) = (m : Int)) := by omega
   simp [h, h2]
theorem mput_N (k : Nat) : ∀ {met : List Nat}, k ∉ met → mput (pI (k : Int)) (.agg []) (met.map enN) = (met ++ [k]).map enN
 | [], _ => rfl
 | m :: met, h => by
  have h1 : k ≠ m := fun e => h (by simp [e])
  have h2 : ¬ ((k : Int) = (m : Int)) := by omega
  simp only [List.map_cons, mput, keyEq, h2, decide_false, Bool.false_eq_true, if_false, List.cons_append, List.cons.injEq, true_and]
  exact mput_N k fun hm => h (List.mem_cons_of_mem _ hm)
theorem lkp_neg {x : Int} (h : x < 0) : ∀ met : List Nat, lkp (pI x) (met.map enN) = none
 | [] => rfl
 | m :: met => by
  have h2 : ¬ (x = (m : Int)) := by omega
  simp [lkp, keyEq, lkp_neg h met, h2]
theorem like_N (x : Int) : ∀ met : List Nat, keysLike .int (pI x) (met.map enN)
 | [] => trivial
 | m :: met => by simp only [List.map_cons, keysLike, keyLike]; exact ⟨trivial, like_N x met⟩
abbrev nBox (n : NF) : List AV := [.pv (ss n.signs), .pv (.lst (n.ways.map pWs)), .pv (.lst (n.done.map pNs)), .pv (pNs n.beg)]
abbrev wRows (n : NF) (s : WorkC) : List (Nat × Row) := [(200000, .box [.mp 200003]), (200001, .box (nBox n)), (200002, .box [.row 150000 0 s.2.1.length]), (200003, .mp (s.1.map enN)), (150000, .sl 1 ((toI s.2.1).map (fun n => pI n) ++ s.2.2))]
theorem fnS77 (n : NF) (x : Int) (s : WorkC) (hn : n.size ≤ 1000) (hw : s.2.1.length ≤ 10000) :
  FnS Tryz.prog 77 [.pv (pI x), .ptr 200000 0, .ptr 200001 0, .ptr 200002 0] (wRows n s) (.pv (.tup [])) (wRows n (addC n x s)) := by
 obtain ⟨met, ws, xs⟩ := s
 simp only at hw
 unfold addC
 split
 ·rename_i hc
  obtain ⟨hc1, hc2⟩ := hc
  obtain ⟨k, rfl, hk⟩ := isSt_iff.1 hc1
  rw [Int.toNat_natCast] at hc2 ⊢
  unfold NF.size at hk
  have hlk : lkp (pI (k : Int)) (met.map enN) = none := by rw [lkp_N, if_neg hc2]
  have tk : List.take ws.length ((toI ws).map (fun n => pI n) ++ xs) = (toI ws).map fun n => pI n := List.take_left' (by simp [toI])
  refine RunS77 (by simp) (by simp) ?_
  simp only [go_sem, M77, hlk, like_N, mput_N k hc2, tk, show (k : Int) < (n.ways.length : Int) by omega]
  exact ⟨⟨wf_ints [(k : Int)], by omega, by omega⟩, by rw [List.length_append]; rfl, by rw [toI_app, List.map_append]; rfl⟩
 ·rename_i hc
  refine RunS77 (by simp) (by simp) ?_
  by_cases h0 : x < 0
  ·have hlk := lkp_neg h0 met
   simp only [go_sem, M77, hlk, like_N, show ¬ 0 ≤ x by omega]
  ·obtain ⟨k, rfl⟩ : ∃ k : Nat, x = k := ⟨x.toNat, by omega⟩
   by_cases hm : k ∈ met
   ·have hlk : lkp (pI (k : Int)) (met.map enN) = some (.agg []) := by rw [lkp_N, if_pos hm]
    simp only [go_sem, M77, hlk, like_N]
   ·have hlk : lkp (pI (k : Int)) (met.map enN) = none := by rw [lkp_N, if_neg hm]
    have hns : ¬ (k : Int) < (n.ways.length : Int) := fun h => hc ⟨isSt_iff.2 ⟨k, rfl, by unfold NF.size; omega⟩, by rw [Int.toNat_natCast]; exact hm⟩
    simp only [go_sem, M77, hlk, like_N, hns]
abbrev mC : Nat → Nat := fun n => if n = 200000 then 5 else if n = 200001 then 2 else if n = 200002 then 6 else if n = 200003 then 13 else 140000
abbrev cRows (n : NF) (s : WorkC) : List (Nat × Row) := [(2, .box (nBox n)), (5, .box [.mp 13]), (6, .box [.row 140000 0 s.2.1.length]), (13, .mp (s.1.map enN)), (140000, .sl 1 ((toI s.2.1).map (fun n => pI n) ++ s.2.2))]
theorem fn45 (n : NF) (l : List Int) (hg : n.Good) (hsz : n.size ≤ 1000) (hwl : ∀ s, (n.ways.getD s []).length ≤ 1000) (hl : l.length ≤ 100000) : Fn Tryz.prog 45 [pNf n, ints l] (.pv (pNs (closeN n l))) [] := by
 refine Run45 [] (by simp) ?_
 simp only [go_sem, M45]
 refine run_loopF (T := Nat × WorkC) (fun _ => []) (fun _ => [(6, 0, 140000, 1)]) [2, 5, 6, 7, 15, 16, 17] [2, 5, 6, 13, 140000]
  (fun t => ⟨[(2, .ptr 2 0), (5, .ptr 5 0), (6, .ptr 6 0), (7, .fn 77 [.ptr 5 0, .ptr 2 0, .ptr 6 0]), (15, .pv (ints l)), (16, .pv (pI l.length)), (17, .pv (pI t.1))], cRows n t.2⟩)
  (fun t => t.1 ≤ l.length ∧ PreC n (inI l) (l.drop t.1) t.2.1 t.2.2.1 ∧ t.2.2.1.length ≤ t.2.1.length) (fun t => l.length - t.1) (0, [], [], []) ?_ ⟨Nat.zero_le _, PreC.init n l, Nat.le_refl _⟩ ?_
 ·simp only [go_sem]
  rfl
 rintro ⟨i, s⟩ ⟨hi, hP, hle⟩
 simp only at hi hP hle
 have hml := len_le hP.nodup hP.inn
 by_cases hlt : i < l.length
 ·simp only [go_sem, B45_0, show (i : Int) < (l.length : Int) by omega, wf_ints, getD_map hlt]
  have hS := fnS77 n l[i] s hsz (by omega)
  have hd : l.drop i = l[i] :: l.drop (i + 1) := List.drop_eq_getElem_cons hlt
  rw [hd] at hP
  have hA := hP.add (List.getElem_mem hlt)
  have hle2 := addC_le (n := n) (x := l[i]) hle
  generalize addC n l[i] s = s1 at hS hA hle2
  refine runR_calls mC (by simp only [go_sem]) (by simp only [go_sem] <;> rfl) hS rfl (by intro e he; simp only [List.mem_cons, List.not_mem_nil, or_false] at he; rcases he with rfl | rfl | rfl | rfl | rfl <;> simp only [go_sem, mC]) (by simp) (by simp [mC]) (by simp [mC]) (by intro e he _; simp only [List.mem_cons, List.not_mem_nil, or_false] at he; rcases he with rfl | rfl | rfl | rfl | rfl <;> simp [mC]) ?_
  simp only [go_sem, mC]
  exact ⟨⟨by omega, by omega⟩, (i + 1, s1), rfl, ⟨hlt, hA, hle2⟩, by simp only; omega⟩
 ·simp only [go_sem, B45_0, R45_0, show ¬ (i : Int) < (l.length : Int) by omega]
  rw [List.drop_of_length_le (by omega)] at hP
  have hI0 := hP.done
  refine run_loopN (T := WorkC) [2, 5, 6, 7] [2, 5, 6, 13, 140000] (fun s => ⟨[(2, .ptr 2 0), (5, .ptr 5 0), (6, .ptr 6 0), (7, .fn 77 [.ptr 5 0, .ptr 2 0, .ptr 6 0])], cRows n s⟩)
   (fun s => InvC n (inI l) s.1 s.2.1 ∧ s.2.1.length ≤ s.1.length) (muC n) s rfl ⟨hI0, hle⟩ ?_
  clear hml hP hI0 hle s
  rintro ⟨met, ws, xs⟩ ⟨hI, hws⟩
  simp only at hI hws
  have hml := len_le hI.nodup hI.inn
  rcases List.eq_nil_or_concat ws with rfl | ⟨w1, k, rfl⟩
  ·have hS := fnS69 met (closeN n l) hI.nodup (closeN_ris n l) (fun y => hI.end_ hg y) (by omega)
   simp only [go_sem, B45_1, R45_1]
   refine runR_calls (fun n => if n = 200000 then 13 else n) (by simp only [go_sem]) (by simp only [go_sem] <;> rfl) hS rfl (by intro e he; simp only [List.mem_cons, List.not_mem_nil, or_false] at he; rcases he with rfl <;> simp only [go_sem]) (by simp) (by simp) (by simp) (by intro e he h9; simp only [List.mem_cons, List.not_mem_nil, or_false] at he; rcases he with rfl <;> simp at h9) ?_
   simp only [go_sem]
  ·rw [List.concat_eq_append] at *
   have hM := hI.pop
   have hk := hI.inn k (hI.sub k (by simp))
   rw [List.length_append, List.length_singleton] at hws
   have e1 : (((w1.length + 1 : Nat) : Int) - 1).toNat = w1.length := by omega
   have hget : ((toI (w1 ++ [k])).map (fun n => pI n) ++ xs).getD w1.length default = pI (k : Int) := by simp [List.getD_eq_getElem?_getD, toI]
   have hbs : (toI (w1 ++ [k])).map (fun n => pI n) ++ xs = (toI w1).map (fun n => pI n) ++ (pI (k : Int) :: xs) := by simp [toI]
   simp only [go_sem, B45_1, List.length_append, List.length_singleton, e1, hget, show (0 : Int) < ((w1.length + 1 : Nat) : Int) by omega]
   refine ⟨⟨by omega, by omega⟩, ⟨by omega, by omega⟩, by simp [toI]; omega, ⟨by omega, by omega⟩, ⟨by omega, by omega⟩, ?_⟩
   refine runR_call (by simp only [go_sem]) rfl (fn78 n (k : Int) hsz) (.inl rfl) trivial ?_
   have hwa : waysAt n (k : Int) = n.ways.getD k [] := by unfold waysAt; rw [if_pos (by omega)]; simp
   rw [hwa]
   have hWl := hwl k
   generalize hW : n.ways.getD k [] = W at hM hWl
   simp only [go_sem]
   rw [hbs]
   have hmu0 : muC n (met, w1, pI (k : Int) :: xs) < muC n (met, w1 ++ [k], xs) := by unfold muC; simp only [List.length_append, List.length_singleton]; omega
   refine run_loopN (T := Nat × WorkC) [2, 5, 6, 7, 41, 42, 43] [2, 5, 6, 13, 140000] (fun t => ⟨[(2, .ptr 2 0), (5, .ptr 5 0), (6, .ptr 6 0), (7, .fn 77 [.ptr 5 0, .ptr 2 0, .ptr 6 0]), (41, .pv (pWs W)), (42, .pv (pI W.length)), (43, .pv (pI t.1))], cRows n t.2⟩)
    (fun t => t.1 ≤ W.length ∧ MidC n (inI l) k (W.drop t.1) t.2.1 t.2.2.1 ∧ t.2.2.1.length ≤ t.2.1.length ∧ muC n t.2 ≤ muC n (met, w1, pI (k : Int) :: xs)) (fun t => W.length - t.1) (0, met, w1, pI (k : Int) :: xs) rfl ⟨Nat.zero_le _, hM, by simp only; omega, Nat.le_refl _⟩ ?_
   rintro ⟨j, s⟩ ⟨hj, hMj, hle, hmu⟩
   simp only at hj hMj hle hmu
   have hml2 := len_le hMj.nodup hMj.inn
   by_cases hjl : j < W.length
   ·have hd : W.drop j = W[j] :: W.drop (j + 1) := List.drop_eq_getElem_cons hjl
    rw [hd] at hMj
    by_cases he : W[j].1 = -1
    ·have hS := fnS77 n W[j].2 s hsz (by omega)
     have hA := hMj.add hg he
     have hle2 := addC_le (n := n) (x := W[j].2) hle
     have hmu2 := muC_add (n := n) (x := W[j].2) (s := s) (len_le hA.nodup hA.inn)
     generalize addC n W[j].2 s = s1 at hS hA hle2 hmu2
     simp only [go_sem, B45_2, show (j : Int) < (W.length : Int) by omega, wf_pE, getD_map hjl, he]
     refine runR_calls mC (by simp only [go_sem]) (by simp only [go_sem] <;> rfl) hS rfl (by intro e he; simp only [List.mem_cons, List.not_mem_nil, or_false] at he; rcases he with rfl | rfl | rfl | rfl | rfl <;> simp only [go_sem, mC]) (by simp) (by simp [mC]) (by simp [mC]) (by intro e he _; simp only [List.mem_cons, List.not_mem_nil, or_false] at he; rcases he with rfl | rfl | rfl | rfl | rfl <;> simp [mC]) ?_
     simp only [go_sem, mC]
     exact ⟨⟨by omega, by omega⟩, (j + 1, s1), rfl, ⟨hjl, hA, hle2, by simp only; omega⟩, by simp only; omega⟩
    ·have hA := hMj.skip he
     simp only [go_sem, B45_2, show (j : Int) < (W.length : Int) by omega, wf_pE, getD_map hjl, he]
     exact ⟨⟨by omega, by omega⟩, (j + 1, s), rfl, ⟨hjl, hA, hle, hmu⟩, by simp only; omega⟩
   ·rw [List.drop_of_length_le (by omega)] at hMj
    simp only [go_sem, B45_2, show ¬ (j : Int) < (W.length : Int) by omega]
    exact ⟨s, rfl, ⟨hMj.done, hle⟩, by omega⟩
end Go.Vc
