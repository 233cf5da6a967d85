/- A part of the proofs of the seat YtmgbbmhljopepaaGreatDoor: the contracts of functions, each proved out of its code. -/
import Derived.Test.YtmgbbmhljopepaaGreatDoorVe
import Derived.Test.YtmgbbmhljopepaaGreatDoorProg
import Derived.Test.YtmgbbmhljopepaaGreatDoorWg
import Derived.Test.YtmgbbmhljopepaaGreatDoorWh
import Derived.Test.YtmgbbmhljopepaaGreatDoorWb
import Derived.Test.YtmgbbmhljopepaaGreatDoorWj
namespace Go.Vc
open Go.Proofs
set_option maxRecDepth 100000
def B68_1 : MC := (.seq (.reg [qi 25 (.bin .lss (.t 24) (.t 23))] [] [2,3,7,14,15,16,22,23,24,25] [3,36,1022,2007,200000]) (.seq (.cond (.t 25) .skip (.exit 2)) (.seq (.block 3 (.seq (.reg [qi 26 (.ia (.t 22) (.t 24) 2),qi 27 (.ld (.t 26) 2 true),⟨some 11,none,.alloc [.pv (.sc (.int .i64 0)),.pv (.sc (.int .i64 0))]⟩,⟨none,none,.st (.t 11) (.t 27) 2⟩] [] [2,3,7,11,14,15,16,22,23,24] [3,11,36,1022,2007,200000]) (.seq (.reg [qi 28 (.fa (.t 11) 0),qi 29 (.ld (.t 28) 1 false),mi 30 2,qi 31 (.bin .eql (.t 29) (.t 30))] [] [2,3,7,11,14,15,16,22,23,24,31] [3,11,36,1022,2007,200000]) (.cond (.t 31) (.reg [mi 32 7,qi 33 (.fa (.t 11) 1),qi 34 (.ld (.t 33) 1 false),⟨some 35,none,.lits [.t 34] 1⟩,⟨some 36,none,.app (.t 32) (.t 35) 1 8⟩,mi 7 36] [] [2,3,7,14,15,16,22,23,24] [3,36,1022,2007,200000]) .skip)))) (.reg [qi 37 (.bin .add (.t 24) (ic 1)),mi 24 37] [] [2,3,7,14,15,16,22,23,24] [3,36,1022,2007,200000]))))
def B68_0 : MC := (.seq (.reg [qi 17 (.bin .lss (.t 16) (.t 15))] [] [2,3,7,14,15,16,17] [3,36,2007,200000]) (.seq (.cond (.t 17) .skip (.exit 0)) (.seq (.block 1 (.seq (.reg [qi 18 (.ia (.t 14) (.t 16) 1),qi 19 (.ld (.t 18) 1 false),mi 9 19] [] [2,3,7,9,14,15,16] [3,36,2007,200000]) (.seq (.reg [qi 20 (.ld (.t 3) 4 true),mi 21 9,⟨some 22,none,.call (.f 78) [.t 20,.t 21]⟩,qi 23 (.len (.t 22) false),qi 24 (.mv (ic 0))] [] [2,3,7,14,15,16,22,23,24] [3,36,1022,2007,200000]) (.block 2 (.loop B68_1))))) (.reg [qi 38 (.bin .add (.t 16) (ic 1)),mi 16 38] [] [2,3,7,14,15,16] [3,36,2007,200000]))))
def R68_0 : MC := (.seq (.reg [qi 39 (.ld (.t 3) 4 true),mi 40 7,⟨some 41,none,.call (.f 45) [.t 39,.t 40]⟩,mi 6 41] [] [6] [1041,200000]) .ret)
def M68 : MC := (.seq (.reg [⟨some 3,none,.box (.t 0)⟩,qi 6 (.mv .nil)] [] [1,2,3] [3,200000]) (.seq (.seq (.reg [mi 12 2,qi 13 (.bin .lss (.t 12) (ic 0))] [] [1,2,3,13] [3,200000]) (.cond (.t 13) (.seq (.reg [qi 6 (.mv .nil)] [] [6] [1041,200000]) .ret) .skip)) (.seq (.reg [qi 7 (.mv .nil)] [(7,2007,1)] [1,2,3,7] [3,36,2007,200000]) (.seq (.seq (.reg [mi 14 1,qi 15 (.len (.t 14) false),qi 16 (.mv (ic 0))] [] [2,3,7,14,15,16] [3,36,2007,200000]) (.block 0 (.loop B68_0))) R68_0))))
theorem mc68 : ofCode Tryz.prog [] Tryz.f68.ntmps [(0, ⟨[1, 2, 3], [3, 200000], [], 0, [], none⟩),
  (1, ⟨[1, 2, 3, 13], [3, 200000], [], 0, [], none⟩),
  (2, ⟨[6], [1041, 200000], [], 0, [], none⟩),
  (3, ⟨[1, 2, 3, 7], [3, 36, 2007, 200000], [], 0, [(7, 2007, 1)], none⟩),
  (4, ⟨[2, 3, 7, 14, 15, 16], [3, 36, 2007, 200000], [], 0, [], none⟩),
  (5, ⟨[2, 3, 7, 14, 15, 16, 17], [3, 36, 2007, 200000], [], 0, [], none⟩),
  (6, ⟨[2, 3, 7, 9, 14, 15, 16], [3, 36, 2007, 200000], [], 0, [], none⟩),
  (7, ⟨[2, 3, 7, 14, 15, 16, 22, 23, 24], [3, 36, 1022, 2007, 200000], [], 0, [], none⟩),
  (8, ⟨[2, 3, 7, 14, 15, 16, 22, 23, 24, 25], [3, 36, 1022, 2007, 200000], [], 0, [], none⟩),
  (9, ⟨[2, 3, 7, 11, 14, 15, 16, 22, 23, 24], [3, 11, 36, 1022, 2007, 200000], [], 0, [], none⟩),
  (10, ⟨[2, 3, 7, 11, 14, 15, 16, 22, 23, 24, 31], [3, 11, 36, 1022, 2007, 200000], [], 0, [], none⟩),
  (11, ⟨[2, 3, 7, 14, 15, 16, 22, 23, 24], [3, 36, 1022, 2007, 200000], [], 0, [], none⟩),
  (12, ⟨[2, 3, 7, 14, 15, 16, 22, 23, 24], [3, 36, 1022, 2007, 200000], [], 0, [], none⟩),
  (13, ⟨[2, 3, 7, 14, 15, 16], [3, 36, 2007, 200000], [], 0, [], none⟩),
  (14, ⟨[6], [1041, 200000], [], 0, [], none⟩)] (Tryz.f68.body.getD .skip) = some M68 := by kernel_rfl
theorem Run68 {args : List PV} {v : AV} {rs : List (Nat × List PV)} (ids : List Bool) (h : args.length ≤ 42) (hv : run Tryz.prog (retK [RV.tmp 6] ids v rs) M68 [] ⟨entry 0 args, []⟩) : Fn Tryz.prog 68 args v rs :=
 Fn_run ids (by kernel_rfl) Tryz.func68 (by decide) rfl mc68 (by kernel_rfl) (by rw [Tryz.ntmps68]; exact h) (by rw [Tryz.ntmps68]; decide) hv
def B33_0 : MC := (.seq (.reg [qi 24 (.bin .lss (.t 23) (.t 22))] [] [2,5,21,22,23,24] [2,1019,1021,1032]) (.seq (.cond (.t 24) .skip (.exit 0)) (.seq (.block 1 (.seq (.reg [qi 25 (.ia (.t 21) (.t 23) 1),qi 26 (.ld (.t 25) 1 false),mi 7 26] [] [2,5,7,21,22,23] [2,1019,1021,1032]) (.reg [qi 27 (.ld (.t 2) 4 true),mi 28 5,qi 29 (.ld (.t 2) 4 true),mi 30 7,⟨some 31,none,.call (.f 57) [.t 29,.t 30]⟩,⟨some 32,none,.call (.f 68) [.t 27,.t 28,.t 31]⟩,mi 5 32] [] [2,5,21,22,23] [2,1019,1021,1032]))) (.reg [qi 33 (.bin .add (.t 23) (ic 1)),mi 23 33] [] [2,5,21,22,23] [2,1019,1021,1032]))))
def B33_2 : MC := (.seq (.reg [qi 53 (.bin .lss (.t 52) (.t 51))] [] [2,8,35,36,37,50,51,52,53] [2,34,1019,1032,1062]) (.seq (.cond (.t 53) .skip (.exit 4)) (.seq (.block 5 (.seq (.reg [qi 54 (.ia (.t 50) (.t 52) 1),qi 55 (.ld (.t 54) 1 false),mi 12 55] [] [2,8,12,35,36,37,50,51,52] [2,34,1019,1032,1062]) (.reg [mi 56 8,mi 57 12,qi 58 (.mk [] []),⟨none,none,.mset (.t 56) (.t 57) (.t 58) Kk.int⟩] [] [2,8,35,36,37,50,51,52] [2,34,1019,1032,1062]))) (.reg [qi 59 (.bin .add (.t 52) (ic 1)),mi 52 59] [] [2,8,35,36,37,50,51,52] [2,34,1019,1032,1062]))))
def B33_1 : MC := (.seq (.reg [qi 38 (.bin .lss (.t 37) (.t 36))] [] [2,8,35,36,37,38] [2,34,1019,1032,1062]) (.seq (.cond (.t 38) .skip (.exit 2)) (.seq (.block 3 (.seq (.reg [qi 39 (.ia (.t 35) (.t 37) 1),qi 40 (.ld (.t 39) 1 false),mi 10 40] [] [2,8,10,35,36,37] [2,34,1019,1032,1062]) (.seq (.seq (.reg [mi 41 10,qi 42 (.fa (.t 2) 2),qi 43 (.ld (.t 42) 1 false),qi 44 (.len (.t 43) false),qi 45 (.bin .geq (.t 41) (.t 44))] [] [2,8,10,35,36,37,45] [2,34,1019,1032,1062]) (.cond (.t 45) (.exit 2) .skip)) (.seq (.reg [qi 46 (.fa (.t 2) 2),qi 47 (.ld (.t 46) 1 false),mi 48 10,qi 49 (.ia (.t 47) (.t 48) 1),qi 50 (.ld (.t 49) 1 false),qi 51 (.len (.t 50) false),qi 52 (.mv (ic 0))] [] [2,8,35,36,37,50,51,52] [2,34,1019,1032,1062]) (.block 4 (.loop B33_2)))))) (.reg [qi 60 (.bin .add (.t 37) (ic 1)),mi 37 60] [] [2,8,35,36,37] [2,34,1019,1032,1062]))))
def R33_1 : MC := (.seq (.reg [mi 61 8,⟨some 62,none,.calls (.f 69) [.t 61]⟩,mi 4 62] [] [4] [34,1062]) .ret)
def R33_0 : MC := (.seq (.reg [⟨some 34,none,.mkm⟩,mi 8 34] [] [2,5,8] [2,34,1019,1032,1062]) (.seq (.seq (.reg [mi 35 5,qi 36 (.len (.t 35) false),qi 37 (.mv (ic 0))] [] [2,8,35,36,37] [2,34,1019,1032,1062]) (.block 2 (.loop B33_1))) R33_1))
def M33 : MC := (.seq (.reg [⟨some 2,none,.box (.t 0)⟩,qi 4 (.mv .nil)] [] [1,2] [2]) (.seq (.seq (.reg [mi 13 1,⟨some 14,none,.call (.f 56) [.t 13]⟩,qi 15 (.not (.t 14))] [] [1,2,15] [2,1014]) (.cond (.t 15) (.seq (.reg [qi 4 (.mv .nil)] [(4,5,0)] [4] [34,1062]) .ret) .skip)) (.seq (.reg [qi 16 (.ld (.t 2) 4 true),qi 17 (.fa (.t 2) 3),qi 18 (.ld (.t 17) 1 false),⟨some 19,none,.call (.f 45) [.t 16,.t 18]⟩,mi 5 19] [] [1,2,5] [2,1019,1032]) (.seq (.seq (.reg [mi 20 1,⟨some 21,none,.call (.f 41) [.t 20]⟩,qi 22 (.len (.t 21) false),qi 23 (.mv (ic 0))] [] [2,5,21,22,23] [2,1019,1021,1032]) (.block 0 (.loop B33_0))) R33_0))))
theorem mc33 : ofCode Tryz.prog [62] Tryz.f33.ntmps [(0, ⟨[1, 2], [2], [], 0, [], none⟩),
  (1, ⟨[1, 2, 15], [2, 1014], [], 0, [], none⟩),
  (2, ⟨[4], [34, 1062], [], 0, [(4, 5, 0)], none⟩),
  (3, ⟨[1, 2, 5], [2, 1019, 1032], [], 0, [], none⟩),
  (4, ⟨[2, 5, 21, 22, 23], [2, 1019, 1021, 1032], [], 0, [], none⟩),
  (5, ⟨[2, 5, 21, 22, 23, 24], [2, 1019, 1021, 1032], [], 0, [], none⟩),
  (6, ⟨[2, 5, 7, 21, 22, 23], [2, 1019, 1021, 1032], [], 0, [], none⟩),
  (7, ⟨[2, 5, 21, 22, 23], [2, 1019, 1021, 1032], [(0, 97), (1, 98), (2, 116), (3, 120), (4, 0), (5, 0), (6, 64)], 127, [], none⟩),
  (8, ⟨[2, 5, 21, 22, 23], [2, 1019, 1021, 1032], [], 0, [], none⟩),
  (9, ⟨[2, 5, 8], [2, 34, 1019, 1032, 1062], [], 0, [], none⟩),
  (10, ⟨[2, 8, 35, 36, 37], [2, 34, 1019, 1032, 1062], [], 0, [], none⟩),
  (11, ⟨[2, 8, 35, 36, 37, 38], [2, 34, 1019, 1032, 1062], [], 0, [], none⟩),
  (12, ⟨[2, 8, 10, 35, 36, 37], [2, 34, 1019, 1032, 1062], [], 0, [], none⟩),
  (13, ⟨[2, 8, 10, 35, 36, 37, 45], [2, 34, 1019, 1032, 1062], [], 0, [], none⟩),
  (14, ⟨[2, 8, 35, 36, 37, 50, 51, 52], [2, 34, 1019, 1032, 1062], [], 0, [], none⟩),
  (15, ⟨[2, 8, 35, 36, 37, 50, 51, 52, 53], [2, 34, 1019, 1032, 1062], [], 0, [], none⟩),
  (16, ⟨[2, 8, 12, 35, 36, 37, 50, 51, 52], [2, 34, 1019, 1032, 1062], [], 0, [], none⟩),
  (17, ⟨[2, 8, 35, 36, 37, 50, 51, 52], [2, 34, 1019, 1032, 1062], [], 0, [], none⟩),
  (18, ⟨[2, 8, 35, 36, 37, 50, 51, 52], [2, 34, 1019, 1032, 1062], [], 0, [], none⟩),
  (19, ⟨[2, 8, 35, 36, 37], [2, 34, 1019, 1032, 1062], [], 0, [], none⟩),
  (20, ⟨[4], [34, 1062], [], 0, [], none⟩)] (Tryz.f33.body.getD .skip) = some M33 := by kernel_rfl
theorem Run33 {args : List PV} {v : AV} {rs : List (Nat × List PV)} (ids : List Bool) (h : args.length ≤ 63) (hv : run Tryz.prog (retK [RV.tmp 4] ids v rs) M33 [] ⟨entry 0 args, []⟩) : Fn Tryz.prog 33 args v rs :=
 Fn_run ids (by kernel_rfl) Tryz.func33 (by decide) rfl mc33 (by kernel_rfl) (by rw [Tryz.ntmps33]; exact h) (by rw [Tryz.ntmps33]; decide) hv
end Go.Vc

namespace Go.Vc
open Go.Proofs
set_option linter.unusedSimpArgs false
set_option linter.unusedVariables false
def goF (sign : Int) (W : List (Int × Int)) : List Int := (W.filter (fun e => decide (e.1 = sign))).map (·.2)
theorem goF_succ {sign : Int} {W : List (Int × Int)} {k : Nat} (h : k < W.length) : goF sign (W.take (k + 1)) = goF sign (W.take k) ++ (if W[k].1 = sign then [W[k].2] else []) := by
 unfold goF
 rw [List.take_succ_eq_append_getElem h, List.filter_append, List.map_append]
 congr 1
 by_cases h1 : W[k].1 = sign <;> simp [h1]
theorem goF_len (sign : Int) (W : List (Int × Int)) : (goF sign W).length ≤ W.length := by
 unfold goF
 rw [List.length_map]
 exact List.length_filter_le _ _
def goK (n : NF) (l : List Int) (sign : Int) (i k : Nat) : List Int := goN n (l.take i) sign ++ goF sign ((waysAt n (l.getD i 0)).take k)
theorem goK_zero (n : NF) (l : List Int) (sign : Int) (i : Nat) : goK n l sign i 0 = goN n (l.take i) sign := by simp [goK, goF]
theorem goK_end {n : NF} {l : List Int} {sign : Int} {i : Nat} (h : i < l.length) : goK n l sign i (waysAt n (l.getD i 0)).length = goK n l sign (i + 1) 0 := by
 rw [goK_zero]
 unfold goK
 rw [List.take_length, List.take_succ_eq_append_getElem h]
 unfold goN
 rw [List.flatMap_append]
 simp [List.getD_eq_getElem?_getD, h, goF]
theorem goN_len {n : NF} {sign : Int} (hw : ∀ x, (waysAt n x).length ≤ 200) : ∀ l : List Int, (goN n l sign).length ≤ 200 * l.length
 | [] => by simp [goN]
 | x :: l => by
  have := goN_len (sign := sign) hw l
  have h2 := goF_len sign (waysAt n x)
  have h3 := hw x
  unfold goN at *
  rw [List.flatMap_cons, List.length_append, List.length_cons]
  unfold goF at h2
  omega
theorem goK_len {n : NF} {l : List Int} {sign : Int} {i k : Nat} (hw : ∀ x, (waysAt n x).length ≤ 200) (hi : i ≤ l.length) : (goK n l sign i k).length ≤ 200 * i + k := by
 have h1 := goN_len (sign := sign) hw (l.take i)
 have h2 := goF_len sign ((waysAt n (l.getD i 0)).take k)
 rw [List.length_take] at h1 h2
 unfold goK
 rw [List.length_append]
 have : min i l.length ≤ i := Nat.min_le_left _ _
 omega
theorem waysAt_len {n : NF} (hw : ∀ s, (n.ways.getD s []).length ≤ 200) (x : Int) : (waysAt n x).length ≤ 200 := by
 unfold waysAt
 split
 ·exact hw _
 ·simp
theorem fn68 (n : NF) (l : List Int) (sign : Int) (hg : n.Good) (hsz : n.size ≤ 1000) (hwl : ∀ s, (n.ways.getD s []).length ≤ 200) (hl : l.length ≤ 200) : Fn Tryz.prog 68 [pNf n, ints l, pI sign] (.pv (pNs (stepN n l sign))) [] := by
 have hw := waysAt_len hwl
 refine Run68 [] (by simp) ?_
 unfold stepN
 by_cases h0 : sign < 0
 ·simp only [go_sem, M68, h0]
  rfl
 rw [if_neg h0]
 simp only [go_sem, M68, h0]
 have key : ∀ i, List.take (goK n l sign i 0).length ((goK n l sign i 0).map fun n => pI n) = (goK n l sign i 0).map fun n => pI n := fun i => List.take_of_length_le (by simp)
 refine run_loopG (T := Nat) (fun i => if i = l.length then [(2007, 2007, 0)] else []) [2, 3, 7, 14, 15, 16] [3, 2007]
  (fun i => if i = l.length then ⟨[(2, .pv (pI sign)), (3, .ptr 3 0), (7, .pv (ints (goK n l sign i 0))), (14, .pv (ints l)), (15, .pv (pI l.length)), (16, .pv (pI i))], [(3, .box (nBox n))]⟩
   else ⟨[(2, .pv (pI sign)), (3, .ptr 3 0), (7, .row 2007 0 (goK n l sign i 0).length), (14, .pv (ints l)), (15, .pv (pI l.length)), (16, .pv (pI i))], [(3, .box (nBox n)), (2007, .sl 1 ((goK n l sign i 0).map fun n => pI n))]⟩) (fun i => i ≤ l.length) (fun i => l.length - i) 0 ?_ (Nat.zero_le _) ?_
 ·have hz : goK n l sign 0 0 = [] := by simp [goK_zero, goN]
  by_cases h9 : 0 = l.length
  ·simp only [go_sem, h9]
   rw [← h9, hz]; rfl
  ·simp only [go_sem, h9, hz]
 intro i hi
 by_cases hlt : i < l.length
 ·rw [if_neg (show ¬ i = l.length by omega)]
  have hli : l.getD i 0 = l[i] := by simp [List.getD_eq_getElem?_getD, hlt]
  have hW := hw l[i]
  simp only [go_sem, B68_0, show (i : Int) < (l.length : Int) by omega, wf_ints, getD_map hlt]
  refine runR_call (by simp only [go_sem]) rfl (fn78 n l[i] hsz) (.inl rfl) trivial ?_
  have hend := goK_end (n := n) (sign := sign) hlt
  rw [hli] at hend
  have hgk : ∀ k, goK n l sign i k = goN n (l.take i) sign ++ goF sign ((waysAt n l[i]).take k) := fun k => by unfold goK; rw [hli]
  generalize waysAt n l[i] = W at hW hend hgk ⊢
  simp only [go_sem]
  refine run_loop (T := Nat) (fun k => ⟨[(2, .pv (pI sign)), (3, .ptr 3 0), (7, .row 2007 0 (goK n l sign i k).length), (14, .pv (ints l)), (15, .pv (pI l.length)), (16, .pv (pI i)), (22, .pv (pWs W)), (23, .pv (pI W.length)), (24, .pv (pI k))],
   [(3, .box (nBox n)), (2007, .sl 1 ((goK n l sign i k).map fun n => pI n))]⟩) (fun k => k ≤ W.length) (fun k => W.length - k) 0 rfl (Nat.zero_le _) ?_
  intro k hk
  have hkl := goK_len (sign := sign) (k := k) hw hi
  have tk : ((goK n l sign i k).map fun n => pI n).take (goK n l sign i k).length = (goK n l sign i k).map fun n => pI n := List.take_of_length_le (by simp)
  by_cases hkk : k < W.length
  ·have hsc : goK n l sign i (k + 1) = goK n l sign i k ++ (if W[k].1 = sign then [W[k].2] else []) := by rw [hgk, hgk, goF_succ hkk, List.append_assoc]
   by_cases he : W[k].1 = sign
   ·rw [if_pos he] at hsc
    simp only [go_sem, B68_1, show (k : Int) < (W.length : Int) by omega, wf_pE, getD_map hkk, he, tk]
    exact ⟨⟨wf_ints [W[k].2], by omega, by omega⟩, ⟨by omega, by omega⟩, k + 1, by rw [hsc, List.map_append, List.length_append]; rfl, hkk, by omega⟩
   ·rw [if_neg he, List.append_nil] at hsc
    simp only [go_sem, B68_1, show (k : Int) < (W.length : Int) by omega, wf_pE, getD_map hkk, he, tk]
    exact ⟨⟨by omega, by omega⟩, k + 1, by rw [hsc]; rfl, hkk, by omega⟩
  ·have hke : k = W.length := by omega
   subst hke
   simp only [go_sem, B68_1, show ¬ (W.length : Int) < (W.length : Int) by omega]
   refine ⟨⟨by omega, by omega⟩, i + 1, ?_, hlt, by omega⟩
   have hsi : (i : Int) + 1 = ((i + 1 : Nat) : Int) := by omega
   have hky := key (i + 1)
   rw [hend]
   unfold GH
   by_cases h9 : i + 1 = l.length
   ·simp only [go_sem, h9]
    rw [h9] at hky hsi
    rw [hky, hsi]
   ·simp only [go_sem, h9]
    rw [hsi]
 ·have hie : i = l.length := by omega
  subst hie
  rw [if_pos rfl]
  have hkl := goK_len (sign := sign) (k := 0) hw (Nat.le_refl l.length)
  have tk : ((goK n l sign l.length 0).map fun n => pI n).take (goK n l sign l.length 0).length = (goK n l sign l.length 0).map fun n => pI n := List.take_of_length_le (by simp)
  simp only [go_sem, B68_0, R68_0, show ¬ (l.length : Int) < (l.length : Int) by omega]
  refine runR_call (by simp only [go_sem]) rfl (fn45 n (goK n l sign l.length 0) hg hsz (fun s => by have := hwl s; omega) (by omega)) (.inl rfl) trivial ?_
  simp only [go_sem]
  rw [goK_zero, List.take_length]
end Go.Vc

namespace Go.Vc
open Go.Proofs
set_option linter.unusedSimpArgs false
set_option linter.unusedVariables false
end Go.Vc

namespace Go.Vc
open Go.Proofs
set_option linter.unusedSimpArgs false
set_option linter.unusedVariables false
end Go.Vc

namespace Go.Vc
open Go.Proofs
set_option linter.unusedSimpArgs false
set_option linter.unusedVariables false
def addU (met : List Nat) (k : Nat) : List Nat := if k ∈ met then met else met ++ [k]
theorem addU_mem {met : List Nat} {k y : Nat} : y ∈ addU met k ↔ y ∈ met ∨ y = k := by
 unfold addU
 split
 ·rename_i h
  constructor
  ·exact .inl
  ·rintro (h1 | rfl); exact h1; exact h
 ·simp
theorem addU_nodup {met : List Nat} {k : Nat} (h : met.Nodup) : (addU met k).Nodup := by
 unfold addU
 split
 ·exact h
 ·rename_i h2; exact nodup_snoc h h2
theorem addU_len (met : List Nat) (k : Nat) : (addU met k).length ≤ met.length + 1 := by unfold addU; split <;> simp
theorem mput_old (k : Nat) : ∀ {met : List Nat}, k ∈ met → mput (pI (k : Int)) (.agg []) (met.map enN) = met.map enN
 | [], h => by cases h
 | m :: met, h => by
  by_cases h1 : k = m
  ·subst h1; simp [mput, keyEq]
  ·have h2 : ¬ ((k : Int) = (m : Int)) := by omega
   simp only [List.map_cons, mput, keyEq, h2, decide_false, Bool.false_eq_true, if_false, List.cons.injEq, true_and]
   exact mput_old k ((List.mem_cons.1 h).resolve_left h1)
theorem mput_U (k : Nat) (met : List Nat) : mput (pI (k : Int)) (.agg []) (met.map enN) = (addU met k).map enN := by
 unfold addU
 split
 ·rename_i h; exact mput_old k h
 ·rename_i h; exact mput_N k h
theorem fn33 (gs : List (List ByteArray)) (t : ByteArray) (hgo : GsOk gs) (ht : t.size ≤ 1000) : Fn Tryz.prog 33 [pNf (nfaOf gs), pS t] (.pv (pNs (if topicB t = true then resN gs (partsB t) else []))) [] := by
 refine Run33 [] (by simp) ?_
 simp only [go_sem, M33]
 refine runR_callf (by simp only [go_sem]) (by simp only [go_sem] <;> rfl) (fn56 t) ⟨rfl, trivial⟩ trivial ?_
 simp only [go_sem]
 refine ⟨fun h => by rw [h]; rfl, fun htp => ?_⟩
 rw [htp]
 simp only [if_true]
 have hg := good_nfa gs
 have hsz := hgo.size
 have hwl : ∀ s, ((nfaOf gs).ways.getD s []).length ≤ 200 := fun s => by have := hgo.ways s; omega
 have hbl : (nfaOf gs).beg.length ≤ 20 := by have := hgo.n; simp [nfaOf]; omega
 have hdl : (nfaOf gs).done.length = (nfaOf gs).size := by rw [size_nfa]; exact doneG_len gs 0
 have hsg : (nfaOf gs).signs.length ≤ 160 := hgo.signs
 have hris : RisB (nfaOf gs).signs := signsOf_ris gs
 have hres : ∀ T : List ByteArray, ∀ g, g ∈ resN gs T ↔ ∃ s, s ∈ walkN (nfaOf gs) T ∧ g ∈ (nfaOf gs).done.getD s [] := fun T g => resN_mem
 have hwlt : ∀ T : List ByteArray, ∀ s, s ∈ walkN (nfaOf gs) T → s < (nfaOf gs).size := fun T s h => walkN_lt h
 have hrl : ∀ T, (resN gs T).length ≤ 20 := fun T => by
  have := List.length_filter_le (fun i => matchL (gs.getD i []) T) (List.range gs.length)
  have := hgo.n
  unfold resN; simp at *; omega
 have hdn : ∀ s, s < (nfaOf gs).size → ((nfaOf gs).done.getD s []).length ≤ 1 := fun s h => by
  rw [size_nfa] at h
  obtain ⟨i, hi, _, k, hk, rfl⟩ := base_split _ (Nat.le_refl _) s h
  have e := doneG_at gs 0 i k hi hk
  rw [show (nfaOf gs).done = doneG 0 gs from rfl, e]; split <;> simp
 refine runR_call (by simp only [go_sem]) rfl (fn45 (nfaOf gs) (begI (nfaOf gs)) hg (by omega) (fun s => by have := hwl s; omega) (by simp [begI, toI]; omega)) (.inl rfl) trivial ?_
 simp only [go_sem]
 refine runR_call (by simp only [go_sem]) rfl (fn41 t ht) (.inl rfl) trivial ?_
 have hpl := partsB_len t
 generalize nfaOf gs = n at *
 generalize partsB t = T at *
 simp only [go_sem]
 have hw0 : closeN n (begI n) = walkN n (T.take 0) := rfl
 rw [hw0]
 refine run_loopN (T := Nat) [2, 5, 21, 22, 23] [2] (fun k => ⟨[(2, .ptr 2 0), (5, .pv (pNs (walkN n (T.take k)))), (21, .pv (ss T)), (22, .pv (pI T.length)), (23, .pv (pI k))], [(2, .box (nBox n))]⟩) (fun k => k ≤ T.length) (fun k => T.length - k) 0 ?_ (Nat.zero_le _) ?_
 ·simp only [go_sem]
 intro k hk
 by_cases hkk : k < T.length
 ·simp only [go_sem, B33_0, show (k : Int) < (T.length : Int) by omega, wf_ss, getD_map hkk]
  refine runR_call (by simp only [go_sem]) rfl (fn57 n.signs (.lst (n.ways.map pWs)) (.lst (n.done.map pNs)) (pNs n.beg) T[k] hris (by omega)) (.inl rfl) trivial ?_
  simp only [go_sem]
  have hll := walkN_len n (T.take k)
  refine runR_call (by simp only [go_sem]) rfl (fn68 n (toI (walkN n (T.take k))) (letterN n.signs T[k]) hg (by omega) hwl (by simp [toI]; omega)) (.inl rfl) trivial ?_
  simp only [go_sem]
  refine ⟨⟨by omega, by omega⟩, k + 1, ?_, hkk, by omega⟩
  rw [List.take_succ_eq_append_getElem hkk, walkN_snoc]; rfl
 ·have hke : k = T.length := by omega
  subst hke
  simp only [go_sem, B33_0, R33_0, show ¬ (T.length : Int) < (T.length : Int) by omega, List.take_length]
  have hAl := walkN_len n T
  have hres := hres T
  have hwlt := hwlt T
  have hrr := resN_ris gs T
  have hrl := hrl T
  generalize walkN n T = A at hAl hres hwlt
  generalize resN gs T = Rs at hres hrr hrl ⊢
  rw [show (toI A).length = A.length by simp [toI]]
  refine run_loopN (T := Nat × List Nat) [2, 8, 35, 36, 37] [2, 34] (fun t => ⟨[(2, .ptr 2 0), (8, .mp 34), (35, .pv (pNs A)), (36, .pv (pI A.length)), (37, .pv (pI t.1))], [(2, .box (nBox n)), (34, .mp (t.2.map enN))]⟩)
   (fun t => t.1 ≤ A.length ∧ t.2.Nodup ∧ t.2.length ≤ t.1 ∧ ∀ g, g ∈ t.2 ↔ ∃ s, s ∈ A.take t.1 ∧ g ∈ n.done.getD s []) (fun t => A.length - t.1) (0, []) rfl ⟨Nat.zero_le _, by simp, by simp, by simp⟩ ?_
  rintro ⟨i, met⟩ ⟨hi, hnd, hml, hmem⟩
  simp only at hi hnd hml hmem
  by_cases hin : i < A.length
  ·have hx := hwlt A[i] (List.getElem_mem hin)
   have hxd : A[i] < n.done.length := by omega
   obtain ⟨D, hD⟩ : ∃ D, D = n.done.getD A[i] [] := ⟨_, rfl⟩
   have hDl : D.length ≤ 1 := by rw [hD]; exact hdn _ hx
   have hDg : n.done[A[i]] = D := by rw [hD]; simp [List.getD_eq_getElem?_getD, hxd]
   have hiI : (toI A)[i]'(by simp [toI]; exact hin) = (A[i] : Int) := by simp [toI]
   simp only [go_sem, B33_1, show (i : Int) < (A.length : Int) by omega, show (toI A).length = A.length by simp [toI], wf_ints, getD_map (show i < (toI A).length by simp [toI]; exact hin), hiI, show ¬ (n.done.length : Int) ≤ (A[i] : Int) by omega, getD_map hxd, wf_pNs, hDg, show (A[i] : Int) < (n.done.length : Int) by omega]
   refine run_loopN (T := Nat × List Nat) [2, 8, 35, 36, 37, 50, 51, 52] [2, 34] (fun t => ⟨[(2, .ptr 2 0), (8, .mp 34), (35, .pv (pNs A)), (36, .pv (pI A.length)), (37, .pv (pI i)), (50, .pv (pNs D)), (51, .pv (pI D.length)), (52, .pv (pI t.1))], [(2, .box (nBox n)), (34, .mp (t.2.map enN))]⟩)
    (fun t => t.1 ≤ D.length ∧ t.2.Nodup ∧ t.2.length ≤ i + t.1 ∧ ∀ g, g ∈ t.2 ↔ g ∈ met ∨ g ∈ D.take t.1) (fun t => D.length - t.1) (0, met) ?_ ⟨Nat.zero_le _, hnd, hml, by simp⟩ ?_
   ·simp only [go_sem]
    simp [toI]
   rintro ⟨k, met2⟩ ⟨hk, hnd2, hml2, hmem2⟩
   simp only at hk hnd2 hml2 hmem2
   by_cases hkk : k < D.length
   ·have hkI : (toI D)[k]'(by simp [toI]; exact hkk) = (D[k] : Int) := by simp [toI]
    have hal := addU_len met2 D[k]
    simp only [go_sem, B33_2, show (k : Int) < (D.length : Int) by omega, show (toI D).length = D.length by simp [toI], wf_ints, getD_map (show k < (toI D).length by simp [toI]; exact hkk), hkI, mput_U, like_N]
    refine ⟨⟨by omega, by omega⟩, (k + 1, addU met2 D[k]), rfl, ⟨hkk, addU_nodup hnd2, by simp only; omega, fun g => ?_⟩, by simp only; omega⟩
    rw [addU_mem, hmem2, List.take_succ_eq_append_getElem hkk, List.mem_append, List.mem_singleton, or_assoc]
   ·have hke : k = D.length := by omega
    subst hke
    simp only [go_sem, B33_2, show ¬ (D.length : Int) < (D.length : Int) by omega]
    refine ⟨⟨by omega, by omega⟩, (i + 1, met2), rfl, ⟨hin, hnd2, by simp only; omega, fun g => ?_⟩, by simp only; omega⟩
    rw [hmem2, hmem, List.take_length, List.take_succ_eq_append_getElem hin]
    constructor
    ·rintro (⟨s, h1, h2⟩ | h1)
     ·exact ⟨s, List.mem_append_left _ h1, h2⟩
     ·exact ⟨A[i], List.mem_append_right _ (by simp), by rw [← hD]; exact h1⟩
    ·rintro ⟨s, h1, h2⟩
     rcases List.mem_append.1 h1 with h1 | h1
     ·exact .inl ⟨s, h1, h2⟩
     ·simp only [List.mem_singleton] at h1
      subst h1
      rw [← hD] at h2
      exact .inr h2
  ·have hie : i = A.length := by omega
   subst hie
   rw [List.take_length] at hmem
   have hS := fnS69 met Rs hnd hrr (fun g => (hmem g).trans (hres g).symm) (by omega)
   simp only [go_sem, B33_1, R33_1, show ¬ (A.length : Int) < (A.length : Int) by omega]
   refine runR_calls (fun n => if n = 200000 then 34 else n) (by simp only [go_sem]) (by simp only [go_sem] <;> rfl) hS rfl (by intro e he; simp only [List.mem_cons, List.not_mem_nil, or_false] at he; rcases he with rfl <;> simp only [go_sem]) (by simp) (by simp) (by simp) (by intro e he h9; simp only [List.mem_cons, List.not_mem_nil, or_false] at he; rcases he with rfl <;> simp at h9) ?_
   simp only [go_sem]
end Go.Vc

namespace Go.Vc
open Go.Proofs
set_option maxRecDepth 100000
def B7_0 : MC := (.seq (.seq (.reg [mi 24 5,mi 25 0,qi 26 (.len (.t 25) false),qi 27 (.bin .lss (.t 24) (.t 26))] [] [0,3,5,27] [3]) (.cond (.t 27) .skip (.exit 0))) (.seq (.block 1 (.seq (.reg [mi 30 0,mi 31 5,qi 32 (.ia (.t 30) (.t 31) 1),qi 33 (.ld (.t 32) 1 false),qi 34 (.len (.t 33) true),qi 35 (.bin .gtr (.t 34) (ic 60))] [] [0,3,5,35] [3]) (.cond (.t 35) (.seq (.reg [⟨some 36,none,.call (.f 29) []⟩,mi 4 36] [] [4] [1036,1067,1172]) .ret) .skip))) (.reg [mi 28 5,qi 29 (.bin .add (.t 28) (ic 1)),mi 5 29] [] [0,3,5] [3])))
def B7_1 : MC := (.seq (.seq (.reg [mi 68 13,mi 69 0,qi 70 (.len (.t 69) false),qi 71 (.bin .lss (.t 68) (.t 70))] [] [0,3,6,8,10,12,13,71] [3,6,8,10,85,1039,1044,1049,2012]) (.cond (.t 71) .skip (.exit 2))) (.seq (.block 3 (.seq (.reg [mi 74 0,mi 75 13,qi 76 (.ia (.t 74) (.t 75) 1),qi 77 (.ld (.t 76) 1 false),qi 78 (.fa (.t 3) 0),qi 79 (.ld (.t 78) 1 false),⟨some 80,none,.call (.f 31) [.t 77,.t 79]⟩,mi 14 80] [] [0,3,6,8,10,12,13,14] [3,6,8,10,85,1039,1044,1049,1080,2012]) (.seq (.seq (.reg [mi 81 14] [] [0,3,6,8,10,12,13,14,81] [3,6,8,10,85,1039,1044,1049,1080,2012]) (.cond (.t 81) (.reg [mi 82 12,mi 83 13,⟨some 84,none,.lits [.t 83] 1⟩,⟨some 85,none,.app (.t 82) (.t 84) 1 8⟩,mi 12 85] [] [0,3,6,8,10,12,13,14] [3,6,8,10,85,1039,1044,1049,1080,2012]) .skip)) (.seq (.reg [mi 86 0,mi 87 13,qi 88 (.ia (.t 86) (.t 87) 1),qi 89 (.ld (.t 88) 1 false),qi 90 (.mk [.pv (.sc (.string ⟨#[]⟩)),.pv (.sc (.string ⟨#[]⟩)),.pv (.sc (.bool false)),.pv (.sc (.int .i64 0)),.pv (.sc (.string ⟨#[]⟩)),.e0] [(0,1,(.c (.string ⟨#[116,111,112,105,99]⟩))),(1,1,(.t 89))]),qi 91 (.ld (.t 3) 4 true),mi 93 14,⟨some 92,none,.call (.f 32) [.t 90,.t 91]⟩,qi 94 (.beq true (.t 92) (.t 93))] [] [0,3,6,8,10,12,13,94] [3,6,8,10,85,1039,1044,1049,1080,1092,2012]) (.cond (.t 94) (.seq (.reg [qi 4 (.mv (.c (.bool false)))] [] [4] [1036,1067,1172]) .ret) .skip))))) (.reg [mi 72 13,qi 73 (.bin .add (.t 72) (ic 1)),mi 13 73] [] [0,3,6,8,10,12,13] [3,6,8,10,85,1039,1044,1049,2012])))
def B7_2 : MC := (.seq (.seq (.reg [mi 135 18,mi 136 12,qi 137 (.len (.t 136) false),qi 138 (.bin .lss (.t 135) (.t 137))] [] [12,15,16,17,18,138] [85,1098,1102,1106,2012]) (.cond (.t 138) .skip (.exit 4))) (.seq (.block 5 (.seq (.reg [mi 141 15,mi 142 18,qi 143 (.ia (.t 141) (.t 142) 1),qi 144 (.ld (.t 143) 1 false),mi 145 12,mi 146 18,qi 147 (.ia (.t 145) (.t 146) 1),qi 148 (.ld (.t 147) 1 false),qi 149 (.bin .neq (.t 144) (.t 148)),mi 150 149,gi 151 150 false (.mv (.t 16)),gi 152 150 false (.mv (.t 18)),gi 153 150 false (.ia (.t 151) (.t 152) 1),gi 154 150 false (.ld (.t 153) 1 false),gi 155 150 false (.mv (.t 12)),gi 156 150 false (.mv (.t 18)),gi 157 150 false (.ia (.t 155) (.t 156) 1),gi 158 150 false (.ld (.t 157) 1 false),gi 159 150 false (.bin .neq (.t 154) (.t 158)),qi 160 (.pick (.t 150) (.c (.bool true)) (.t 159)),mi 161 160,gi 162 161 false (.mv (.t 17)),gi 163 161 false (.mv (.t 18)),gi 164 161 false (.ia (.t 162) (.t 163) 1),gi 165 161 false (.ld (.t 164) 1 false),gi 166 161 false (.mv (.t 12)),gi 167 161 false (.mv (.t 18)),gi 168 161 false (.ia (.t 166) (.t 167) 1),gi 169 161 false (.ld (.t 168) 1 false),gi 170 161 false (.bin .neq (.t 165) (.t 169)),qi 171 (.pick (.t 161) (.c (.bool true)) (.t 170))] [] [12,15,16,17,18,171] [85,1098,1102,1106,2012]) (.cond (.t 171) (.seq (.reg [qi 4 (.mv (.c (.bool false)))] [] [4] [1036,1067,1172]) .ret) .skip))) (.reg [mi 139 18,qi 140 (.bin .add (.t 139) (ic 1)),mi 18 140] [] [12,15,16,17,18] [85,1098,1102,1106,2012])))
def R7_2 : MC := (.seq (.reg [⟨some 172,none,.call (.f 29) []⟩,mi 4 172] [] [4] [1036,1067,1172]) .ret)
def R7_1 : MC := (.seq (.reg [qi 95 (.ld (.t 6) 4 true),qi 96 (.fa (.t 3) 0),qi 97 (.ld (.t 96) 1 false),qi 99 (.ld (.t 8) 3 true),qi 100 (.fa (.t 3) 0),qi 101 (.ld (.t 100) 1 false),qi 103 (.ld (.t 10) 3 true),qi 104 (.fa (.t 3) 0),qi 105 (.ld (.t 104) 1 false),⟨some 98,none,.call (.f 33) [.t 95,.t 97]⟩,⟨some 102,none,.call (.f 27) [.t 99,.t 101]⟩,⟨some 106,none,.call (.f 27) [.t 103,.t 105]⟩,mi 15 98,mi 16 102,mi 17 106] [] [8,10,12,15,16,17] [8,10,85,1044,1049,1098,1102,1106,2012]) (.seq (.seq (.reg [mi 107 15,qi 108 (.len (.t 107) false),mi 109 12,qi 110 (.len (.t 109) false),qi 111 (.bin .neq (.t 108) (.t 110)),mi 112 111,gi 113 112 false (.mv (.t 16)),gi 114 112 false (.len (.t 113) false),gi 115 112 false (.mv (.t 12)),gi 116 112 false (.len (.t 115) false),gi 117 112 false (.bin .neq (.t 114) (.t 116)),qi 118 (.pick (.t 112) (.c (.bool true)) (.t 117)),mi 119 118,gi 120 119 false (.mv (.t 17)),gi 121 119 false (.len (.t 120) false),gi 122 119 false (.mv (.t 12)),gi 123 119 false (.len (.t 122) false),gi 124 119 false (.bin .neq (.t 121) (.t 123)),qi 125 (.pick (.t 119) (.c (.bool true)) (.t 124)),mi 126 125,gi 127 126 false (.fa (.t 10) 1),gi 128 126 false (.ld (.t 127) 1 false),gi 129 126 false (.len (.t 128) false),gi 130 126 false (.fa (.t 8) 1),gi 131 126 false (.ld (.t 130) 1 false),gi 132 126 false (.len (.t 131) false),gi 133 126 false (.bin .gtr (.t 129) (.t 132)),qi 134 (.pick (.t 126) (.c (.bool true)) (.t 133))] [] [12,15,16,17,134] [85,1098,1102,1106,2012]) (.cond (.t 134) (.seq (.reg [qi 4 (.mv (.c (.bool false)))] [] [4] [1036,1067,1172]) .ret) .skip)) (.seq (.seq (.reg [qi 18 (.mv (ic 0))] [] [12,15,16,17,18] [85,1098,1102,1106,2012]) (.block 4 (.loop B7_2))) R7_2)))
def R7_0 : MC := (.seq (.reg [mi 38 0,⟨some 39,none,.call (.f 13) [.t 38]⟩,mi 37 39,qi 40 (.ext (.t 37) 0),qi 41 (.ext (.t 37) 1),⟨some 6,none,.alloc [.e0,.e0,.e0,.e0]⟩,⟨none,none,.st (.t 6) (.t 40) 4⟩,mi 7 41] [] [0,3,6,7] [3,6,1039]) (.seq (.reg [mi 43 0,⟨some 44,none,.call (.f 9) [.t 43,.c (.int .i64 200)]⟩,mi 42 44,qi 45 (.ext (.t 42) 0),qi 46 (.ext (.t 42) 1),⟨some 8,none,.alloc [.e0,.e0,.e0]⟩,⟨none,none,.st (.t 8) (.t 45) 3⟩,mi 9 46] [] [0,3,6,7,8,9] [3,6,8,1039,1044]) (.seq (.reg [mi 48 0,⟨some 49,none,.call (.f 19) [.t 48,.c (.int .i64 200)]⟩,mi 47 49,qi 50 (.ext (.t 47) 0),qi 51 (.ext (.t 47) 1),⟨some 10,none,.alloc [.e0,.e0,.e0]⟩,⟨none,none,.st (.t 10) (.t 50) 3⟩,mi 11 51] [] [0,3,6,7,8,9,10,11] [3,6,8,10,1039,1044,1049]) (.seq (.seq (.reg [qi 52 (.ld (.t 3) 4 true),⟨some 53,none,.call (.f 30) [.t 52]⟩,qi 54 (.not (.t 53)),mi 55 54,gi 56 55 false (.mv (.t 7)),gi 57 55 false (.bin .neq (.t 56) (ic 0)),qi 58 (.pick (.t 55) (.c (.bool true)) (.t 57)),mi 59 58,gi 60 59 false (.mv (.t 9)),gi 61 59 false (.bin .neq (.t 60) (ic 0)),qi 62 (.pick (.t 59) (.c (.bool true)) (.t 61)),mi 63 62,gi 64 63 false (.mv (.t 11)),gi 65 63 false (.bin .neq (.t 64) (ic 0)),qi 66 (.pick (.t 63) (.c (.bool true)) (.t 65))] [] [0,3,6,8,10,66] [3,6,8,10,1039,1044,1049,1053]) (.cond (.t 66) (.seq (.reg [⟨some 67,none,.call (.f 29) []⟩,mi 4 67] [] [4] [1036,1067,1172]) .ret) .skip)) (.seq (.reg [qi 12 (.mv .nil)] [(12,2012,1)] [0,3,6,8,10,12] [3,6,8,10,85,1039,1044,1049,2012]) (.seq (.seq (.reg [qi 13 (.mv (ic 0))] [] [0,3,6,8,10,12,13] [3,6,8,10,85,1039,1044,1049,2012]) (.block 2 (.loop B7_1))) R7_1))))))
def M7 : MC := (.seq (.reg [⟨some 3,none,.box (.t 1)⟩,qi 4 (.mv (.c (.bool false)))] [] [0,3] [3]) (.seq (.seq (.reg [mi 19 0,qi 20 (.len (.t 19) false),qi 21 (.bin .gtr (.t 20) (ic 6))] [] [0,3,21] [3]) (.cond (.t 21) (.reg [mi 22 0,qi 23 (.slc (.t 22) none (some (ic 6)) 1 false),mi 0 23] [] [0,3] [3]) .skip)) (.seq (.seq (.reg [qi 5 (.mv (ic 0))] [] [0,3,5] [3]) (.block 0 (.loop B7_0))) R7_0)))
theorem mc7 : ofCode Tryz.prog [] Tryz.f7.ntmps [(0, ⟨[0, 3], [3], [], 0, [], none⟩),
  (1, ⟨[0, 3, 21], [3], [], 0, [], none⟩),
  (2, ⟨[0, 3], [3], [], 0, [], none⟩),
  (3, ⟨[0, 3, 5], [3], [], 0, [], none⟩),
  (4, ⟨[0, 3, 5, 27], [3], [], 0, [], none⟩),
  (5, ⟨[0, 3, 5], [3], [], 0, [], none⟩),
  (6, ⟨[0, 3, 5, 35], [3], [], 0, [], none⟩),
  (7, ⟨[4], [1036, 1067, 1172], [], 0, [], none⟩),
  (8, ⟨[0, 3, 6, 7], [3, 6, 1039], [], 0, [], none⟩),
  (9, ⟨[0, 3, 6, 7, 8, 9], [3, 6, 8, 1039, 1044], [], 0, [], none⟩),
  (10, ⟨[0, 3, 6, 7, 8, 9, 10, 11], [3, 6, 8, 10, 1039, 1044, 1049], [], 0, [], none⟩),
  (11, ⟨[0, 3, 6, 8, 10, 66], [3, 6, 8, 10, 1039, 1044, 1049, 1053], [], 0, [], none⟩),
  (12, ⟨[4], [1036, 1067, 1172], [], 0, [], none⟩),
  (13, ⟨[0, 3, 6, 8, 10, 12], [3, 6, 8, 10, 85, 1039, 1044, 1049, 2012], [], 0, [(12, 2012, 1)], none⟩),
  (14, ⟨[0, 3, 6, 8, 10, 12, 13], [3, 6, 8, 10, 85, 1039, 1044, 1049, 2012], [], 0, [], none⟩),
  (15, ⟨[0, 3, 6, 8, 10, 12, 13, 71], [3, 6, 8, 10, 85, 1039, 1044, 1049, 2012], [], 0, [], none⟩),
  (16, ⟨[0, 3, 6, 8, 10, 12, 13], [3, 6, 8, 10, 85, 1039, 1044, 1049, 2012], [], 0, [], none⟩),
  (17, ⟨[0, 3, 6, 8, 10, 12, 13, 14], [3, 6, 8, 10, 85, 1039, 1044, 1049, 1080, 2012], [(0, 205), (1, 206), (2, 204), (3, 200), (4, 240), (5, 224), (6, 0), (7, 128)], 255, [], none⟩),
  (18, ⟨[0, 3, 6, 8, 10, 12, 13, 14, 81], [3, 6, 8, 10, 85, 1039, 1044, 1049, 1080, 2012], [], 0, [], none⟩),
  (19, ⟨[0, 3, 6, 8, 10, 12, 13, 14], [3, 6, 8, 10, 85, 1039, 1044, 1049, 1080, 2012], [], 0, [], none⟩),
  (20, ⟨[0, 3, 6, 8, 10, 12, 13, 94], [3, 6, 8, 10, 85, 1039, 1044, 1049, 1080, 1092, 2012], [(0, 349), (1, 350), (2, 348), (3, 344), (4, 336), (5, 352), (7, 384), (6, 0), (8, 256)], 511, [], none⟩),
  (21, ⟨[4], [1036, 1067, 1172], [], 0, [], none⟩),
  (22, ⟨[8, 10, 12, 15, 16, 17], [8, 10, 85, 1044, 1049, 1098, 1102, 1106, 2012], [(0, 30857), (1, 30862), (2, 30860), (4, 30864), (5, 30944), (6, 30912), (8, 30976), (9, 32256), (10, 31744), (3, 0), (7, 0), (11, 0), (12, 28672), (13, 24576), (14, 16384)], 32767, [], none⟩),
  (23, ⟨[12, 15, 16, 17, 134], [85, 1098, 1102, 1106, 2012], [], 0, [], none⟩),
  (24, ⟨[4], [1036, 1067, 1172], [], 0, [], none⟩),
  (25, ⟨[12, 15, 16, 17, 18], [85, 1098, 1102, 1106, 2012], [], 0, [], none⟩),
  (26, ⟨[12, 15, 16, 17, 18, 138], [85, 1098, 1102, 1106, 2012], [], 0, [], none⟩),
  (27, ⟨[12, 15, 16, 17, 18], [85, 1098, 1102, 1106, 2012], [], 0, [], none⟩),
  (28, ⟨[12, 15, 16, 17, 18, 171], [85, 1098, 1102, 1106, 2012], [(0, 2147483405), (1, 2147483406), (2, 2147483404), (3, 2147483400), (4, 2147483600), (5, 2147483616), (6, 2147483584), (7, 2147483520), (8, 2147483392), (9, 2147483136), (10, 2147234816), (11, 2147235840), (12, 2147233792), (13, 2147229696), (14, 2147434496), (15, 2147450880), (16, 2147418112), (17, 2147352576), (18, 2147221504), (19, 2146959360), (20, 2146435072), (21, 1637875712), (22, 1639972864), (23, 1635778560), (24, 1627389952), (25, 2046820352), (26, 2080374784), (27, 2013265920), (28, 1879048192), (29, 1610612736), (30, 1073741824)], 2147483647, [], none⟩),
  (29, ⟨[4], [1036, 1067, 1172], [], 0, [], none⟩),
  (30, ⟨[4], [1036, 1067, 1172], [], 0, [], none⟩)] (Tryz.f7.body.getD .skip) = some M7 := by kernel_rfl
theorem Run7 {args : List PV} {v : AV} {rs : List (Nat × List PV)} (ids : List Bool) (h : args.length ≤ 173) (hv : run Tryz.prog (retK [RV.tmp 4] ids v rs) M7 [] ⟨entry 0 args, []⟩) : Fn Tryz.prog 7 args v rs :=
 Fn_run ids (by kernel_rfl) Tryz.func7 (by decide) rfl mc7 (by kernel_rfl) (by rw [Tryz.ntmps7]; exact h) (by rw [Tryz.ntmps7]; decide) hv
end Go.Vc

namespace Go.Vc
set_option linter.unusedSimpArgs false
set_option linter.unusedVariables false
structure DI.Wf (d : DI) : Prop where
 n0 : 0 < d.next.length
 rows : d.Rows
 width : ∀ i, i < d.next.length → (d.next.getD i []).length = d.signs.length + 1
def stI (d : DI) (s a : Nat) : Int := (d.next.getD s []).getD a (-1)
def outI (d : DI) : List Nat → Nat → List Int
 | [], s => d.done.getD s []
 | a :: w, s => if stI d s a = -1 then [] else outI d w (stI d s a).toNat
def outT (d : DI) (t : Int) (w : List Nat) : List Int := if t = -1 then [] else outI d w t.toNat
theorem outI_cons (d : DI) (a : Nat) (w : List Nat) (s : Nat) : outI d (a :: w) s = outT d (stI d s a) w := rfl
theorem getD_at {α : Type} {l : List α} {i : Nat} {d : α} (h : i < l.length) : l.getD i d = l[i] := by simp [List.getD_eq_getElem?_getD, h]
theorem getD_no {α : Type} {l : List α} {i : Nat} {d : α} (h : l.length ≤ i) : l.getD i d = d := by rw [List.getD_eq_getElem?_getD, List.getElem?_eq_none h]; rfl
theorem stI_in {d : DI} {s a : Nat} (h : stI d s a ≠ -1) : stI d s a ∈ d.next.getD s [] := by
 unfold stI at h ⊢
 by_cases ha : a < (d.next.getD s []).length
 ·rw [getD_at ha]; exact List.getElem_mem ha
 ·exact absurd (getD_no (by omega)) h
theorem stI_range {d : DI} (h : d.Wf) (s a : Nat) : -1 ≤ stI d s a ∧ stI d s a < (d.next.length : Int) := by
 by_cases hs : stI d s a = -1
 ·rw [hs]; omega
 ·exact h.rows s _ (stI_in hs)
theorem live_out {d : DI} {s : Nat} (h : d.Live s) : ∃ w, outI d w s ≠ [] := by
 induction h with
 | done hi hd => exact ⟨[], hd⟩
 | @step i to hi hm hl ih =>
  obtain ⟨w, hw⟩ := ih
  obtain ⟨a, ha, he⟩ := List.getElem_of_mem hm
  refine ⟨a :: w, ?_⟩
  have : stI d i a = (to : Int) := by unfold stI; rw [getD_at ha, he]
  rw [outI_cons, outT, this, if_neg (by omega), Int.toNat_natCast]
  exact hw
theorem out_live {d : DI} (hd : d.Wf) : ∀ {w : List Nat} {s : Nat}, s < d.next.length → outI d w s ≠ [] → d.Live s
 | [], s, hs, h => .done hs h
 | a :: w, s, hs, h => by
  rw [outI_cons, outT] at h
  by_cases ht : stI d s a = -1
  ·rw [if_pos ht] at h; exact absurd rfl h
  ·rw [if_neg ht] at h
   have hr := stI_range hd s a
   have hl := out_live hd (by omega) h
   refine .step (to := (stI d s a).toNat) hs ?_ hl
   rw [show (((stI d s a).toNat : Nat) : Int) = stI d s a by omega]
   exact stI_in ht
theorem liveL_at {d : DI} {k : Nat} (h : k < d.next.length) : (liveL d).getD k false = true ↔ d.Live k := by
 unfold liveL
 rw [getD_at (by simpa using h)]
 simp
theorem dead_iff {d : DI} (hd : d.Wf) {t : Int} (h1 : -1 ≤ t) (h2 : t < (d.next.length : Int)) : dead (liveL d) t = true ↔ ∀ w, outT d t w = [] := by
 unfold dead
 rw [Bool.or_eq_true, decide_eq_true_eq]
 constructor
 ·rintro (h | h) w
  ·unfold outT; rw [if_pos h]
  ·unfold outT
   split
   ·rfl
   ·rename_i hne
    apply Classical.byContradiction
    intro ho
    have hl := out_live hd (show t.toNat < d.next.length by omega) ho
    rw [(liveL_at (by omega)).2 hl] at h
    cases h
 ·intro h
  by_cases ht : t = -1
  ·exact .inl ht
  ·right
   rw [Bool.not_eq_true', ← Bool.not_eq_true]
   intro hl
   obtain ⟨w, hw⟩ := live_out ((liveL_at (by omega)).1 hl)
   have := h w
   unfold outT at this
   rw [if_neg ht] at this
   exact hw this
def Eqv (d e : DI) (s t : Nat) : Prop := ∀ w, outI d w s = outI e w t
def EqT (d e : DI) (s t : Int) : Prop := ∀ w, outT d s w = outT e t w
theorem Eqv.way {d e : DI} {s t : Nat} (h : Eqv d e s t) (a : Nat) : EqT d e (stI d s a) (stI e t a) := fun w => h (a :: w)
structure ClOk (d : DI) (cl : List Nat) : Prop where
 len : cl.length = d.next.length
 fine : ∀ i j, i < d.next.length → j < d.next.length → Eqv d d i j → cl.getD i 0 = cl.getD j 0
 done : ∀ i j, i < d.next.length → j < d.next.length → cl.getD i 0 = cl.getD j 0 → d.done.getD i [] = d.done.getD j []
theorem wayC_eqv {d : DI} (hd : d.Wf) {cl : List Nat} (hc : ClOk d cl) {s t : Int} (hs : -1 ≤ s ∧ s < (d.next.length : Int)) (ht : -1 ≤ t ∧ t < (d.next.length : Int)) (h : EqT d d s t) : wayC (liveL d) cl s = wayC (liveL d) cl t := by
 have hdd : dead (liveL d) s = true ↔ dead (liveL d) t = true := by
  rw [dead_iff hd hs.1 hs.2, dead_iff hd ht.1 ht.2]
  exact ⟨fun k w => by rw [← h w]; exact k w, fun k w => by rw [h w]; exact k w⟩
 unfold wayC
 by_cases hk : dead (liveL d) s = true
 ·rw [if_pos hk, if_pos (hdd.1 hk)]
 ·have hk2 : ¬ dead (liveL d) t = true := fun e => hk (hdd.2 e)
  rw [if_neg hk, if_neg hk2]
  have hs1 : s ≠ -1 := fun e => hk (by simp [dead, e])
  have ht1 : t ≠ -1 := fun e => hk2 (by simp [dead, e])
  have := hc.fine s.toNat t.toNat (by omega) (by omega) fun w => by
   have := h w
   unfold outT at this
   rw [if_neg hs1, if_neg ht1] at this
   exact this
  rw [this]
theorem keyC_eqv {d : DI} (hd : d.Wf) {cl : List Nat} (hc : ClOk d cl) {i j : Nat} (hi : i < d.next.length) (hj : j < d.next.length) (h : Eqv d d i j) : keyC d (liveL d) cl i = keyC d (liveL d) cl j := by
 unfold keyC
 rw [hc.fine i j hi hj h]
 congr 1
 refine List.ext_getElem (by rw [List.length_map, List.length_map, hd.width i hi, hd.width j hj]) fun a h1 h2 => ?_
 rw [List.getElem_map, List.getElem_map]
 rw [List.length_map] at h1 h2
 have e1 : (d.next.getD i [])[a] = stI d i a := by unfold stI; rw [getD_at h1]
 have e2 : (d.next.getD j [])[a] = stI d j a := by unfold stI; rw [getD_at h2]
 rw [e1, e2]
 exact wayC_eqv hd hc (stI_range hd _ _) (stI_range hd _ _) (h.way a)
theorem keysC_at {d : DI} {lv : List Bool} {cl : List Nat} {i : Nat} (h : i < d.next.length) : (keysC d lv cl)[i]'(by simp [keysC, h]) = keyC d lv cl i := by simp [keysC]
theorem ClOk.next {d : DI} (hd : d.Wf) {cl : List Nat} (hc : ClOk d cl) : ClOk d (clsOf (keysC d (liveL d) cl)) := by
 have hl : (keysC d (liveL d) cl).length = d.next.length := by simp [keysC]
 refine ⟨by rw [clsOf_len, hl], fun i j hi hj h => ?_, fun i j hi hj h => ?_⟩
 ·rw [clsOf_eq (by omega) (by omega), keysC_at hi, keysC_at hj]
  exact keyC_eqv hd hc hi hj h
 ·rw [clsOf_eq (by omega) (by omega), keysC_at hi, keysC_at hj] at h
  unfold keyC at h
  rw [List.cons.injEq] at h
  exact hc.done i j hi hj (by omega)
theorem ClOk.zero {d : DI} : ClOk d (clsOf (keys0 d)) := by
 have hl : (keys0 d).length = d.next.length := by simp [keys0]
 have hk : ∀ i (h : i < d.next.length), (keys0 d)[i]'(by omega) = d.done.getD i [] := fun i h => by simp [keys0]
 refine ⟨by rw [clsOf_len, hl], fun i j hi hj h => ?_, fun i j hi hj h => ?_⟩
 ·rw [clsOf_eq (by omega) (by omega), hk i hi, hk j hj]
  exact h []
 ·rw [clsOf_eq (by omega) (by omega), hk i hi, hk j hj] at h
  exact h
def Stable (d : DI) (cl : List Nat) : Prop := ∀ i j, i < d.next.length → j < d.next.length → cl.getD i 0 = cl.getD j 0 → keyC d (liveL d) cl i = keyC d (liveL d) cl j
theorem dd_inj {K J : Type} [DecidableEq K] [DecidableEq J] (f : K → J) {ks : List K} (h : (ddF ks).length ≤ (ddF (ks.map f)).length) {a b : K} (ha : a ∈ ks) (hb : b ∈ ks) (he : f a = f b) : a = b := by
 apply Classical.byContradiction
 intro hne
 have hbm : b ∈ ddF ks := ddF_mem.2 hb
 have := List.Nodup.length_le_of_subset (l₂ := ((ddF ks).erase b).map f) (ddF_nodup (ks.map f)) fun x hx => by
  obtain ⟨k, hk, rfl⟩ := List.mem_map.1 (ddF_mem.1 hx)
  by_cases hkb : k = b
  ·subst hkb
   exact List.mem_map.2 ⟨a, (List.mem_erase_of_ne hne).2 (ddF_mem.2 ha), he⟩
  ·exact List.mem_map.2 ⟨k, (List.mem_erase_of_ne hkb).2 (ddF_mem.2 hk), rfl⟩
 rw [List.length_map, List.length_erase_of_mem hbm] at this
 have := List.length_pos_of_mem hbm
 omega
theorem heads {d : DI} {lv : List Bool} {cl : List Nat} (h : cl.length = d.next.length) : (keysC d lv cl).map (fun k => (k.getD 0 0).toNat) = cl := by
 refine List.ext_getElem (by simp [keysC, h]) fun i h1 h2 => ?_
 simp [keysC, keyC, List.getD_eq_getElem?_getD, h2]
theorem stable_of {d : DI} {cl : List Nat} (hl : cl.length = d.next.length) (h : (ddF (keysC d (liveL d) cl)).length = (ddF cl).length) : Stable d cl := fun i j hi hj he => by
 have hkl : (keysC d (liveL d) cl).length = d.next.length := by simp [keysC]
 rw [← keysC_at (lv := liveL d) (cl := cl) hi, ← keysC_at (lv := liveL d) (cl := cl) hj]
 refine dd_inj (fun k : List Int => (k.getD 0 0).toNat) (by rw [heads hl]; omega) (List.getElem_mem _) (List.getElem_mem _) ?_
 rw [keysC_at hi, keysC_at hj]
 simp only [keyC, List.getD_cons_zero, Int.toNat_natCast]
 exact he
theorem dd_cls {K : Type} [DecidableEq K] (ks : List K) : (ddF (clsOf ks)).length = (ddF ks).length :=
 Nat.le_antisymm (ddF_map_le _ ks) (ddF_cls ks)
theorem goC_spec {d : DI} (hd : d.Wf) : ∀ {f : Nat} {cl : List Nat}, ClOk d cl → d.next.length < f + (ddF cl).length → ClOk d (goC d (liveL d) f cl (ddF cl).length) ∧ Stable d (goC d (liveL d) f cl (ddF cl).length)
 | 0, cl, hc, hf => by
  have := ddF_len cl
  rw [hc.len] at this
  omega
 | f + 1, cl, hc, hf => by
  rw [goC]
  split
  ·rename_i h
   exact ⟨hc, stable_of hc.len h⟩
  ·rename_i h
   have h1 := finer d (liveL d) hc.len
   rw [← dd_cls (keysC d (liveL d) cl)]
   exact goC_spec hd (hc.next hd) (by rw [dd_cls]; omega)
theorem classR_spec {d : DI} (hd : d.Wf) : ClOk d (classR d (liveL d)) ∧ Stable d (classR d (liveL d)) := by
 unfold classR
 rw [← dd_cls (keys0 d)]
 exact goC_spec hd ClOk.zero (by omega)
theorem way_pos {lv : List Bool} {cl : List Nat} {t : Int} (h : ¬ dead lv t = true) : wayC lv cl t = (cl.getD t.toNat 0 : Int) := by unfold wayC; rw [if_neg h]
theorem nerode {d : DI} (hd : d.Wf) {cl : List Nat} (hc : ClOk d cl) (hs : Stable d cl) {i j : Nat} (hi : i < d.next.length) (hj : j < d.next.length) : cl.getD i 0 = cl.getD j 0 ↔ Eqv d d i j := by
 refine ⟨fun h w => ?_, hc.fine i j hi hj⟩
 induction w generalizing i j with
 | nil => exact hc.done i j hi hj h
 | cons a w ih =>
  have hk := hs i j hi hj h
  unfold keyC at hk
  rw [List.cons.injEq] at hk
  have hw : wayC (liveL d) cl (stI d i a) = wayC (liveL d) cl (stI d j a) := by
   by_cases ha : a < d.signs.length + 1
   ·have h1 : a < (d.next.getD i []).length := by rw [hd.width i hi]; exact ha
    have h2 : a < (d.next.getD j []).length := by rw [hd.width j hj]; exact ha
    have := congrArg (fun l : List Int => l[a]?) hk.2
    simp only [List.getElem?_map, List.getElem?_eq_getElem h1, List.getElem?_eq_getElem h2, Option.map_some, Option.some.injEq] at this
    unfold stI
    rw [getD_at h1, getD_at h2]
    exact this
   ·unfold stI
    rw [getD_no (by rw [hd.width i hi]; omega), getD_no (by rw [hd.width j hj]; omega)]
  rw [outI_cons, outI_cons]
  have hri := stI_range hd i a
  have hrj := stI_range hd j a
  generalize stI d i a = s at hw hri
  generalize stI d j a = t at hw hrj
  by_cases h1 : dead (liveL d) s = true
  ·have h2 : dead (liveL d) t = true := by
    apply Classical.byContradiction
    intro h2
    rw [way_pos h2] at hw
    unfold wayC at hw
    rw [if_pos h1] at hw
    omega
   rw [(dead_iff hd hri.1 hri.2).1 h1 w, (dead_iff hd hrj.1 hrj.2).1 h2 w]
  ·have h2 : ¬ dead (liveL d) t = true := by
    intro h2
    rw [way_pos h1] at hw
    unfold wayC at hw
    rw [if_pos h2] at hw
    omega
   rw [way_pos h1, way_pos h2] at hw
   have hs1 : s ≠ -1 := fun e => h1 (by simp [dead, e])
   have ht1 : t ≠ -1 := fun e => h2 (by simp [dead, e])
   unfold outT
   rw [if_neg hs1, if_neg ht1]
   exact ih (by omega) (by omega) (by omega)
end Go.Vc

namespace Go.Vc
set_option linter.unusedSimpArgs false
set_option linter.unusedVariables false
structure Cls (d : DI) (cl : List Nat) : Prop where
 wf : d.Wf
 ok : ClOk d cl
 st : Stable d cl
theorem cls_of {d : DI} (h : d.Wf) : Cls d (classR d (liveL d)) := let ⟨h1, h2⟩ := classR_spec h; ⟨h, h1, h2⟩
theorem Cls.eq {d : DI} {cl : List Nat} (h : Cls d cl) {i j : Nat} (hi : i < d.next.length) (hj : j < d.next.length) : cl.getD i 0 = cl.getD j 0 ↔ Eqv d d i j := nerode h.wf h.ok h.st hi hj
structure RelF (d e : DI) (F G : List Nat) : Prop where
 len : F.length = G.length
 f : ∀ s ∈ F, s < d.next.length
 g : ∀ s ∈ G, s < e.next.length
 eqv : ∀ i, i < F.length → Eqv d e (F.getD i 0) (G.getD i 0)
theorem ixOf_congr : ∀ {A B : List Nat} {a b : Nat}, A.length = B.length → (∀ i, i < A.length → (A.getD i 0 = a ↔ B.getD i 0 = b)) → ixOf A a = ixOf B b
 | [], [], _, _, _, _ => rfl
 | [], b :: B, _, _, h, _ => by simp at h
 | a :: A, [], _, _, h, _ => by simp at h
 | x :: A, y :: B, a, b, hl, h => by
  rw [ixOf_cons, ixOf_cons]
  have h0 := h 0 (by simp)
  simp only [List.getD_cons_zero] at h0
  have ih := ixOf_congr (A := A) (B := B) (a := a) (b := b) (by simpa using hl) fun i hi => by simpa using h (i + 1) (by simpa using hi)
  by_cases hx : x = a
  ·rw [if_pos hx, if_pos (h0.1 hx)]
  ·rw [if_neg hx, if_neg fun k => hx (h0.2 k), ih]
theorem map_cl_at {cl F : List Nat} {i : Nat} (h : i < F.length) : (F.map fun s => cl.getD s 0).getD i 0 = cl.getD (F.getD i 0) 0 := by
 rw [getD_at (by simpa using h), getD_at h]; simp
theorem eqt_dead {d e : DI} (hd : d.Wf) (he : e.Wf) {t u : Int} (ht : -1 ≤ t ∧ t < (d.next.length : Int)) (hu : -1 ≤ u ∧ u < (e.next.length : Int)) (h : EqT d e t u) : dead (liveL d) t = true ↔ dead (liveL e) u = true := by
 rw [dead_iff hd ht.1 ht.2, dead_iff he hu.1 hu.2]
 exact ⟨fun k w => by rw [← h w]; exact k w, fun k w => by rw [h w]; exact k w⟩
theorem eqt_eqv {d e : DI} {t u : Int} (ht : t ≠ -1) (hu : u ≠ -1) (h : EqT d e t u) : Eqv d e t.toNat u.toNat := fun w => by
 have := h w
 unfold outT at this
 rwa [if_neg ht, if_neg hu] at this
theorem RelF.same {d e : DI} {cd ce F G : List Nat} (h : RelF d e F G) (hc : Cls d cd) (he : Cls e ce) {t u : Nat} (ht : t < d.next.length) (hu : u < e.next.length) (htu : Eqv d e t u) :
  ∀ i, i < F.length → (cd.getD (F.getD i 0) 0 = cd.getD t 0 ↔ ce.getD (G.getD i 0) 0 = ce.getD u 0) := fun i hi => by
 have hf := h.f (F.getD i 0) (by rw [getD_at hi]; exact List.getElem_mem hi)
 have hg := h.g (G.getD i 0) (by rw [getD_at (by rw [← h.len]; exact hi)]; exact List.getElem_mem _)
 have hq := h.eqv i hi
 rw [hc.eq hf ht, he.eq hg hu]
 exact ⟨fun k w => by rw [← hq w, k w, htu w], fun k w => by rw [hq w, k w, htu w]⟩
theorem mem_map_iff {cl F : List Nat} {c : Nat} : (c ∈ F.map fun s => cl.getD s 0) ↔ ∃ i, i < F.length ∧ cl.getD (F.getD i 0) 0 = c := by
 constructor
 ·intro h
  obtain ⟨s, hs, rfl⟩ := List.mem_map.1 h
  obtain ⟨i, hi, rfl⟩ := List.getElem_of_mem hs
  exact ⟨i, hi, by rw [getD_at hi]⟩
 ·rintro ⟨i, hi, rfl⟩
  exact List.mem_map.2 ⟨F.getD i 0, by rw [getD_at hi]; exact List.getElem_mem hi, rfl⟩
theorem RelF.step {d e : DI} {cd ce F G : List Nat} (h : RelF d e F G) (hc : Cls d cd) (he : Cls e ce) {t u : Int} (ht : -1 ≤ t ∧ t < (d.next.length : Int)) (hu : -1 ≤ u ∧ u < (e.next.length : Int)) (htu : EqT d e t u) :
  RelF d e (stepF (liveL d) cd F t) (stepF (liveL e) ce G u) ∧ numF (liveL d) cd F t = numF (liveL e) ce G u := by
 have hdd := eqt_dead hc.wf he.wf ht hu htu
 unfold stepF numF
 by_cases h1 : dead (liveL d) t = true
 ·rw [if_pos h1, if_pos (hdd.1 h1), if_pos h1, if_pos (hdd.1 h1)]
  exact ⟨h, rfl⟩
 ·have h2 : ¬ dead (liveL e) u = true := fun k => h1 (hdd.2 k)
  have ht1 : t ≠ -1 := fun k => h1 (by simp [dead, k])
  have hu1 : u ≠ -1 := fun k => h2 (by simp [dead, k])
  have hq := eqt_eqv ht1 hu1 htu
  have hs := h.same hc he (show t.toNat < d.next.length by omega) (show u.toNat < e.next.length by omega) hq
  rw [if_neg h1, if_neg h2, if_neg h1, if_neg h2]
  have hmem : (cd.getD t.toNat 0 ∈ F.map fun s => cd.getD s 0) ↔ (ce.getD u.toNat 0 ∈ G.map fun s => ce.getD s 0) := by
   rw [mem_map_iff, mem_map_iff]
   exact ⟨fun ⟨i, hi, k⟩ => ⟨i, by rw [← h.len]; exact hi, (hs i hi).1 k⟩, fun ⟨i, hi, k⟩ => ⟨i, by rw [h.len]; exact hi, (hs i (by rw [h.len]; exact hi)).2 k⟩⟩
  refine ⟨?_, ?_⟩
  ·by_cases hm : cd.getD t.toNat 0 ∈ F.map fun s => cd.getD s 0
   ·rw [if_pos hm, if_pos (hmem.1 hm)]; exact h
   ·rw [if_neg hm, if_neg fun k => hm (hmem.2 k)]
    refine ⟨by simp [h.len], fun s hs => ?_, fun s hs => ?_, fun i hi => ?_⟩
    ·rcases List.mem_append.1 hs with hs | hs
     ·exact h.f s hs
     ·rw [List.mem_singleton] at hs; omega
    ·rcases List.mem_append.1 hs with hs | hs
     ·exact h.g s hs
     ·rw [List.mem_singleton] at hs; omega
    ·rw [List.length_append, List.length_singleton] at hi
     by_cases hil : i < F.length
     ·have e1 : (F ++ [t.toNat]).getD i 0 = F.getD i 0 := by simp [List.getD_eq_getElem?_getD, List.getElem?_append_left hil]
      have e2 : (G ++ [u.toNat]).getD i 0 = G.getD i 0 := by simp [List.getD_eq_getElem?_getD, List.getElem?_append_left (show i < G.length by rw [← h.len]; exact hil)]
      rw [e1, e2]; exact h.eqv i hil
     ·obtain rfl : i = F.length := by omega
      have e1 : (F ++ [t.toNat]).getD F.length 0 = t.toNat := by simp [List.getD_eq_getElem?_getD]
      have e2 : (G ++ [u.toNat]).getD F.length 0 = u.toNat := by rw [h.len]; simp [List.getD_eq_getElem?_getD]
      rw [e1, e2]; exact hq
  ·congr 1
   exact ixOf_congr (by simp [h.len]) fun i hi => by
    rw [List.length_map] at hi
    rw [map_cl_at hi, map_cl_at (by rw [← h.len]; exact hi)]
    exact hs i hi
theorem row_eq {d : DI} {s a : Nat} (h : a < (d.next.getD s []).length) : (d.next.getD s []).getD a 0 = stI d s a := by unfold stI; rw [getD_at h, getD_at h]
theorem RelF.row {d e : DI} {cd ce F G : List Nat} (h : RelF d e F G) (hc : Cls d cd) (he : Cls e ce) (hsg : d.signs = e.signs) {s t : Nat} (hs : s < d.next.length) (ht : t < e.next.length) (hst : Eqv d e s t) :
  ∀ {a : Nat}, a ≤ d.signs.length + 1 → RelF d e (rowF (liveL d) cd F (d.next.getD s []) a) (rowF (liveL e) ce G (e.next.getD t []) a) ∧ rowW (liveL d) cd F (d.next.getD s []) a = rowW (liveL e) ce G (e.next.getD t []) a
 | 0, _ => ⟨h, rfl⟩
 | a + 1, ha => by
  obtain ⟨h1, h2⟩ := h.row hc he hsg hs ht hst (a := a) (by omega)
  have hl1 := hc.wf.width s hs
  have hl2 := he.wf.width t ht
  rw [← hsg] at hl2
  have e1 := row_eq (d := d) (s := s) (a := a) (by omega)
  have e2 := row_eq (d := e) (s := t) (a := a) (by omega)
  simp only [rowF, rowW]
  rw [e1, e2, h2]
  obtain ⟨k1, k2⟩ := h1.step hc he (stI_range hc.wf s a) (stI_range he.wf t a) (hst.way a)
  exact ⟨k1, by rw [k2]⟩
theorem RelF.at {d e : DI} {F G : List Nat} (h : RelF d e F G) (hd : d.Wf) (he : e.Wf) (h0 : Eqv d e 0 0) (i : Nat) : F.getD i 0 < d.next.length ∧ G.getD i 0 < e.next.length ∧ Eqv d e (F.getD i 0) (G.getD i 0) := by
 by_cases hi : i < F.length
 ·refine ⟨h.f _ ?_, h.g _ ?_, h.eqv i hi⟩
  ·rw [getD_at hi]; exact List.getElem_mem hi
  ·rw [getD_at (by rw [← h.len]; exact hi)]; exact List.getElem_mem _
 ·rw [getD_no (by omega), getD_no (by rw [← h.len]; omega)]
  exact ⟨hd.n0, he.n0, h0⟩
theorem endF_min {d : DI} {lv : List Bool} {cl : List Nat} : ∀ {f i : Nat}, (∀ j, j < i → j < (firstL d lv cl j).length) → ∀ j, j < endF d lv cl f i → j < (firstL d lv cl j).length
 | 0, i, h, j, hj => h j hj
 | f + 1, i, h, j, hj => by
  simp only [endF] at hj
  split at hj
  ·exact h j hj
  ·refine endF_min (f := f) (i := i + 1) (fun q hq => ?_) j hj
   by_cases hqi : q = i
   ·subst hqi; omega
   ·exact h q (by omega)
theorem leastK_spec {d : DI} (hd : d.Wf) (lv : List Bool) (cl : List Nat) : (firstL d lv cl (leastK d lv cl)).length ≤ leastK d lv cl ∧ (∀ j, j < leastK d lv cl → j < (firstL d lv cl j).length) ∧ leastK d lv cl ≤ d.next.length := by
 have hb : ∀ j, (firstL d lv cl j).length ≤ d.next.length := fun j => (firstOk hd.rows hd.n0 j).len
 have h1 : (firstL d lv cl (leastK d lv cl)).length ≤ leastK d lv cl := endF_at d lv cl (by omega) hb
 have h2 : ∀ j, j < leastK d lv cl → j < (firstL d lv cl j).length := endF_min (fun j hj => by omega)
 refine ⟨h1, h2, ?_⟩
 rcases Nat.eq_zero_or_pos (leastK d lv cl) with h | h
 ·omega
 ·have := h2 (leastK d lv cl - 1) (by omega)
  have := hb (leastK d lv cl - 1)
  omega
end Go.Vc

namespace Go.Vc
set_option linter.unusedSimpArgs false
set_option linter.unusedVariables false
theorem wf_may {d : DI} (hm : mayB d = true) : d.Wf := by
 unfold mayB at hm
 simp only [Bool.and_eq_true, decide_eq_true_eq, List.all_eq_true, List.mem_range] at hm
 obtain ⟨h1, h2, h3, h4⟩ := hm
 refine ⟨by omega, fun i t ht => ?_, fun i hi => ?_⟩
 ·by_cases hi : i < d.next.length
  ·have := h4 i hi
   unfold okRow at this
   simp only [Bool.and_eq_true, decide_eq_true_eq, List.all_eq_true] at this
   exact this.2.1 t ht
  ·rw [getD_no (by omega)] at ht; cases ht
 ·have := h4 i hi
  unfold okRow at this
  simp only [Bool.and_eq_true, decide_eq_true_eq] at this
  exact this.1
theorem end_neg (d : DF) : ∀ T : List ByteArray, endO d (T.foldl (stepO d) (some (-1))) = []
 | [] => by simp [endO]
 | q :: T => by
  rw [List.foldl_cons]
  have : stepO d (some (-1)) q = none := by unfold stepO; simp
  rw [this, stepO_none]; rfl
theorem out_resO {d : DF} (hw : d.toDI.Wf) (hdl : d.done.length = d.next.length) : ∀ (T : List ByteArray) (s : Nat), s < d.next.length → outI d.toDI (T.map (letterN d.signs)) s = toI (endO d (T.foldl (stepO d) (some (s : Int))))
 | [], s, hs => by
  show d.toDI.done.getD s [] = toI (if _ then d.done.getD _ [] else [])
  rw [if_pos ⟨by omega, by omega, by omega⟩, Int.toNat_natCast]
  simp only [DF.toDI]
  rw [getD_at (by rw [List.length_map]; omega), getD_at (by omega), List.getElem_map]
 | q :: T, s, hs => by
  have hwid : (d.next.getD s []).length = d.signs.length + 1 := hw.width s hs
  have hle := letterN_le d.signs q
  have hst : stI d.toDI s (letterN d.signs q) = (d.next.getD s []).getD (letterN d.signs q) 0 := by
   have hlt : letterN d.signs q < (d.next.getD s []).length := by omega
   exact (getD_at hlt).trans (getD_at hlt).symm
  have hso : stepO d (some (s : Int)) q = some (stI d.toDI s (letterN d.signs q)) := by
   rw [hst]
   unfold stepO
   simp only [Int.toNat_natCast]
   rw [if_pos ⟨by omega, by omega, by omega⟩]
  have hr := stI_range hw s (letterN d.signs q)
  rw [List.map_cons, outI_cons, List.foldl_cons, hso]
  generalize stI d.toDI s (letterN d.signs q) = t at hr
  unfold outT
  by_cases ht : t = -1
  ·rw [if_pos ht, ht, end_neg]; rfl
  ·rw [if_neg ht]
   have hn : t < (d.next.length : Int) := hr.2
   have := out_resO hw hdl T t.toNat (by omega)
   rw [show ((t.toNat : Nat) : Int) = t by omega] at this
   exact this
end Go.Vc
