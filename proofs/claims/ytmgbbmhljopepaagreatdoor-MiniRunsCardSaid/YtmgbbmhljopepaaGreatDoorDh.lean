/- A part of the proofs of the seat YtmgbbmhljopepaaGreatDoor: the contracts of functions, each proved out of its code. -/
import Derived.Test.YtmgbbmhljopepaaGreatDoorNa
import Derived.Test.YtmgbbmhljopepaaGreatDoorVh
import Derived.Test.YtmgbbmhljopepaaGreatDoorVf
import Derived.Test.YtmgbbmhljopepaaGreatDoorProg
import Derived.Test.YtmgbbmhljopepaaGreatDoorDg
namespace Go.Vc
set_option linter.unusedSimpArgs false
set_option linter.unusedVariables false
def resN (gs : List (List ByteArray)) (t : List ByteArray) : List Nat := (List.range gs.length).filter fun i => matchL (gs.getD i []) t
theorem resN_mem {gs : List (List ByteArray)} {t : List ByteArray} {g : Nat} : g ∈ resN gs t ↔ ∃ s, s ∈ walkN (nfaOf gs) t ∧ g ∈ (nfaOf gs).done.getD s [] := by
 have hd : (nfaOf gs).done = doneG 0 gs := rfl
 unfold resN
 rw [List.mem_filter, List.mem_range, hd]
 constructor
 ·rintro ⟨hg, hm⟩
  have hgg : gs.getD g [] = gs[g] := by simp [List.getD_eq_getElem?_getD, hg]
  rw [hgg, matchL_iff] at hm
  refine ⟨base gs g + gs[g].length, (walk_at t _).2 ⟨g, hg, gs[g].length, Nat.le_refl _, rfl, Sk_end.2 hm⟩, ?_⟩
  rw [doneG_at gs 0 g _ hg (Nat.le_refl _), if_pos rfl]; simp
 ·rintro ⟨s, hs, hgs⟩
  obtain ⟨i, hi, k, hk, rfl, hS⟩ := (walk_at t s).1 hs
  rw [doneG_at gs 0 i k hi hk] at hgs
  split at hgs
  ·rename_i hke
   subst hke
   simp only [Nat.zero_add, List.mem_singleton] at hgs
   subst hgs
   refine ⟨hi, ?_⟩
   rw [show gs.getD g [] = gs[g] by simp [List.getD_eq_getElem?_getD, hi], matchL_iff]
   exact Sk_end.1 hS
  ·cases hgs
theorem resN_ris (gs : List (List ByteArray)) (t : List ByteArray) : (resN gs t).Pairwise (· < ·) := range_filter_ris _ _
theorem closeN_len (n : NF) (l : List Int) : (closeN n l).length ≤ n.size := by
 have := List.length_filter_le (cl n.eps (inI l)) (List.range n.size)
 simpa [closeN] using this
theorem resN_lt {gs : List (List ByteArray)} {t : List ByteArray} {g : Nat} (h : g ∈ resN gs t) : g < gs.length := by
 unfold resN at h
 exact List.mem_range.1 (List.mem_filter.1 h).1
end Go.Vc

namespace Go.Vc
open Go.Proofs
set_option maxRecDepth 100000
def B43_0 : MC := (.seq (.reg [⟨some 17, none, .q (.bin .lss (.t 16) (.t 15))⟩] [] [1, 3, 15, 16, 17] [1, 13, 1025]) (.seq (.cond (.t 17) .skip (.exit 0)) (.seq (.block 1 (.seq (.reg [⟨some 18,
 none, .q (.mv (.t 16))⟩, ⟨some 4, none, .q (.mv (.t 18))⟩] [] [1, 3, 4, 15, 16] [1, 13, 1025]) (.reg [⟨some 19, none, .q (.mv (.t 3))⟩, ⟨some 20, none, .q (.mv (.t 4))⟩, ⟨some 21,
 none, .q (.ld (.t 1) 4 true)⟩, ⟨some 22, none, .q (.mv (.t 4))⟩, ⟨some 23, none, .lits [.t 22] 1⟩, ⟨some 24, none, .call (.f 45) [.t 21, .t 23]⟩, ⟨some 25, none, .call (.f 44)
 [.t 24]⟩, ⟨some 26, none, .q (.ia (.t 19) (.t 20) 3)⟩, ⟨none, none, .st (.t 26) (.t 25) 3⟩] [] [1, 3, 15, 16] [1, 13, 1025]))) (.reg [⟨some 27, none, .q (.bin .add (.t 16)
 (.c (.int .i64 1)))⟩, ⟨some 16, none, .q (.mv (.t 27))⟩] [] [1, 3, 15, 16] [1, 13, 1025]))))
def B43_2 : MC := (.seq (.reg [⟨some 51, none, .q (.bin .lss (.t 50) (.t 49))⟩] [] [1, 3, 5, 6, 33, 34, 35, 48, 49, 50, 51] [1, 13, 31, 46, 1025, 1096]) (.seq (.cond (.t 51) .skip (.exit 4))
 (.seq (.block 5 (.seq (.reg [⟨some 52, none, .q (.ia (.t 48) (.t 50) 2)⟩, ⟨some 53, none, .q (.ld (.t 52) 2 true)⟩, ⟨some 9, none, .alloc [.pv (.sc (.int .i64 0)),
 .pv (.sc (.int .i64 0))]⟩, ⟨none, none, .st (.t 9) (.t 53) 2⟩] [] [1, 3, 5, 6, 9, 33, 34, 35, 48, 49, 50] [1, 9, 13, 31, 46, 1025, 1096]) (.seq (.reg [⟨some 54, none, .q (.fa (.t 9) 0)⟩,
 ⟨some 55, none, .q (.ld (.t 54) 1 false)⟩, ⟨some 56, none, .q (.bin .geq (.t 55) (.c (.int .i64 0)))⟩, ⟨some 57, none, .q (.mv (.t 56))⟩, ⟨some 58, some (57, true), .q (.fa (.t 9)
 0)⟩, ⟨some 59, some (57, true), .q (.ld (.t 58) 1 false)⟩, ⟨some 60, some (57, true), .q (.fa (.t 1) 0)⟩, ⟨some 61, some (57, true), .q (.ld (.t 60) 1 false)⟩, ⟨some 62,
 some (57, true), .q (.len (.t 61) false)⟩, ⟨some 63, some (57, true), .q (.bin .leq (.t 59) (.t 62))⟩, ⟨some 64, none, .q (.pick (.t 57) (.t 63) (.c (.bool false)))⟩, ⟨some 65, none,
 .q (.mv (.t 64))⟩, ⟨some 66, some (65, true), .q (.fa (.t 9) 1)⟩, ⟨some 67, some (65, true), .q (.ld (.t 66) 1 false)⟩, ⟨some 68, some (65, true), .q (.bin .geq (.t 67)
 (.c (.int .i64 0)))⟩, ⟨some 69, none, .q (.pick (.t 65) (.t 68) (.c (.bool false)))⟩, ⟨some 70, none, .q (.mv (.t 69))⟩, ⟨some 71, some (70, true), .q (.fa (.t 9) 1)⟩, ⟨some 72,
 some (70, true), .q (.ld (.t 71) 1 false)⟩, ⟨some 73, some (70, true), .q (.mv (.t 3))⟩, ⟨some 74, some (70, true), .q (.len (.t 73) false)⟩, ⟨some 75, some (70, true),
 .q (.bin .lss (.t 72) (.t 74))⟩, ⟨some 76, none, .q (.pick (.t 70) (.t 75) (.c (.bool false)))⟩] [] [1, 3, 5, 6, 9, 33, 34, 35, 48, 49, 50, 76] [1, 9, 13, 31, 46, 1025, 1096]) (.cond (.t 76)
 (.reg [⟨some 77, none, .q (.mv (.t 5))⟩, ⟨some 78, none, .q (.mv (.t 6))⟩, ⟨some 79, none, .q (.ia (.t 77) (.t 78) 1)⟩, ⟨some 80, none, .q (.ld (.t 79) 1 false)⟩, ⟨some 81, none,
 .q (.fa (.t 9) 0)⟩, ⟨some 82, none, .q (.ld (.t 81) 1 false)⟩, ⟨some 83, none, .q (.mv (.t 5))⟩, ⟨some 84, none, .q (.mv (.t 6))⟩, ⟨some 85, none, .q (.ia (.t 83) (.t 84) 1)⟩,
 ⟨some 86, none, .q (.ld (.t 85) 1 false)⟩, ⟨some 87, none, .q (.fa (.t 9) 0)⟩, ⟨some 88, none, .q (.ld (.t 87) 1 false)⟩, ⟨some 89, none, .q (.ia (.t 86) (.t 88) 3)⟩, ⟨some 90,
 none, .q (.ld (.t 89) 3 true)⟩, ⟨some 91, none, .q (.mv (.t 3))⟩, ⟨some 92, none, .q (.fa (.t 9) 1)⟩, ⟨some 93, none, .q (.ld (.t 92) 1 false)⟩, ⟨some 94, none, .q (.ia (.t 91)
 (.t 93) 3)⟩, ⟨some 95, none, .q (.ld (.t 94) 3 true)⟩, ⟨some 96, none, .call (.f 48) [.t 90, .t 95]⟩, ⟨some 97, none, .q (.ia (.t 80) (.t 82) 3)⟩, ⟨none, none, .st (.t 97) (.t 96)
 3⟩] [] [1, 3, 5, 6, 33, 34, 35, 48, 49, 50] [1, 13, 31, 46, 1025, 1096]) .skip)))) (.reg [⟨some 98, none, .q (.bin .add (.t 50) (.c (.int .i64 1)))⟩, ⟨some 50, none,
 .q (.mv (.t 98))⟩] [] [1, 3, 5, 6, 33, 34, 35, 48, 49, 50] [1, 13, 31, 46, 1025, 1096]))))
def B43_1 : MC := (.seq (.reg [⟨some 36, none, .q (.bin .lss (.t 35) (.t 34))⟩] [] [1, 3, 5, 33, 34, 35, 36] [1, 13, 31, 46, 1025, 1096]) (.seq (.cond (.t 36) .skip (.exit 2))
 (.seq (.block 3 (.seq (.reg [⟨some 37, none, .q (.mv (.t 35))⟩, ⟨some 38, none, .q (.ia (.t 33) (.t 35) 1)⟩, ⟨some 39, none, .q (.ld (.t 38) 1 false)⟩, ⟨some 6, none,
 .q (.mv (.t 37))⟩, ⟨some 7, none, .q (.mv (.t 39))⟩] [] [1, 3, 5, 6, 7, 33, 34, 35] [1, 13, 31, 46, 1025, 1096]) (.seq (.reg [⟨some 40, none, .q (.mv (.t 5))⟩, ⟨some 41, none,
 .q (.mv (.t 6))⟩, ⟨some 42, none, .q (.fa (.t 1) 0)⟩, ⟨some 43, none, .q (.ld (.t 42) 1 false)⟩, ⟨some 44, none, .q (.len (.t 43) false)⟩, ⟨some 45, none, .q (.bin .add (.t 44)
 (.c (.int .i64 1)))⟩, ⟨some 46, none, .mks (.t 45) (.t 45) 3 24 (.agg [.sc (.int .u64 0), .sc (.int .u64 0), .sc (.int .u64 0)])⟩, ⟨some 47, none, .q (.ia (.t 40) (.t 41) 1)⟩, ⟨none,
 none, .st (.t 47) (.t 46) 1⟩] [] [1, 3, 5, 6, 7, 33, 34, 35] [1, 13, 31, 46, 1025, 1096]) (.seq (.reg [⟨some 48, none, .q (.mv (.t 7))⟩, ⟨some 49, none, .q (.len (.t 48) false)⟩,
 ⟨some 50, none, .q (.mv (.c (.int .i64 0)))⟩] [] [1, 3, 5, 6, 33, 34, 35, 48, 49, 50] [1, 13, 31, 46, 1025, 1096]) (.block 4 (.loop B43_2)))))) (.reg [⟨some 99, none, .q (.bin .add (.t 35)
 (.c (.int .i64 1)))⟩, ⟨some 35, none, .q (.mv (.t 99))⟩] [(46, 46, 0)] [1, 3, 5, 33, 34, 35] [1, 13, 31, 46, 1025, 1096]))))
def R43_1 : MC := (.seq (.reg [⟨some 100, none, .q (.mv (.t 5))⟩, ⟨some 2, none, .q (.mv (.t 100))⟩] [(31, 31, 0)] [2] [31, 46, 1096]) .ret)
def R43_0 : MC := (.seq (.reg [⟨some 28, none, .q (.fa (.t 1) 1)⟩, ⟨some 29, none, .q (.ld (.t 28) 1 false)⟩, ⟨some 30, none, .q (.len (.t 29) false)⟩, ⟨some 31, none, .mkx (.t 30)
 (.t 30) 24 .e0⟩, ⟨some 5, none, .q (.mv (.t 31))⟩] [(13, 13, 0)] [1, 3, 5] [1, 13, 31, 46, 1025, 1096]) (.seq (.seq (.reg [⟨some 32, none, .q (.fa (.t 1) 1)⟩, ⟨some 33, none,
 .q (.ld (.t 32) 1 false)⟩, ⟨some 34, none, .q (.len (.t 33) false)⟩, ⟨some 35, none, .q (.mv (.c (.int .i64 0)))⟩] [] [1, 3, 5, 33, 34, 35] [1, 13, 31, 46, 1025, 1096])
 (.block 2 (.loop B43_1))) R43_1))
def M43 : MC := (.seq (.reg [⟨some 1, none, .box (.t 0)⟩, ⟨some 2, none, .q (.mv .nil)⟩] [] [1] [1]) (.seq (.reg [⟨some 10, none, .q (.fa (.t 1) 1)⟩, ⟨some 11, none, .q (.ld (.t 10)
 1 false)⟩, ⟨some 12, none, .q (.len (.t 11) false)⟩, ⟨some 13, none, .mks (.t 12) (.t 12) 3 24 (.agg [.sc (.int .u64 0), .sc (.int .u64 0), .sc (.int .u64 0)])⟩, ⟨some 3, none,
 .q (.mv (.t 13))⟩] [] [1, 3] [1, 13, 1025]) (.seq (.seq (.reg [⟨some 14, none, .q (.mv (.t 3))⟩, ⟨some 15, none, .q (.len (.t 14) false)⟩, ⟨some 16, none,
 .q (.mv (.c (.int .i64 0)))⟩] [] [1, 3, 15, 16] [1, 13, 1025]) (.block 0 (.loop B43_0))) R43_0)))
theorem mc43 : ofCode Tryz.prog [31] Tryz.f43.ntmps [(0, ⟨[1], [1], [], 0, [], none⟩),
  (1, ⟨[1, 3], [1, 13, 1025], [], 0, [], none⟩),
  (2, ⟨[1, 3, 15, 16], [1, 13, 1025], [], 0, [], none⟩),
  (3, ⟨[1, 3, 15, 16, 17], [1, 13, 1025], [], 0, [], none⟩),
  (4, ⟨[1, 3, 4, 15, 16], [1, 13, 1025], [], 0, [], none⟩),
  (5, ⟨[1, 3, 15, 16], [1, 13, 1025], [], 0, [], none⟩),
  (6, ⟨[1, 3, 15, 16], [1, 13, 1025], [], 0, [], none⟩),
  (7, ⟨[1, 3, 5], [1, 13, 31, 46, 1025, 1096], [], 0, [(13, 13, 0)], none⟩),
  (8, ⟨[1, 3, 5, 33, 34, 35], [1, 13, 31, 46, 1025, 1096], [], 0, [], none⟩),
  (9, ⟨[1, 3, 5, 33, 34, 35, 36], [1, 13, 31, 46, 1025, 1096], [], 0, [], none⟩),
  (10, ⟨[1, 3, 5, 6, 7, 33, 34, 35], [1, 13, 31, 46, 1025, 1096], [], 0, [], none⟩),
  (11, ⟨[1, 3, 5, 6, 7, 33, 34, 35], [1, 13, 31, 46, 1025, 1096], [], 0, [], none⟩),
  (12, ⟨[1, 3, 5, 6, 33, 34, 35, 48, 49, 50], [1, 13, 31, 46, 1025, 1096], [], 0, [], none⟩),
  (13, ⟨[1, 3, 5, 6, 33, 34, 35, 48, 49, 50, 51], [1, 13, 31, 46, 1025, 1096], [], 0, [], none⟩),
  (14, ⟨[1, 3, 5, 6, 9, 33, 34, 35, 48, 49, 50], [1, 9, 13, 31, 46, 1025, 1096], [], 0, [], none⟩),
  (15, ⟨[1, 3, 5, 6, 9, 33, 34, 35, 48, 49, 50, 76], [1, 9, 13, 31, 46, 1025, 1096], [], 0, [], none⟩),
  (16, ⟨[1, 3, 5, 6, 33, 34, 35, 48, 49, 50], [1, 13, 31, 46, 1025, 1096], [(0, 3145741), (1, 3145742), (2, 3145740), (3, 3145736), (4, 3145776), (5, 3145760), (6, 3683136), (7, 3683200), (8, 3683072), (9, 3682816), (10, 3685376), (11, 3684352), (12, 3682304), (13, 3678208), (14, 4079616), (15, 4161536), (16, 4128768), (17, 4063232), (18, 3932160), (19, 0), (20, 3145728), (21, 0)], 2097151, [], none⟩),
  (17, ⟨[1, 3, 5, 6, 33, 34, 35, 48, 49, 50], [1, 13, 31, 46, 1025, 1096], [], 0, [], none⟩),
  (18, ⟨[1, 3, 5, 33, 34, 35], [1, 13, 31, 46, 1025, 1096], [], 0, [(46, 46, 0)], none⟩),
  (19, ⟨[2], [31, 46, 1096], [], 0, [(31, 31, 0)], none⟩)] (Tryz.f43.body.getD .skip) = some M43 := by kernel_rfl
theorem Run43 {args : List PV} {v : AV} {rs : List (Nat × List PV)} (ids : List Bool) (h : args.length ≤ 101) (hv : run Tryz.prog (retK [RV.tmp 2] ids v rs) M43 [] ⟨entry 0 args, []⟩) : Fn Tryz.prog 43 args v rs :=
 Fn_run ids (by kernel_rfl) Tryz.func43 (by decide) rfl mc43 (by kernel_rfl) (by rw [Tryz.ntmps43]; exact h) (by rw [Tryz.ntmps43]; decide) hv
end Go.Vc

namespace Go.Vc
open Go.Proofs
set_option linter.unusedSimpArgs false
set_option linter.unusedVariables false
def tabL {α : Type} (n : Nat) (f : Nat → α) : List α := (List.range n).map f
theorem tabL_len {α : Type} (n : Nat) (f : Nat → α) : (tabL n f).length = n := by simp [tabL]
theorem tabL_get {α : Type} {n : Nat} {f : Nat → α} {i : Nat} {d : α} (h : i < n) : (tabL n f).getD i d = f i := by simp [tabL, List.getD_eq_getElem?_getD, h]
theorem tabL_set {α : Type} {n : Nat} {f : Nat → α} {i : Nat} {v : α} (h : i < n) : (tabL n f).set i v = tabL n (fun j => if j = i then v else f j) := by
 refine List.ext_getElem (by simp [tabL]) fun j h1 h2 => ?_
 rw [List.getElem_set]
 simp only [tabL, List.getElem_map, List.getElem_range]
 by_cases hj : j = i
 ·subst hj; simp
 ·rw [if_neg (Ne.symm hj), if_neg hj]
theorem tabL_ext {α : Type} {n : Nat} {f g : Nat → α} (h : ∀ i, i < n → f i = g i) : tabL n f = tabL n g := by
 unfold tabL
 exact List.map_congr_left fun i hi => h i (List.mem_range.1 hi)
theorem tabL_rep {α : Type} (n : Nat) (v : α) : List.replicate n v = tabL n (fun _ => v) := by simp [tabL, List.map_const']
abbrev zSet : PV := .agg [pU 0, pU 0, pU 0]
def shutP (n : NF) (x : Int) : Nat → Bool := inN (closeN n [x])
def wayP (n : NF) (W : List (Int × Int)) (a : Nat) (j : Nat) : Bool := W.any fun e => decide (e.1 = (a : Int)) && (isSt n e.2 && shutP n e.2 j)
abbrev rowPV (n : NF) (s : Nat) : PV := .lst (tabL n.wid fun a => pSet (wayP n (n.ways.getD s []) a))
abbrev pSteps (n : NF) : PV := .lst (tabL n.size fun s => rowPV n s)
abbrev shutL (n : NF) (i : Nat) : List PV := tabL n.size fun s => if s < i then pSet (shutP n (s : Int)) else zSet
theorem shut_at {n : NF} {i : Nat} (h : i < n.size) : (shutL n i).getD i default = zSet := by rw [tabL_get h, if_neg (by omega)]
theorem shut_set {n : NF} {i : Nat} (h : i < n.size) : (shutL n i).set i (pSet (shutP n (i : Int))) = shutL n (i + 1) := by
 rw [tabL_set h]
 refine tabL_ext fun j hj => ?_
 by_cases h1 : j = i
 ·subst h1; rw [if_pos rfl, if_pos (by omega)]
 ·rw [if_neg h1]
  by_cases h2 : j < i
  ·rw [if_pos h2, if_pos (by omega)]
  ·rw [if_neg h2, if_neg (by omega)]
theorem frzs_map (r : Nat) (row : Row) : ∀ l : List AV, AV.frzs r row l = l.map (AV.frz r row)
 | [] => rfl
 | v :: l => by simp only [AV.frzs, List.map_cons, frzs_map r row l]
theorem tabL_map {α β : Type} {n : Nat} {f : Nat → α} (g : α → β) : (tabL n f).map g = tabL n (fun i => g (f i)) := by simp [tabL]
theorem clips_map (D : Nat → Bool) : ∀ l : List AV, AV.clips D l = l.map (AV.clip D)
 | [] => rfl
 | v :: l => by simp only [AV.clips, List.map_cons, clips_map D l]
abbrev rowAt (n : NF) (i : Nat) (v : AV) : List AV := tabL n.size fun s => if s < i then .pv (rowPV n s) else if s = i then v else .e0
abbrev nowL (n : NF) (W : List (Int × Int)) (k : Nat) : List PV := tabL n.wid fun a => pSet (wayP n (W.take k) a)
theorem clips_rowAt (D : Nat → Bool) (n : NF) (i : Nat) : AV.clips D (rowAt n i .e0) = rowAt n i .e0 := by
 rw [clips_map, tabL_map]
 refine tabL_ext fun j _ => ?_
 by_cases h : j < i
 ·simp only [if_pos h, AV.clip]
 ·simp only [if_neg h, ite_self, AV.clip]
theorem rowAt_set {n : NF} {i : Nat} (h : i < n.size) (v u : AV) : (rowAt n i u).set i v = rowAt n i v := by
 rw [tabL_set h]
 refine tabL_ext fun j _ => ?_
 by_cases h1 : j = i
 ·subst h1; simp
 ·simp [h1]
theorem rowAt_get {n : NF} {i : Nat} (h : i < n.size) (v : AV) : (rowAt n i v).getD i .un = v := by rw [tabL_get h]; simp
theorem rowAt_len (n : NF) (i : Nat) (v : AV) : (rowAt n i v).length = n.size := tabL_len _ _
theorem clips_rowAtR (n : NF) (i w : Nat) : AV.clips (only 9) (rowAt n i (.row 46 0 w)) = rowAt n i (.row 46 0 w) := by
 rw [clips_map, tabL_map]
 refine tabL_ext fun j _ => ?_
 by_cases h : j < i
 ·simp only [if_pos h, AV.clip]
 ·by_cases h2 : j = i
  ·simp only [if_neg h, if_pos h2, AV.clip]; rfl
  ·simp only [if_neg h, if_neg h2, AV.clip]
structure NF.Eg (n : NF) : Prop where
 e : ∀ s, ∀ e ∈ n.ways.getD s [], (e.1 = -1 ∨ (0 ≤ e.1 ∧ e.1 ≤ (n.signs.length : Int))) ∧ 0 ≤ e.2 ∧ e.2 < (n.size : Int)
theorem pSet_false : pSet (fun _ => false) = zSet := by
 have h0 := wd_zero 0
 have h1 := wd_zero 1
 have h2 := wd_zero 2
 show PV.agg [pU (wd (fun _ => false) 0 : Nat), pU (wd (fun _ => false) 1 : Nat), pU (wd (fun _ => false) 2 : Nat)] = zSet
 rw [h0, h1, h2]; rfl
theorem wf_sets {α : Type} (f : α → Nat → Bool) (l : List α) : WfL 3 (l.map fun a => pSet (f a)) := wf_map (f := fun a => pSet (f a)) (s := 3) (fun a => ⟨rfl, fun c hc => by
 simp only [PV.cells, List.mem_cons, List.not_mem_nil, or_false] at hc
 rcases hc with rfl | rfl | rfl <;> rfl⟩) l
theorem wayP_skip {n : NF} {W : List (Int × Int)} {k : Nat} (h : k < W.length) (he : W[k].1 = -1) (a : Nat) : wayP n (W.take (k + 1)) a = wayP n (W.take k) a := funext fun j => by
 unfold wayP
 rw [List.take_succ_eq_append_getElem h, List.any_append]
 have : ¬ ((-1 : Int) = (a : Int)) := by omega
 simp [he, this]
theorem wayP_one {n : NF} {W : List (Int × Int)} {k a b : Nat} (h : k < W.length) (h1 : W[k].1 = (a : Int)) (h2 : W[k].2 = (b : Int)) (hb : b < n.size) : wayP n (W.take (k + 1)) a = fun j => wayP n (W.take k) a j || shutP n (b : Int) j := funext fun j => by
 have hs : isSt n (b : Int) = true := isSt_iff.2 ⟨b, rfl, hb⟩
 unfold wayP
 rw [List.take_succ_eq_append_getElem h, List.any_append]
 simp [h1, h2, hs]
theorem wayP_other {n : NF} {W : List (Int × Int)} {k a c : Nat} (h : k < W.length) (h1 : W[k].1 = (a : Int)) (hc : c ≠ a) : wayP n (W.take (k + 1)) c = wayP n (W.take k) c := funext fun j => by
 unfold wayP
 rw [List.take_succ_eq_append_getElem h, List.any_append]
 have : ¬ ((a : Int) = (c : Int)) := by omega
 simp [h1, this]
theorem fn43 (n : NF) (hg : n.Good) (hsz : n.size ≤ 180) (hwl : ∀ s, (n.ways.getD s []).length ≤ 1000) (hsg : n.signs.length ≤ 1000) (heg : n.Eg) : Fn Tryz.prog 43 [pNf n] (.pv (pSteps n)) [] := by
 refine Run43 [] (by simp) ?_
 simp only [go_sem, Nat.reduceEqDiff, Nat.reduceBEq, Nat.reduceAdd, Nat.reduceLeDiff, reduceCtorEq, and_self, Int.cast_ofNat_Int, M43]
 have hil : n.ways.length = n.size := rfl
 rw [hil]
 refine ⟨⟨by omega, by omega, by omega⟩, ?_⟩
 refine run_loopN (T := Nat) [1, 3, 15, 16] [1, 13] (fun i => ⟨[(1, .ptr 1 0), (3, .row 13 0 n.size), (15, .pv (pI n.size)), (16, .pv (pI i))], [(1, .box (nBox n)), (13, .sl 3 (shutL n i))]⟩)
  (fun i => i ≤ n.size) (fun i => n.size - i) 0 ?_ (Nat.zero_le _) ?_
 ·have hz : shutL n 0 = List.replicate n.size zSet := by
   rw [tabL_rep]
   exact tabL_ext fun i _ => by simp
  rw [hz]
  simp only [go_sem, Nat.reduceEqDiff, Int.cast_ofNat_Int]
 intro i hi
 by_cases hlt : i < n.size
 ·simp only [go_sem, Nat.reduceEqDiff, Nat.reduceAdd, Nat.reduceLeDiff, and_self, B43_0, show (i : Int) < (n.size : Int) by omega]
  refine runR_call (by simp only [go_sem, Nat.reduceEqDiff, and_self]) rfl (fn45 n [(i : Int)] hg (by omega) (fun s => by have := hwl s; omega) (by simp)) (.inl rfl) trivial ?_
  simp only [go_sem, Nat.reduceEqDiff]
  have hcl := closeN_len n [(i : Int)]
  refine runR_callf (by simp only [go_sem, Nat.reduceEqDiff, and_self]) (by simp only [go_sem, Nat.reduceEqDiff] <;> rfl) (fn44 (closeN n [(i : Int)]) (fun x hx => by have := (closeN_mem.1 hx).1; omega) (by omega)) ⟨rfl, trivial⟩ trivial ?_
  simp only [go_sem, Nat.reduceEqDiff, Nat.reduceAdd, Nat.reduceLT, Int.reduceNeg, and_self, tabL_len, shut_at hlt]
  refine ⟨by omega, hlt, ⟨by omega, by omega⟩, i + 1, ?_, hlt, by omega⟩
  rw [← shut_set hlt]
  rfl
 ·have hie : i = n.size := by omega
  subst hie
  have hsh : shutL n n.size = tabL n.size fun s => pSet (shutP n (s : Int)) := tabL_ext fun j hj => by rw [if_pos hj]
  rw [hsh]
  have hz0 : ∀ row : Row, AV.frzs 13 row (List.replicate n.size AV.e0) = rowAt n 0 .e0 := fun row => by
   rw [frzs_map, tabL_rep, tabL_map]
   exact tabL_ext fun i _ => by simp [AV.frz]
  have tk : List.take n.size (tabL n.size fun s => pSet (shutP n (s : Int))) = tabL n.size fun s => pSet (shutP n (s : Int)) := List.take_of_length_le (by rw [tabL_len]; exact Nat.le_refl _)
  simp only [go_sem, Nat.reduceEqDiff, Nat.reduceBEq, Nat.reduceAdd, Nat.reduceLeDiff, and_self, Int.cast_ofNat_Int, B43_0, R43_0, hil, show ¬ (n.size : Int) < (n.size : Int) by omega, hz0, tk]
  refine ⟨⟨by omega, by omega⟩, ?_⟩
  clear hsh hi hlt hz0 tk
  obtain ⟨SH, hSH⟩ : ∃ SH, SH = tabL n.size fun s => pSet (shutP n (s : Int)) := ⟨_, rfl⟩
  rw [← hSH]
  refine run_loopN (T := Nat) [1, 3, 5, 33, 34, 35] [1, 31] (fun i => ⟨[(1, .ptr 1 0), (3, .pv (.lst SH)), (5, .row 31 0 n.size), (33, .pv (.lst (n.ways.map pWs))), (34, .pv (pI n.size)), (35, .pv (pI i))], [(1, .box (nBox n)), (31, .bxs (rowAt n i .e0))]⟩)
   (fun i => i ≤ n.size) (fun i => n.size - i) 0 ?_ (Nat.zero_le _) ?_
  ·simp only [go_sem, Nat.reduceEqDiff, Int.cast_ofNat_Int]
  intro i hi
  by_cases hlt : i < n.size
  ·have hiw : i < n.ways.length := hlt
   obtain ⟨W, hW⟩ : ∃ W, W = n.ways.getD i [] := ⟨_, rfl⟩
   have hWg : n.ways[i] = W := by rw [hW]; simp [List.getD_eq_getElem?_getD, hiw]
   have hWl := hwl i
   rw [← hW] at hWl
   have hwid : ((n.signs.length : Int) + 1).toNat = n.wid := by unfold NF.wid; omega
   simp only [go_sem, Nat.reduceEqDiff, Nat.reduceBEq, Nat.reduceAdd, Nat.reduceLeDiff, Int.reduceNeg, and_self, Int.cast_ofNat_Int, B43_1, hil, show (i : Int) < (n.size : Int) by omega, getD_map hiw, hWg, tabL_len, clips_rowAt, hwid, rowAt_set hlt]
   refine ⟨wf_pWs n.ways, ⟨by omega, by omega⟩, ⟨by omega, by omega, by omega, by omega⟩, hlt, ?_⟩
   refine run_loopN (T := Nat) [1, 3, 5, 6, 33, 34, 35, 48, 49, 50] [1, 31, 46] (fun k => ⟨[(1, .ptr 1 0), (3, .pv (.lst SH)), (5, .row 31 0 n.size), (6, .pv (pI i)), (33, .pv (.lst (n.ways.map pWs))), (34, .pv (pI n.size)), (35, .pv (pI i)), (48, .pv (pWs W)), (49, .pv (pI W.length)), (50, .pv (pI k))],
    [(1, .box (nBox n)), (31, .bxs (rowAt n i (.row 46 0 n.wid))), (46, .sl 3 (nowL n W k))]⟩) (fun k => k ≤ W.length) (fun k => W.length - k) 0 ?_ (Nat.zero_le _) ?_
   ·have hz : nowL n W 0 = List.replicate n.wid zSet := by
     rw [tabL_rep]
     refine tabL_ext fun a _ => ?_
     have : wayP n (W.take 0) a = fun _ => false := funext fun j => by simp [wayP]
     rw [this, pSet_false]
    simp only [go_sem, Nat.reduceEqDiff, Int.cast_ofNat_Int, hz]
   intro k hk
   by_cases hkl : k < W.length
   ·obtain ⟨he, hb0, hb1⟩ := heg.e i W[k] (by rw [← hW]; exact List.getElem_mem hkl)
    by_cases hm : W[k].1 = -1
    ·simp only [go_sem, Nat.reduceEqDiff, Nat.reduceBEq, Nat.reduceAdd, Nat.reduceLeDiff, Int.reduceLE, Int.reduceNeg, and_self, B43_2, show (k : Int) < (W.length : Int) by omega, wf_pE, getD_map hkl, hm, clips_rowAtR]
     refine ⟨⟨by omega, by omega⟩, k + 1, ?_, hkl, by omega⟩
     have : nowL n W (k + 1) = nowL n W k := tabL_ext fun a _ => by rw [wayP_skip hkl hm]
     rw [this]; rfl
    ·obtain ⟨a, ha⟩ : ∃ a : Nat, W[k].1 = (a : Int) := ⟨W[k].1.toNat, by omega⟩
     obtain ⟨b, hb⟩ : ∃ b : Nat, W[k].2 = (b : Int) := ⟨W[k].2.toNat, by omega⟩
     have haw : a < n.wid := by unfold NF.wid; omega
     have hbs : b < n.size := by omega
     have hn := wayP_one hkl ha hb hbs
     have ho := fun c (hc : c ≠ a) => wayP_other (n := n) hkl ha hc
     have hSHb : SH.getD b default = pSet (shutP n (b : Int)) := by rw [hSH, tabL_get hbs]
     have hSHl : SH.length = n.size := by rw [hSH, tabL_len]
     have hSHw : WfL 3 SH := by rw [hSH]; exact wf_sets _ _
     have hnw : WfL 3 (nowL n W k) := wf_sets _ _
     have hnl : (nowL n W k).length = n.wid := tabL_len _ _
     have hna : (nowL n W k).getD a default = pSet (wayP n (W.take k) a) := tabL_get haw
     have hrg := rowAt_get hlt (.row 46 0 n.wid)
     simp only [go_sem, Nat.reduceEqDiff, Nat.reduceBEq, Nat.reduceAdd, Nat.reduceLeDiff, Int.reduceNeg, and_self, B43_2, show (k : Int) < (W.length : Int) by omega, wf_pE, getD_map hkl, ha, hb, clips_rowAtR, show (a : Int) ≤ (n.signs.length : Int) by omega, hSHl, show (b : Int) < (n.size : Int) by omega, rowAt_len, hrg, show (i : Int) < (n.size : Int) by omega, show (a : Int) < (n.wid : Int) by omega, hna, hSHb, hnl]
     refine ⟨hlt, hlt, haw, hSHw, ?_⟩
     refine runR_callf (by simp only [go_sem, Nat.reduceEqDiff, and_self]) (by simp only [go_sem, Nat.reduceEqDiff] <;> rfl) (fn48 (wayP n (W.take k) a) (shutP n (b : Int))) ⟨rfl, trivial⟩ trivial ?_
     have hset : (nowL n W k).set a (pSet (wayP n (W.take (k + 1)) a)) = nowL n W (k + 1) := by
      rw [tabL_set haw]
      refine tabL_ext fun c _ => ?_
      by_cases hc : c = a
      ·subst hc; rw [if_pos rfl]
      ·rw [if_neg hc, ho c hc]
     simp only [go_sem, Nat.reduceEqDiff, Nat.reduceAdd, Nat.reduceLT, Int.reduceNeg, and_self, hna, hnl, show (a : Int) < (n.wid : Int) by omega]
     refine ⟨haw, ⟨by omega, by omega⟩, k + 1, ?_, hkl, by omega⟩
     rw [← hset, hn]
     rfl
   ·have hke : k = W.length := by omega
    subst hke
    have hfr : AV.frzs 46 (.sl 3 (nowL n W W.length)) (rowAt n i (.row 46 0 n.wid)) = rowAt n (i + 1) .e0 := by
     rw [frzs_map, tabL_map]
     refine tabL_ext fun j _ => ?_
     by_cases h1 : j < i
     ·simp only [if_pos h1, if_pos (show j < i + 1 by omega), AV.frz]
     ·by_cases h2 : j = i
      ·subst h2
       have hl : (nowL n W W.length).length = n.wid := tabL_len _ _
       simp only [if_neg h1, if_true, if_pos (show j < j + 1 by omega), AV.frz, frzRow, List.drop_zero]
       rw [List.take_of_length_le (by omega), show nowL n W W.length = tabL n.wid fun a => pSet (wayP n W a) from tabL_ext fun a _ => by rw [List.take_length], hW]
      ·simp only [if_neg h1, if_neg h2, if_neg (show ¬ j < i + 1 by omega), ite_self, AV.frz]
    simp only [go_sem, Nat.reduceEqDiff, Nat.reduceBEq, Nat.reduceAdd, Nat.reduceLeDiff, Int.reduceNeg, and_self, B43_2, show ¬ (W.length : Int) < (W.length : Int) by omega, hfr]
    exact ⟨⟨by omega, by omega⟩, i + 1, rfl, hlt, by omega⟩
  ·have hie : i = n.size := by omega
   subst hie
   have hall : allPv (rowAt n n.size .e0) = some (tabL n.size fun s => rowPV n s) := by
    have e : rowAt n n.size .e0 = (tabL n.size fun s => rowPV n s).map AV.pv := by
     rw [tabL_map]
     exact tabL_ext fun j hj => by rw [if_pos hj]
    rw [e]
    generalize (tabL n.size fun s => rowPV n s) = l
    induction l with
    | nil => rfl
    | cons p l ih => simp only [List.map_cons, allPv, ih]
   have hones : onesP (tabL n.size fun s => rowPV n s) = true := by
    unfold tabL
    generalize List.range n.size = l
    induction l with
    | nil => rfl
    | cons p l ih => simp only [List.map_cons, onesP, ih]; rfl
   have tk : List.take n.size (tabL n.size fun s => rowPV n s) = tabL n.size fun s => rowPV n s := List.take_of_length_le (by rw [tabL_len]; exact Nat.le_refl _)
   simp only [go_sem, Nat.reduceEqDiff, Nat.reduceBEq, Nat.reduceAdd, Nat.reduceLeDiff, Int.reduceNeg, and_self, Int.cast_ofNat_Int, B43_1, R43_1, show ¬ (n.size : Int) < (n.size : Int) by omega, hall, hones, tk]
end Go.Vc
