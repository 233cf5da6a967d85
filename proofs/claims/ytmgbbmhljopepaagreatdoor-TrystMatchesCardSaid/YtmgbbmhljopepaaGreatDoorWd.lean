/- A part of the proofs of the seat YtmgbbmhljopepaaGreatDoor: the contracts of functions, each proved out of its code. -/
import Derived.Test.YtmgbbmhljopepaaGreatDoorVe
import Derived.Test.YtmgbbmhljopepaaGreatDoorProg
import Derived.Test.YtmgbbmhljopepaaGreatDoorWb
import Derived.Test.YtmgbbmhljopepaaGreatDoorWc
namespace Go.Vc
open Go.Proofs
set_option maxRecDepth 100000
def M108 : MC := (.seq (.reg [qi 4 (.mv (.c (.bool false)))] [] [0,1] []) (.seq (.reg [mi 5 0,⟨some 6,none,.call (.f 139) [.t 5]⟩,mi 7 6,gi 8 7 true (.mv (.t 1)),⟨some 9,some (7,true),.call (.f 139) [.t 8]⟩,gi 10 7 true (.not (.t 9)),qi 11 (.pick (.t 7) (.t 10) (.c (.bool false))),mi 12 11,gi 13 12 false (.mv (.t 0)),gi 14 12 false (.mv (.t 1)),gi 15 12 false (.bin .lss (.t 13) (.t 14)),qi 16 (.pick (.t 12) (.c (.bool true)) (.t 15)),mi 4 16] [] [4] [1006,1009]) .ret))
theorem mc108 : ofCode Tryz.prog [] Tryz.f108.ntmps [(0, ⟨[0, 1], [], [], 0, [], none⟩),
  (1, ⟨[4], [1006, 1009], [], 0, [], none⟩)] (Tryz.f108.body.getD .skip) = some M108 := by kernel_rfl
theorem Run108 {args : List PV} {v : AV} {rs : List (Nat × List PV)} (ids : List Bool) (h : args.length ≤ 17) (hv : run Tryz.prog (retK [RV.tmp 4] ids v rs) M108 [] ⟨entry 0 args, []⟩) : Fn Tryz.prog 108 args v rs :=
 Fn_run ids (by kernel_rfl) Tryz.func108 (by decide) rfl mc108 (by kernel_rfl) (by rw [Tryz.ntmps108]; exact h) (by rw [Tryz.ntmps108]; decide) hv
def M109 : MC := (.seq (.reg [qi 2 (.mv (.c (.bool false)))] [] [0] []) (.seq (.reg [mi 3 0,mi 4 0,qi 5 (.bin .neq (.t 3) (.t 4)),mi 2 5] [] [2] []) .ret))
theorem mc109 : ofCode Tryz.prog [] Tryz.f109.ntmps [(0, ⟨[0], [], [], 0, [], none⟩),
  (1, ⟨[2], [], [], 0, [], none⟩)] (Tryz.f109.body.getD .skip) = some M109 := by kernel_rfl
theorem Run109 {args : List PV} {v : AV} {rs : List (Nat × List PV)} (ids : List Bool) (h : args.length ≤ 6) (hv : run Tryz.prog (retK [RV.tmp 2] ids v rs) M109 [] ⟨entry 0 args, []⟩) : Fn Tryz.prog 109 args v rs :=
 Fn_run ids (by kernel_rfl) Tryz.func109 (by decide) rfl mc109 (by kernel_rfl) (by rw [Tryz.ntmps109]; exact h) (by rw [Tryz.ntmps109]; decide) hv
def M139 : MC := (.seq (.reg [qi 2 (.mv (.c (.bool false)))] [] [0] []) (.seq (.reg [mi 3 0,mi 4 0,qi 5 (.bin .neq (.t 3) (.t 4)),mi 2 5] [] [2] []) .ret))
theorem mc139 : ofCode Tryz.prog [] Tryz.f139.ntmps [(0, ⟨[0], [], [], 0, [], none⟩),
  (1, ⟨[2], [], [], 0, [], none⟩)] (Tryz.f139.body.getD .skip) = some M139 := by kernel_rfl
theorem Run139 {args : List PV} {v : AV} {rs : List (Nat × List PV)} (ids : List Bool) (h : args.length ≤ 6) (hv : run Tryz.prog (retK [RV.tmp 2] ids v rs) M139 [] ⟨entry 0 args, []⟩) : Fn Tryz.prog 139 args v rs :=
 Fn_run ids (by kernel_rfl) Tryz.func139 (by decide) rfl mc139 (by kernel_rfl) (by rw [Tryz.ntmps139]; exact h) (by rw [Tryz.ntmps139]; decide) hv
def B86_0 : MC := (.seq (.seq (.reg [mi 13 7,mi 14 8,qi 15 (.bin .lss (.t 13) (.t 14))] [] [0,1,6,7,8,15] []) (.cond (.t 15) .skip (.exit 0))) (.block 1 (.seq (.reg [mi 16 7,mi 17 8,qi 18 (.bin .add (.t 16) (.t 17)),qi 19 (.conv .u64 (.t 18)),qi 20 (.shf false (.t 19) (.c (.int .u64 1))),qi 21 (.conv .i64 (.t 20)),mi 9 21] [] [0,1,6,7,8,9] []) (.seq (.reg [mi 22 0,mi 23 9,qi 24 (.ia (.t 22) (.t 23) 1),qi 25 (.ld (.t 24) 1 false),mi 26 1,⟨some 27,none,.call (.f 108) [.t 25,.t 26]⟩] [] [0,1,6,7,8,9,27] [1027]) (.cond (.t 27) (.reg [mi 28 9,qi 29 (.bin .add (.t 28) (ic 1)),mi 7 29] [] [0,1,6,7,8] []) (.reg [mi 30 9,mi 8 30] [] [0,1,6,7,8] []))))))
def R86_0 : MC := (.seq (.reg [mi 31 7,mi 32 7,mi 33 6,qi 34 (.bin .lss (.t 32) (.t 33)),mi 35 34,gi 36 35 true (.mv (.t 0)),gi 37 35 true (.mv (.t 7)),gi 38 35 true (.ia (.t 36) (.t 37) 1),gi 39 35 true (.ld (.t 38) 1 false),gi 40 35 true (.mv (.t 1)),gi 41 35 true (.bin .eql (.t 39) (.t 40)),gi 42 35 true (.mv (.t 41)),gi 43 42 false (.mv (.t 0)),gi 44 42 false (.mv (.t 7)),gi 45 42 false (.ia (.t 43) (.t 44) 1),gi 46 42 false (.ld (.t 45) 1 false),⟨some 47,some (42,false),.call (.f 109) [.t 46]⟩,gi 48 42 false (.mv (.t 47)),gi 49 48 true (.mv (.t 1)),⟨some 50,some (48,true),.call (.f 109) [.t 49]⟩,gi 51 42 false (.pick (.t 48) (.t 50) (.c (.bool false))),gi 52 35 true (.pick (.t 42) (.c (.bool true)) (.t 51)),qi 53 (.pick (.t 35) (.t 52) (.c (.bool false))),mi 4 31,mi 5 53] [] [4,5] [1047,1050]) .ret)
def M86 : MC := (.seq (.reg [qi 4 (.mv (ic 0)),qi 5 (.mv (.c (.bool false)))] [] [0,1] []) (.seq (.reg [mi 10 0,qi 11 (.len (.t 10) false),mi 6 11] [] [0,1,6] []) (.seq (.reg [mi 12 6,qi 7 (.mv (ic 0)),mi 8 12] [] [0,1,6,7,8] []) (.seq (.block 0 (.loop B86_0)) R86_0))))
theorem mc86 : ofCode Tryz.prog [] Tryz.f86.ntmps [(0, ⟨[0, 1], [], [], 0, [], none⟩),
  (1, ⟨[0, 1, 6], [], [], 0, [], none⟩),
  (2, ⟨[0, 1, 6, 7, 8], [], [], 0, [], none⟩),
  (3, ⟨[0, 1, 6, 7, 8, 15], [], [], 0, [], none⟩),
  (4, ⟨[0, 1, 6, 7, 8, 9], [], [], 0, [], none⟩),
  (5, ⟨[0, 1, 6, 7, 8, 9, 27], [1027], [], 0, [], none⟩),
  (6, ⟨[0, 1, 6, 7, 8], [], [], 0, [], none⟩),
  (7, ⟨[0, 1, 6, 7, 8], [], [], 0, [], none⟩),
  (8, ⟨[4, 5], [1047, 1050], [], 0, [], none⟩)] (Tryz.f86.body.getD .skip) = some M86 := by kernel_rfl
theorem Run86 {args : List PV} {v : AV} {rs : List (Nat × List PV)} (ids : List Bool) (h : args.length ≤ 54) (hv : run Tryz.prog (retK [RV.tmp 4, RV.tmp 5] ids v rs) M86 [] ⟨entry 0 args, []⟩) : Fn Tryz.prog 86 args v rs :=
 Fn_run ids (by kernel_rfl) Tryz.func86 (by decide) rfl mc86 (by kernel_rfl) (by rw [Tryz.ntmps86]; exact h) (by rw [Tryz.ntmps86]; decide) hv
def M57 : MC := (.seq (.reg [⟨some 2,none,.box (.t 0)⟩,qi 4 (.mv (ic 0))] [] [1,2] [2]) (.seq (.seq (.reg [qi 8 (.fa (.t 2) 0),qi 9 (.ld (.t 8) 1 false),mi 10 1,⟨some 11,none,.call (.f 86) [.t 9,.t 10]⟩,mi 7 11,qi 12 (.ext (.t 7) 0),qi 13 (.ext (.t 7) 1),mi 5 12,mi 6 13] [] [2,5,6] [2,1011]) (.seq (.reg [mi 14 6] [] [2,5,14] [2,1011]) (.cond (.t 14) (.seq (.reg [mi 15 5,mi 4 15] [] [4] [1011]) .ret) .skip))) (.seq (.reg [qi 16 (.fa (.t 2) 0),qi 17 (.ld (.t 16) 1 false),qi 18 (.len (.t 17) false),mi 4 18] [] [4] [1011]) .ret)))
theorem mc57 : ofCode Tryz.prog [] Tryz.f57.ntmps [(0, ⟨[1, 2], [2], [], 0, [], none⟩),
  (1, ⟨[2, 5, 6], [2, 1011], [], 0, [], none⟩),
  (2, ⟨[2, 5, 14], [2, 1011], [], 0, [], none⟩),
  (3, ⟨[4], [1011], [], 0, [], none⟩),
  (4, ⟨[4], [1011], [], 0, [], none⟩)] (Tryz.f57.body.getD .skip) = some M57 := by kernel_rfl
theorem Run57 {args : List PV} {v : AV} {rs : List (Nat × List PV)} (ids : List Bool) (h : args.length ≤ 19) (hv : run Tryz.prog (retK [RV.tmp 4] ids v rs) M57 [] ⟨entry 0 args, []⟩) : Fn Tryz.prog 57 args v rs :=
 Fn_run ids (by kernel_rfl) Tryz.func57 (by decide) rfl mc57 (by kernel_rfl) (by rw [Tryz.ntmps57]; exact h) (by rw [Tryz.ntmps57]; decide) hv
def M78 : MC := (.seq (.reg [⟨some 2,none,.box (.t 0)⟩,qi 4 (.mv .nil)] [] [1,2] [2]) (.seq (.seq (.reg [mi 5 1,qi 6 (.bin .lss (.t 5) (ic 0)),mi 7 6,gi 8 7 false (.mv (.t 1)),gi 9 7 false (.fa (.t 2) 1),gi 10 7 false (.ld (.t 9) 1 false),gi 11 7 false (.len (.t 10) false),gi 12 7 false (.bin .geq (.t 8) (.t 11)),qi 13 (.pick (.t 7) (.c (.bool true)) (.t 12))] [] [1,2,13] [2]) (.cond (.t 13) (.seq (.reg [qi 4 (.mv .nil)] [] [4] []) .ret) .skip)) (.seq (.reg [qi 14 (.fa (.t 2) 1),qi 15 (.ld (.t 14) 1 false),mi 16 1,qi 17 (.ia (.t 15) (.t 16) 1),qi 18 (.ld (.t 17) 1 false),mi 4 18] [] [4] []) .ret)))
theorem mc78 : ofCode Tryz.prog [] Tryz.f78.ntmps [(0, ⟨[1, 2], [2], [], 0, [], none⟩),
  (1, ⟨[1, 2, 13], [2], [], 0, [], none⟩),
  (2, ⟨[4], [], [], 0, [], none⟩),
  (3, ⟨[4], [], [], 0, [], none⟩)] (Tryz.f78.body.getD .skip) = some M78 := by kernel_rfl
theorem Run78 {args : List PV} {v : AV} {rs : List (Nat × List PV)} (ids : List Bool) (h : args.length ≤ 19) (hv : run Tryz.prog (retK [RV.tmp 4] ids v rs) M78 [] ⟨entry 0 args, []⟩) : Fn Tryz.prog 78 args v rs :=
 Fn_run ids (by kernel_rfl) Tryz.func78 (by decide) rfl mc78 (by kernel_rfl) (by rw [Tryz.ntmps78]; exact h) (by rw [Tryz.ntmps78]; decide) hv
def B42_0 : MC := (.seq (.reg [qi 36 (.bin .lss (.t 35) (.t 34))] [] [6,7,34,35,36] [27,43,2007]) (.seq (.cond (.t 36) .skip (.exit 1)) (.seq (.block 2 (.seq (.reg [mi 37 35,mi 8 37] [] [6,7,8,34,35] [27,43,2007]) (.reg [mi 38 7,mi 39 8,mi 40 6,qi 41 (.mk [.pv (.sc (.int .i64 0)),.pv (.sc (.int .i64 0))] [(0,1,(.t 39)),(1,1,(.t 40))]),⟨some 42,none,.lits [.t 41] 2⟩,⟨some 43,none,.app (.t 38) (.t 42) 2 16⟩,mi 7 43] [] [6,7,34,35] [27,43,2007]))) (.reg [qi 44 (.bin .add (.t 35) (ic 1)),mi 35 44] [] [6,7,34,35] [27,43,2007]))))
def R42_0 : MC := (.seq (.reg [mi 45 7,mi 4 45] [] [4] [20,27,43,2007]) .ret)
def M42 : MC := (.seq (.reg [⟨some 2,none,.box (.t 0)⟩,qi 4 (.mv .nil)] [] [1,2] [2]) (.seq (.reg [qi 9 (.fa (.t 2) 1),qi 10 (.ld (.t 9) 1 false),qi 11 (.len (.t 10) false),mi 5 11] [] [1,2,5] [2]) (.seq (.reg [mi 12 5,qi 13 (.bin .add (.t 12) (ic 1)),mi 6 13] [] [1,2,5,6] [2]) (.seq (.reg [qi 7 (.mv .nil)] [(7,2007,2)] [1,2,5,6,7] [2,27,43,2007]) (.seq (.seq (.reg [mi 14 1] [] [1,2,5,6,7,14] [2,27,43,2007]) (.block 0 (.seq (.reg [qi 22 (.bin .eql (.t 14) (.c (.string ⟨#[42,42]⟩))),mi 21 22] [] [1,2,5,6,7,14,21] [2,27,43,2007]) (.cond (.t 21) (.seq (.reg [mi 23 7,mi 24 6,qi 25 (.mk [.pv (.sc (.int .i64 0)),.pv (.sc (.int .i64 0))] [(0,1,(.c (.int .i64 (-1)))),(1,1,(.t 24))]),⟨some 26,none,.lits [.t 25] 2⟩,⟨some 27,none,.app (.t 23) (.t 26) 2 16⟩,mi 7 27] [] [2,5,7] [2,27,43,2007]) (.reg [mi 28 5,mi 6 28] [] [2,6,7] [2,27,43,2007])) (.seq (.reg [qi 30 (.bin .eql (.t 14) (.c (.string ⟨#[42]⟩))),mi 29 30] [] [1,2,6,7,29] [2,27,43,2007]) (.cond (.t 29) .skip (.seq (.reg [qi 15 (.ld (.t 2) 4 true),mi 16 1,⟨some 17,none,.call (.f 57) [.t 15,.t 16]⟩,mi 18 6,qi 19 (.mk [.pv (.sc (.int .i64 0)),.pv (.sc (.int .i64 0))] [(0,1,(.t 17)),(1,1,(.t 18))]),⟨some 20,none,.own [.t 19] 2⟩,mi 4 20] [] [4] [20,27,43,2007]) .ret))))))) (.seq (.seq (.reg [qi 31 (.fa (.t 2) 0),qi 32 (.ld (.t 31) 1 false),qi 33 (.len (.t 32) false),qi 34 (.bin .add (.t 33) (ic 1)),qi 35 (.mv (ic 0))] [] [6,7,34,35] [27,43,2007]) (.block 1 (.loop B42_0))) R42_0))))))
theorem mc42 : ofCode Tryz.prog [20] Tryz.f42.ntmps [(0, ⟨[1, 2], [2], [], 0, [], none⟩),
  (1, ⟨[1, 2, 5], [2], [], 0, [], none⟩),
  (2, ⟨[1, 2, 5, 6], [2], [], 0, [], none⟩),
  (3, ⟨[1, 2, 5, 6, 7], [2, 27, 43, 2007], [], 0, [(7, 2007, 2)], none⟩),
  (4, ⟨[1, 2, 5, 6, 7, 14], [2, 27, 43, 2007], [], 0, [], none⟩),
  (5, ⟨[4], [20, 27, 43, 2007], [], 0, [], none⟩),
  (6, ⟨[1, 2, 5, 6, 7, 14, 21], [2, 27, 43, 2007], [], 0, [], none⟩),
  (7, ⟨[2, 5, 7], [2, 27, 43, 2007], [], 0, [], none⟩),
  (8, ⟨[2, 6, 7], [2, 27, 43, 2007], [], 0, [], none⟩),
  (9, ⟨[1, 2, 6, 7, 29], [2, 27, 43, 2007], [], 0, [], none⟩),
  (10, ⟨[6, 7, 34, 35], [27, 43, 2007], [], 0, [], none⟩),
  (11, ⟨[6, 7, 34, 35, 36], [27, 43, 2007], [], 0, [], none⟩),
  (12, ⟨[6, 7, 8, 34, 35], [27, 43, 2007], [], 0, [], none⟩),
  (13, ⟨[6, 7, 34, 35], [27, 43, 2007], [], 0, [], none⟩),
  (14, ⟨[6, 7, 34, 35], [27, 43, 2007], [], 0, [], none⟩),
  (15, ⟨[4], [20, 27, 43, 2007], [], 0, [], none⟩)] (Tryz.f42.body.getD .skip) = some M42 := by kernel_rfl
theorem Run42 {args : List PV} {v : AV} {rs : List (Nat × List PV)} (ids : List Bool) (h : args.length ≤ 46) (hv : run Tryz.prog (retK [RV.tmp 4] ids v rs) M42 [] ⟨entry 0 args, []⟩) : Fn Tryz.prog 42 args v rs :=
 Fn_run ids (by kernel_rfl) Tryz.func42 (by decide) rfl mc42 (by kernel_rfl) (by rw [Tryz.ntmps42]; exact h) (by rw [Tryz.ntmps42]; decide) hv
end Go.Vc

namespace Go.Vc
open Go.Proofs
set_option linter.unusedSimpArgs false
set_option linter.unusedVariables false
theorem fn139 (s : ByteArray) : Fn Tryz.prog 139 [pS s] (.pv (pB false)) [] := by
 refine Run139 [] (by simp) ?_
 simp only [go_sem, M139]
theorem fn109 (s : ByteArray) : Fn Tryz.prog 109 [pS s] (.pv (pB false)) [] := by
 refine Run109 [] (by simp) ?_
 simp only [go_sem, M109]
theorem fn108 (a b : ByteArray) : Fn Tryz.prog 108 [pS a, pS b] (.pv (pB (ltB a b))) [] := by
 refine Run108 [] (by simp) ?_
 simp only [go_sem, M108]
 refine runR_callf (by simp only [go_sem]) (by simp only [go_sem] <;> rfl) (fn139 a) ⟨rfl, trivial⟩ trivial ?_
 simp only [go_sem]
 refine runR_callgf (p := pB false) (by simp only [go_sem]) (by simp only [go_sem]) (by simp only [go_sem] <;> rfl) (fun h => absurd h (by simp only [go_sem])) rfl ?_
 simp only [go_sem]
 rfl
def lowB (d : List ByteArray) (p : ByteArray) : Nat := d.findIdx (fun x => !ltB x p)
theorem low_eq {d : List ByteArray} {p : ByteArray} {i : Nat} (hi : i ≤ d.length) (h1 : ∀ k, k < i → ltB (d.getD k ⟨#[]⟩) p = true) (h2 : i < d.length → ltB (d.getD i ⟨#[]⟩) p = false) : lowB d p = i := by
 have e : ∀ k (h : k < d.length), d.getD k ⟨#[]⟩ = d[k] := fun k h => by simp [List.getD_eq_getElem?_getD, h]
 unfold lowB
 by_cases hlt : i < d.length
 ·rw [List.findIdx_eq hlt]
  refine ⟨by rw [← e i hlt, h2 hlt]; rfl, fun j hj => ?_⟩
  rw [← e j (by omega), h1 j hj]; rfl
 ·have : i = d.length := by omega
  subst this
  rw [List.findIdx_eq_length]
  intro x hx
  obtain ⟨k, hk, rfl⟩ := List.getElem_of_mem hx
  rw [← e k hk, h1 k hk]; rfl
theorem fn86 (d : List ByteArray) (p : ByteArray) (hd : RisB d) (hl : d.length ≤ 1000) : Fn Tryz.prog 86 [ss d, pS p] (.pv (.tup [pI (lowB d p), pB (decide (letterN d p < d.length))])) [] := by
 refine Run86 [] (by simp) ?_
 simp only [go_sem, M86]
 refine run_loop (T := Nat × Nat) (fun s => ⟨[(0, .pv (ss d)), (1, .pv (pS p)), (6, .pv (pI d.length)), (7, .pv (pI s.1)), (8, .pv (pI s.2))], []⟩)
  (fun s => s.1 ≤ s.2 ∧ s.2 ≤ d.length ∧ (∀ k, k < s.1 → ltB (d.getD k ⟨#[]⟩) p = true) ∧ (∀ k, s.2 ≤ k → k < d.length → ltB (d.getD k ⟨#[]⟩) p = false)) (fun s => s.2 - s.1) (0, d.length) rfl ⟨by simp, by simp, by simp, fun k h1 h2 => by simp only at h1; omega⟩ ?_
 rintro ⟨i, j⟩ ⟨h1, h2, h3, h4⟩
 simp only at h1 h2 h3 h4
 by_cases hij : i < j
 ·have e : ((i : Int) + (j : Int)).fdiv (2 ^ 1) = (((i + j) / 2 : Nat) : Int) := by rw [Int.fdiv_eq_ediv_of_nonneg _ (by omega)]; omega
  have hh : (i + j) / 2 < d.length := by omega
  generalize hm : (i + j) / 2 = m at e hh
  simp only [go_sem, B86_0, R86_0, show (i : Int) < (j : Int) by omega, e, getD_map hh, wf_ss]
  refine ⟨⟨by omega, by omega⟩, ⟨by omega, by omega⟩, ⟨by omega, by omega⟩, by omega, ?_⟩
  refine runR_callf (by simp only [go_sem]) (by simp only [go_sem] <;> rfl) (fn108 d[m] p) ⟨rfl, trivial⟩ trivial ?_
  simp only [go_sem]
  have em : d.getD m ⟨#[]⟩ = d[m] := by simp [List.getD_eq_getElem?_getD, hh]
  refine ⟨fun h => ⟨⟨by omega, by omega⟩, (m + 1, j), rfl, ⟨by simp only; omega, h2, fun k hk => ?_, h4⟩, by simp only; omega⟩, fun h => ⟨(i, m), rfl, ⟨by simp only; omega, by simp only; omega, h3, fun k hk hk2 => ?_⟩, by simp only; omega⟩⟩
  ·simp only at hk
   by_cases hkm : k = m
   ·subst hkm; rw [em]; exact h
   ·cases hc : ltB (d.getD k ⟨#[]⟩) p with
    | true => rfl
    | false =>
     have a1 := ris_get hd (show k < m by omega) hh
     rw [em] at a1
     have a2 := ltB_tr a1 h
     rw [hc] at a2; cases a2
  ·simp only at hk
   by_cases hkm : k = m
   ·subst hkm; rw [em]; exact h
   ·cases hc : ltB (d.getD k ⟨#[]⟩) p with
    | false => rfl
    | true =>
     have a1 := ris_get hd (show m < k by omega) hk2
     rw [em] at a1
     have a2 := ltB_tr a1 hc
     rw [h] at a2; cases a2
 ·have hij2 : i = j := by omega
  subst hij2
  have hlow := low_eq h2 h3 (fun h => h4 i (Nat.le_refl _) h)
  have hsr := letterN_srch hd h2 h3 h4
  by_cases hlt : i < d.length
  ·have ei : d.getD i ⟨#[]⟩ = d[i] := by simp [List.getD_eq_getElem?_getD, hlt]
   rw [ei] at hsr
   simp only [go_sem, B86_0, R86_0, show ¬ (i : Int) < (i : Int) by omega, show (i : Int) < (d.length : Int) by omega, getD_map hlt, wf_ss]
   refine runR_callgf (by simp only [go_sem]) (by simp only [go_sem]) (by simp only [go_sem] <;> rfl) (fun _ => fn109 d[i]) rfl ?_
   simp only [go_sem]
   refine runR_callgf (by simp only [go_sem]) (by simp only [go_sem]) (by simp only [go_sem] <;> rfl) (fun _ => fn109 p) rfl ?_
   simp only [go_sem]
   rw [hlow]
   rcases hsr with ⟨_, h5, h6⟩ | ⟨h5, h6⟩
   ·rw [h6, show decide (d[i] = p) = true by simp [h5], show decide (i < d.length) = true by simp [hlt]]
   ·rw [h6, show decide (d[i] = p) = false by simp; exact fun h => h5 ⟨hlt, h⟩]; simp
  ·have edf : (d.map pS).getD i default = PV.sc default := by rw [List.getD_eq_getElem?_getD, List.getElem?_eq_none (by simp; omega)]; rfl
   simp only [go_sem, B86_0, R86_0, show ¬ (i : Int) < (i : Int) by omega, show ¬ (i : Int) < (d.length : Int) by omega, edf]
   refine runR_callgf (p := pB false) (by simp only [go_sem]) (by simp only [go_sem]) (by simp only [go_sem] <;> rfl) (fun h => absurd h (by simp only [go_sem])) rfl ?_
   simp only [go_sem]
   refine runR_callgf (p := pB false) (by simp only [go_sem]) (by simp only [go_sem]) (by simp only [go_sem] <;> rfl) (fun h => absurd h (by simp only [go_sem])) rfl ?_
   simp only [go_sem]
   have h6 : letterN d p = d.length := by
    rcases hsr with ⟨h5, _⟩ | ⟨_, h6⟩
    ·exact absurd h5 hlt
    ·exact h6
   rw [hlow, h6]; simp
theorem letterN_get {d : List ByteArray} {p : ByteArray} (h : letterN d p < d.length) : d.getD (letterN d p) ⟨#[]⟩ = p := by
 have := List.findIdx_getElem (w := h)
 simp only [decide_eq_true_eq] at this
 rw [List.getD_eq_getElem?_getD, List.getElem?_eq_getElem h]
 exact this
theorem low_letter {d : List ByteArray} {p : ByteArray} (hd : RisB d) (h : letterN d p < d.length) : lowB d p = letterN d p := by
 have e := letterN_get h
 refine low_eq (by omega) (fun k hk => ?_) (fun _ => ?_)
 ·have := ris_get hd hk h
  rwa [e] at this
 ·rw [e]; exact ltB_irr p
abbrev pE (e : Int × Int) : PV := .agg [pI e.1, pI e.2]
abbrev pWs (l : List (Int × Int)) : PV := .lst (l.map pE)
abbrev ints (l : List Int) : PV := .lst (l.map fun n => pI n)
abbrev pNs (l : List Nat) : PV := ints (toI l)
abbrev pNf (n : NF) : PV := .agg [ss n.signs, .lst (n.ways.map pWs), .lst (n.done.map pNs), pNs n.beg]
theorem fn57 (sg : List ByteArray) (a b c : PV) (p : ByteArray) (hd : RisB sg) (hl : sg.length ≤ 1000) : Fn Tryz.prog 57 [.agg [ss sg, a, b, c], pS p] (.pv (pI (letterN sg p))) [] := by
 refine Run57 [] (by simp) ?_
 simp only [go_sem, M57]
 refine runR_callf (by simp only [go_sem]) (by simp only [go_sem] <;> rfl) (fn86 sg p hd hl) ⟨rfl, trivial⟩ trivial ?_
 simp only [go_sem]
 have hle := letterN_le sg p
 exact ⟨fun h => by rw [low_letter hd h], fun h => by omega⟩
end Go.Vc

namespace Go.Vc
open Go.Proofs
set_option linter.unusedSimpArgs false
set_option linter.unusedVariables false
theorem wf_pE (l : List (Int × Int)) : WfL 2 (l.map pE) := wf_map (f := pE) (s := 2) (fun a => ⟨rfl, fun c hc => by
 simp only [PV.cells, List.mem_cons, List.not_mem_nil, or_false] at hc
 rcases hc with rfl | rfl <;> rfl⟩) l
theorem wf_ints (l : List Int) : WfL 1 (l.map fun n => pI n) := wf_map (f := fun n : Int => pI n) (s := 1) (fun a => ⟨rfl, fun c hc => by
 simp only [PV.cells, List.mem_cons, List.not_mem_nil, or_false] at hc
 subst hc; rfl⟩) l
theorem wf_pWs (l : List (List (Int × Int))) : WfL 1 (l.map pWs) := wf_map (f := pWs) (s := 1) (fun a => ⟨rfl, fun c hc => by
 simp only [PV.cells, List.mem_cons, List.not_mem_nil, or_false] at hc
 subst hc; rfl⟩) l
theorem wf_pNs (l : List (List Nat)) : WfL 1 (l.map pNs) := wf_map (f := pNs) (s := 1) (fun a => ⟨rfl, fun c hc => by
 simp only [PV.cells, List.mem_cons, List.not_mem_nil, or_false] at hc
 subst hc; rfl⟩) l
theorem getD_ways {n : NF} {s : Nat} (h : s < n.ways.length) : n.ways.getD s [] = n.ways[s] := by simp [List.getD_eq_getElem?_getD, h]
theorem fn78 (n : NF) (x : Int) (hn : n.size ≤ 1000) : Fn Tryz.prog 78 [pNf n, pI x] (.pv (pWs (waysAt n x))) [] := by
 refine Run78 [] (by simp) ?_
 unfold waysAt NF.size
 by_cases h0 : x < 0
 ·simp only [go_sem, M78, h0]
  rw [if_neg (by omega)]; rfl
 ·by_cases h1 : x < n.ways.length
  ·have h2 : x.toNat < n.ways.length := by omega
   rw [if_pos ⟨by omega, h1⟩, getD_ways h2]
   simp only [go_sem, M78, h0, show ¬ (n.ways.length : Int) ≤ x by omega, getD_map h2, wf_pWs, show 0 ≤ x by omega, h1]
  ·rw [if_neg (by omega)]
   simp only [go_sem, M78, h0, show (n.ways.length : Int) ≤ x by omega]
   rfl
def wayK (sg : List ByteArray) (first : List (Int × Int)) (to s : Nat) : List (Int × Int) := first ++ (List.range s).map fun s : Nat => ((s : Int), (to : Int))
theorem wayK_succ (sg : List ByteArray) (first : List (Int × Int)) (to s : Nat) : wayK sg first to (s + 1) = wayK sg first to s ++ [((s : Int), (to : Int))] := by
 simp [wayK, List.range_succ]
theorem wayK_len (sg : List ByteArray) (first : List (Int × Int)) (to s : Nat) : (wayK sg first to s).length = first.length + s := by simp [wayK]
theorem fn42 (sg : List ByteArray) (W : List PV) (b c : PV) (p : ByteArray) (hd : RisB sg) (hl : sg.length ≤ 1000) (hi : W.length ≤ 1000) :
  Fn Tryz.prog 42 [.agg [ss sg, .lst W, b, c], pS p] (.row 0 0 (wayOf sg W.length p).length) [(2, (wayOf sg W.length p).map pE)] := by
 refine Run42 [true] (by simp) ?_
 generalize hWl : W.length = i at hi
 unfold wayOf
 split
 ·rename_i h
  rw [show ((-1 : Int), ((i + 1 : Nat) : Int)) :: (List.range (sg.length + 1)).map (fun s : Nat => ((s : Int), (i : Int))) = wayK sg [((-1 : Int), ((i + 1 : Nat) : Int))] i (sg.length + 1) from rfl]
  simp only [go_sem, M42, h, hWl]
  refine ⟨⟨by omega, by omega⟩, wf_pE [(-1, (i : Int) + 1)], ⟨by omega, by omega⟩, ?_⟩
  refine run_loop (T := Nat) (fun s => ⟨[(6, .pv (pI i)), (7, .row 2007 0 (1 + s)), (34, .pv (pI ((sg.length : Int) + 1))), (35, .pv (pI s))], [(2007, .sl 2 ((wayK sg [((-1 : Int), ((i + 1 : Nat) : Int))] i s).map pE))]⟩)
   (fun s => s ≤ sg.length + 1) (fun s => sg.length + 1 - s) 0 (by simp [wayK]) (by simp) ?_
  intro s hs
  have tk : ((wayK sg [((-1 : Int), ((i + 1 : Nat) : Int))] i s).map pE).take (1 + s) = (wayK sg [((-1 : Int), ((i + 1 : Nat) : Int))] i s).map pE := List.take_of_length_le (by simp [wayK_len])
  by_cases hlt : s < sg.length + 1
  ·simp only [go_sem, B42_0, R42_0, show (s : Int) < (sg.length : Int) + 1 by omega, tk]
   refine ⟨⟨wf_pE [((s : Int), (i : Int))], by omega, by omega⟩, ⟨by omega, by omega⟩, s + 1, ?_, by omega, by omega⟩
   rw [wayK_succ, List.map_append]; rfl
  ·have : s = sg.length + 1 := by omega
   subst this
   simp only [go_sem, B42_0, R42_0, show ¬ (((sg.length + 1 : Nat) : Int) < (sg.length : Int) + 1) by omega, tk]
   exact ⟨by simp, by rw [wayK_len]; rfl⟩
 ·rename_i h
  split
  ·rename_i h2
   rw [show (List.range (sg.length + 1)).map (fun s : Nat => ((s : Int), ((i + 1 : Nat) : Int))) = wayK sg [] (i + 1) (sg.length + 1) from rfl]
   subst h2
   simp only [go_sem, M42, hWl, show ¬ sAny = (⟨#[42, 42]⟩ : ByteArray) by decide]
   refine ⟨⟨by omega, by omega⟩, ⟨by omega, by omega⟩, ?_⟩
   refine run_loop (T := Nat) (fun s => ⟨[(6, .pv (pI ((i : Int) + 1))), (7, .row 2007 0 s), (34, .pv (pI ((sg.length : Int) + 1))), (35, .pv (pI s))], [(2007, .sl 2 ((wayK sg [] (i + 1) s).map pE))]⟩)
    (fun s => s ≤ sg.length + 1) (fun s => sg.length + 1 - s) 0 (by simp [wayK]) (by simp) ?_
   intro s hs
   have tk : ((wayK sg [] (i + 1) s).map pE).take s = (wayK sg [] (i + 1) s).map pE := List.take_of_length_le (by simp [wayK_len])
   by_cases hlt : s < sg.length + 1
   ·simp only [go_sem, B42_0, R42_0, show (s : Int) < (sg.length : Int) + 1 by omega, tk]
    refine ⟨⟨wf_pE [((s : Int), (i : Int) + 1)], by omega, by omega⟩, ⟨by omega, by omega⟩, s + 1, ?_, by omega, by omega⟩
    rw [wayK_succ, List.map_append]; rfl
   ·have : s = sg.length + 1 := by omega
    subst this
    simp only [go_sem, B42_0, R42_0, show ¬ (((sg.length + 1 : Nat) : Int) < (sg.length : Int) + 1) by omega, tk]
    exact ⟨by simp, by rw [wayK_len]; simp⟩
  ·rename_i h2
   simp only [go_sem, M42, h, h2, hWl]
   refine ⟨⟨by omega, by omega⟩, ?_⟩
   refine runR_callf (by simp only [go_sem]) (by simp only [go_sem] <;> rfl) (fn57 sg (.lst W) b c p hd hl) ⟨rfl, trivial⟩ trivial ?_
   simp only [go_sem]
   refine ⟨⟨fun v hv c hc => ?_, ⟨_, rfl⟩⟩, by simp, rfl⟩
   subst hv
   simp only [List.map_cons, List.map_nil, List.mem_cons, List.not_mem_nil, or_false] at hc
   rcases hc with rfl | rfl <;> rfl
end Go.Vc

namespace Go.Vc
open Go.Proofs
set_option linter.unusedSimpArgs false
set_option linter.unusedVariables false
structure NF.Sm (n : NF) : Prop where
 s : n.signs.length ≤ 1000
 b : n.beg.length ≤ 1000
 w : n.ways.length ≤ 1000
 d : n.done.length ≤ 1000
 ws : ∀ l ∈ n.ways, l.length ≤ 1000
 ds : ∀ l ∈ n.done, l.length ≤ 1000
def meetN (bs : List ByteArray) (t : ByteArray) (i : Nat) : List Nat := (List.range i).filter fun j => meetsB (bs.getD j ⟨#[]⟩) t
theorem meetN_succ (bs : List ByteArray) (t : ByteArray) (i : Nat) : meetN bs t (i + 1) = meetN bs t i ++ (if meetsB (bs.getD i ⟨#[]⟩) t = true then [i] else []) := by
 unfold meetN
 rw [List.range_succ, List.filter_append]
 cases h : meetsB (bs.getD i ⟨#[]⟩) t <;> simp only [List.filter_cons, List.filter_nil, h, if_true, Bool.false_eq_true, if_false]
theorem toI_app (a b : List Nat) : toI (a ++ b) = toI a ++ toI b := by simp [toI]
theorem toI_len (l : List Nat) : (toI l).length = l.length := by simp [toI]
end Go.Vc

namespace Go.Vc
open Go.Proofs
set_option linter.unusedSimpArgs false
set_option linter.unusedVariables false
def I64 (i : Int) : Prop := -9223372036854775808 ≤ i ∧ i ≤ 9223372036854775807
theorem itoa_len {i : Int} (h : I64 i) : (Lib.itoa i).length ≤ 21 := by
 obtain ⟨h1, h2⟩ := h
 unfold Lib.itoa
 split
 ·rw [List.length_cons, Lib.decDigits_length]
  have := nd20 i.natAbs (by omega)
  omega
 ·rw [Lib.decDigits_length]
  have := nd20 i.toNat (by omega)
  omega
theorem txt_cons (i : Int) (l : List Int) : txt (i :: l) = Lib.itoa i ++ [32] ++ txt l := by simp [txt]
theorem txt_len : ∀ {l : List Int}, (∀ i ∈ l, I64 i) → (txt l).length ≤ 22 * l.length
 | [], _ => by simp [txt]
 | i :: l, h => by
  have h1 := txt_len (l := l) fun j hj => h j (List.mem_cons_of_mem _ hj)
  have h2 := itoa_len (h i (by simp))
  rw [txt_cons, List.length_append, List.length_append, List.length_singleton, List.length_cons]
  omega
theorem txt_take {l : List Int} {i : Nat} (h : i < l.length) : txt (l.take (i + 1)) = txt (l.take i) ++ (Lib.itoa l[i] ++ [32]) := by
 rw [List.take_succ_eq_append_getElem h, txt_app]
 simp [txt]
def ysW (bs : List UInt8) (xs : List PV) (l : List Int) : List PV := if l.length = 0 then xs else pOs (bs ++ txt l)
theorem ysW_take {bs : List UInt8} {xs : List PV} {l : List Int} (hx : xs.take bs.length = pOs bs) : (ysW bs xs l).take (bs ++ txt l).length = pOs (bs ++ txt l) := by
 unfold ysW
 split
 ·have : l = [] := List.eq_nil_of_length_eq_zero ‹_›
  subst this; simp [txt, hx]
 ·exact List.take_of_length_le (by simp)
theorem fnS84 (bs : List UInt8) (xs : List PV) (l : List Int) (hx : xs.take bs.length = pOs bs) (hI : ∀ i ∈ l, I64 i) (hl : bs.length + 22 * l.length ≤ 1000000) :
  FnS Tryz.prog 84 [.row 150000 0 bs.length, .pv (ints l)] [(150000, .sl 1 xs)] (.row 150000 0 (bs ++ txt l).length) [(150000, .sl 1 (ysW bs xs l))] := by
 let xsA : Nat → List PV := fun i => if i = 0 then xs else pOs (bs ++ txt (l.take i))
 have hxa : ∀ i, (xsA i).take (bs ++ txt (l.take i)).length = pOs (bs ++ txt (l.take i)) := fun i => by
  by_cases h0 : i = 0
  ·subst h0; simp [xsA, txt, hx]
  ·simp only [xsA, if_neg h0]
   exact List.take_of_length_le (by simp)
 have hfin : ysW bs xs l = xsA l.length := by simp only [ysW, xsA, List.take_length]
 rw [hfin]
 refine RunS84 (by simp) (by simp) ?_
 simp only [go_sem, M84]
 refine run_loopN (T := Nat) [0, 7, 8, 9] [150000] (fun i => ⟨[(0, .row 150000 0 (bs ++ txt (l.take i)).length), (7, .pv (ints l)), (8, .pv (pI l.length)), (9, .pv (pI i))], [(150000, .sl 1 (xsA i))]⟩)
  (fun i => i ≤ l.length) (fun i => l.length - i) 0 ?_ (Nat.zero_le _) ?_
 ·have : xsA 0 = xs := rfl
  simp only [go_sem, this]
  simp [txt]
 intro i hi
 have hxi := hxa i
 by_cases hlt : i < l.length
 ·have hIi := hI l[i] (List.getElem_mem hlt)
  have hn : (bs ++ txt (l.take i)).length ≤ 1000000 := by
   have := txt_len (l := l.take i) fun j hj => hI j (List.mem_of_mem_take hj)
   rw [List.length_take] at this
   rw [List.length_append]; omega
  have hn2 := itoa_len hIi
  have hnx : bs ++ txt (l.take (i + 1)) = bs ++ txt (l.take i) ++ Lib.itoa l[i] ++ [32] := by rw [txt_take hlt]; simp
  have hx1 : xsA (i + 1) = pOs (bs ++ txt (l.take i) ++ Lib.itoa l[i] ++ [32]) := by simp only [xsA, Nat.add_eq_zero_iff, Nat.succ_ne_self, and_false, if_false, hnx]
  generalize bs ++ txt (l.take i) = b at hxi hn hnx hx1
  generalize xsA i = xi at hxi
  have hS := fnS107 b xi l[i] hxi hIi.1 hIi.2 (by omega)
  simp only [go_sem, B84_0, show (i : Int) < (l.length : Int) by omega, wf_ints, getD_map hlt]
  refine runR_calls (fun n => n) (by simp only [go_sem]) (by simp only [go_sem] <;> rfl) hS rfl (by intro e he; simp only [List.mem_cons, List.not_mem_nil, or_false] at he; rcases he with rfl <;> simp only [go_sem]) (by simp) (by simp) (by simp) (by intro e he _; simp only [List.mem_cons, List.not_mem_nil, or_false] at he; rcases he with rfl <;> simp) ?_
  have hl2 : (pOs (b ++ Lib.itoa l[i])).take (b.length + (Lib.itoa l[i]).length) = pOs (b ++ Lib.itoa l[i]) := List.take_of_length_le (by simp)
  simp only [go_sem, hl2]
  refine ⟨⟨wf_pO [32], by omega, by omega⟩, ⟨by omega, by omega⟩, i + 1, ?_, hlt, by omega⟩
  have e1 : (b ++ Lib.itoa l[i] ++ [32]).length = b.length + (Lib.itoa l[i]).length + 1 := by simp only [List.length_append, List.length_singleton]
  have e2 : pOs (b ++ Lib.itoa l[i] ++ [32]) = pOs (b ++ Lib.itoa l[i]) ++ [PV.sc (Value.int IntKind.u8 32)] := by simp only [pOs, List.map_append, List.map_cons, List.map_nil]; rfl
  rw [hnx, hx1, e1, e2]
  rfl
 ·obtain rfl : i = l.length := by omega
  simp only [go_sem, B84_0, R84_0, show ¬ (l.length : Int) < (l.length : Int) by omega, List.take_length]
theorem intsOf_pO : ∀ l : List UInt8, intsOf (pOs l) = some (l.map fun b => (b.toNat : Int))
 | [] => rfl
 | b :: l => by simp only [pOs, List.map_cons, intsOf] at *; rw [show List.map pO l = pOs l from rfl, intsOf_pO l]
theorem strOf_list (l : List UInt8) : strOf (l.map fun b => (b.toNat : Int)) = mkB l := by
 have h : ∀ (l : List UInt8) (r : ByteArray), (l.map fun b => (b.toNat : Int)).foldl (fun r n => r.push (UInt8.ofNat n.toNat)) r = ⟨r.data ++ l.toArray⟩ := fun l => by
  induction l with
  | nil => intro r; simp
  | cons b l ih =>
   intro r
   rw [List.map_cons, List.foldl_cons, ih]
   congr 1
   simp [ByteArray.push]
 unfold strOf
 rw [h]
 simp only [ByteArray.empty, ByteArray.emptyWithCapacity]
 congr 1
 simp
 rfl
theorem wf_intss (l : List (List Int)) : WfL 1 (l.map ints) := wf_map (f := ints) (s := 1) (fun a => ⟨rfl, fun c hc => by
 simp only [PV.cells, List.mem_cons, List.not_mem_nil, or_false] at hc
 subst hc; rfl⟩) l
abbrev dBox (d : DI) : List AV := [.pv (ss d.signs), .pv (.lst (d.next.map ints)), .pv (.lst (d.done.map ints))]
structure DI.Ints (d : DI) : Prop where
 len : ∀ i, (d.done.getD i []).length ≤ 1000
 val : ∀ i, ∀ n ∈ d.done.getD i [], I64 n
theorem fnS83 (d : DI) (i n : Nat) (xs : List PV) (hd : d.Ints) (hi : i < d.done.length) :
  FnS Tryz.prog 83 [.pv (pI i), .ptr 200000 0, .ptr 200001 0] [(200000, .box [.row 150000 0 n]), (150000, .sl 1 xs), (200001, .box (dBox d))] (.pv (pS (bT (d.done.getD i []))))
   [(200000, .box [.row 150000 0 (txt (d.done.getD i [])).length]), (150000, .sl 1 (ysW [] xs (d.done.getD i []))), (200001, .box (dBox d))] := by
 have hS := fnS84 [] xs (d.done.getD i []) (by simp) (hd.val i) (by have := hd.len i; simp only [List.length_nil]; omega)
 have hy := ysW_take (bs := []) (xs := xs) (l := d.done.getD i []) (by simp)
 have hge : d.done[i] = d.done.getD i [] := by simp [List.getD_eq_getElem?_getD, hi]
 refine RunS83 (by simp) (by simp) ?_
 simp only [go_sem, M83, getD_map hi, hge]
 refine ⟨⟨by omega, wf_intss _⟩, ?_⟩
 refine runR_calls (fun n => n) (by simp only [go_sem]) (by simp only [go_sem] <;> rfl) hS rfl (by intro e he; simp only [List.mem_cons, List.not_mem_nil, or_false] at he; rcases he with rfl <;> simp only [go_sem]) (by simp) (by simp) (by simp) (by intro e he _; simp only [List.mem_cons, List.not_mem_nil, or_false] at he; rcases he with rfl <;> simp) ?_
 simp only [List.nil_append] at hy
 simp only [go_sem, hy, intsOf_pO, strOf_list]
 exact ⟨_, rfl⟩
abbrev clRows (n : Nat) (xs : List PV) (cl : List Nat) (d : DI) (lv : List Bool) : List (Nat × Row) :=
 [(200000, .box [.row 150000 0 n]), (150000, .sl 1 xs), (200001, .box [.pv (pNs cl)]), (200002, .box (dBox d)), (200003, .box [.pv (.lst (lv.map fun b => pB b))])]
structure DI.Ok (d : DI) : Prop where
 n0 : 0 < d.next.length
 n : d.next.length ≤ 1000
 done : d.done.length = d.next.length
 signs : d.signs.length ≤ 1000
 width : ∀ i, (d.next.getD i []).length ≤ 1000
 rows : d.Rows
 ints : d.Ints
theorem wf_bls (l : List Bool) : WfL 1 (l.map fun b => pB b) := wf_map (f := fun b : Bool => pB b) (s := 1) (fun a => ⟨rfl, fun c hc => by
 simp only [PV.cells, List.mem_cons, List.not_mem_nil, or_false] at hc
 subst hc; rfl⟩) l
theorem way_I64 {lv : List Bool} {cl : List Nat} (hc : ∀ c ∈ cl, c ≤ 1000) (t : Int) : I64 (wayC lv cl t) := by
 unfold wayC I64
 split
 ·omega
 ·have : cl.getD t.toNat 0 ≤ 1000 := by
   rw [List.getD_eq_getElem?_getD]
   cases h : cl[t.toNat]? with
   | none => simp
   | some c => exact hc c (List.mem_of_getElem? h)
  omega
theorem fnS85 (d : DI) (i n : Nat) (xs : List PV) (cl : List Nat) (lv : List Bool) (hd : d.Ok) (hi : i < d.next.length) (hcl : cl.length = d.next.length) (hlv : lv.length = d.next.length) (hc : ∀ c ∈ cl, c ≤ 1000) :
  FnS Tryz.prog 85 [.pv (pI i), .ptr 200000 0, .ptr 200001 0, .ptr 200002 0, .ptr 200003 0] (clRows n xs cl d lv) (.pv (pS (bT (keyC d lv cl i)))) (clRows (txt (keyC d lv cl i)).length (pOs (txt (keyC d lv cl i))) cl d lv) := by
 have hci : (cl.getD i 0 : Nat) ≤ 1000 := by
  rw [List.getD_eq_getElem?_getD, List.getElem?_eq_getElem (by omega)]; exact hc _ (List.getElem_mem _)
 have hS := fnS84 [] xs [(cl.getD i 0 : Int)] (by simp) (by intro j hj; simp only [List.mem_singleton] at hj; subst hj; unfold I64; omega) (by simp only [List.length_nil, List.length_singleton]; omega)
 rw [show ysW [] xs [(cl.getD i 0 : Int)] = pOs (txt [(cl.getD i 0 : Int)]) from rfl, List.nil_append, List.length_nil] at hS
 obtain ⟨row, hrow⟩ : ∃ row, row = d.next.getD i [] := ⟨_, rfl⟩
 have hnx : d.next[i] = row := by rw [hrow]; simp [List.getD_eq_getElem?_getD, hi]
 have hrl : row.length ≤ 1000 := by rw [hrow]; exact hd.width i
 have hrr : ∀ t ∈ row, -1 ≤ t ∧ t < (d.next.length : Int) := by rw [hrow]; exact hd.rows i
 have hlen : (toI cl).length = d.next.length := by simp [toI, hcl]
 have hcg : ∀ k (h : k < cl.length), (toI cl)[k]'(by simpa [toI] using h) = (cl.getD k 0 : Int) := fun k h => by simp [toI, List.getD_eq_getElem?_getD, h]
 have hkey : keyC d lv cl i = (cl.getD i 0 : Int) :: row.map (wayC lv cl) := by unfold keyC; rw [hrow]
 let pre : Nat → List Int := fun j => (cl.getD i 0 : Int) :: (row.take j).map (wayC lv cl)
 have hpre : pre row.length = keyC d lv cl i := by simp only [pre, List.take_length, hkey]
 rw [← hpre]
 refine RunS85 (by simp) (by simp) ?_
 simp only [go_sem, M85, getD_map (show i < (toI cl).length by omega), getD_map hi, hnx, hcg i (by omega), hlen, wf_intss, wf_ints]
 refine ⟨by omega, ?_⟩
 refine runR_calls (fun n => n) (by simp only [go_sem]) (by simp only [go_sem] <;> rfl) hS rfl (by intro e he; simp only [List.mem_cons, List.not_mem_nil, or_false] at he; rcases he with rfl <;> simp only [go_sem]) (by simp) (by simp) (by simp) (by intro e he _; simp only [List.mem_cons, List.not_mem_nil, or_false] at he; rcases he with rfl <;> simp) ?_
 simp only [go_sem, getD_map hi, hnx, wf_intss]
 refine ⟨by omega, ?_⟩
 have hpI : ∀ j, ∀ v ∈ pre j, I64 v := fun j v hv => by
  simp only [pre, List.mem_cons, List.mem_map] at hv
  rcases hv with rfl | ⟨t, _, rfl⟩
  ·unfold I64; omega
  ·exact way_I64 hc t
 have hpl : ∀ j, j ≤ row.length → (txt (pre j)).length ≤ 22 * 1001 := fun j hj => by
  have := txt_len (hpI j)
  simp only [pre, List.length_cons, List.length_map, List.length_take] at this ⊢
  omega
 have hps : ∀ j (h : j < row.length), pre (j + 1) = pre j ++ [wayC lv cl row[j]] := fun j h => by
  simp only [pre, List.take_succ_eq_append_getElem h, List.map_append, List.map_cons, List.map_nil, List.cons_append]
 clear hS
 refine run_loopN (T := Nat) [1, 2, 4, 21, 22, 23] [150000, 200000, 200001, 200002, 200003] (fun j => ⟨[(1, .ptr 200000 0), (2, .ptr 200001 0), (4, .ptr 200003 0), (21, .pv (ints row)), (22, .pv (pI row.length)), (23, .pv (pI j))],
  [(150000, .sl 1 (pOs (txt (pre j)))), (200000, .box [.row 150000 0 (txt (pre j)).length]), (200001, .box [.pv (pNs cl)]), (200002, .box (dBox d)), (200003, .box [.pv (.lst (lv.map fun b => pB b))])]⟩)
  (fun j => j ≤ row.length) (fun j => row.length - j) 0 rfl (Nat.zero_le _) ?_
 intro j hj
 have hpj := hpl j hj
 by_cases hlt : j < row.length
 ·obtain ⟨hr1, hr2⟩ := hrr row[j] (List.getElem_mem hlt)
  have hps1 := hps j hlt
  have hp1 : txt (pre (j + 1)) = txt (pre j) ++ txt [wayC lv cl row[j]] := by rw [hps1, txt_app]
  have step : ∀ v, wayC lv cl row[j] = v → I64 v → FnS Tryz.prog 84 [.row 150000 0 (txt (pre j)).length, .pv (ints [v])] [(150000, .sl 1 (pOs (txt (pre j))))] (.row 150000 0 (txt (pre (j + 1))).length) [(150000, .sl 1 (pOs (txt (pre (j + 1)))))] := fun v hv hI => by
   have := fnS84 (txt (pre j)) (pOs (txt (pre j))) [v] (List.take_of_length_le (by simp)) (by intro k hk; simp only [List.mem_singleton] at hk; subst hk; exact hI) (by simp only [List.length_singleton]; omega)
   rw [show ysW (txt (pre j)) (pOs (txt (pre j))) [v] = pOs (txt (pre j) ++ txt [v]) from rfl, ← hv, ← hp1] at this
   rw [← hv]; exact this
  have hwI := way_I64 (lv := lv) hc row[j]
  clear hp1 hps1
  by_cases hm : row[j] = -1
  ·have hw : wayC lv cl row[j] = -1 := by simp [wayC, dead, hm]
   have hS := step (-1) hw (by unfold I64; omega)
   simp only [go_sem, B85_0, show (j : Int) < (row.length : Int) by omega, wf_ints, getD_map hlt, hm]
   refine runR_calls (fun n => n) (by simp only [go_sem]) (by simp only [go_sem] <;> rfl) hS rfl (by intro e he; simp only [List.mem_cons, List.not_mem_nil, or_false] at he; rcases he with rfl <;> simp only [go_sem]) (by simp) (by simp) (by simp) (by intro e he _; simp only [List.mem_cons, List.not_mem_nil, or_false] at he; rcases he with rfl <;> simp) ?_
   simp only [go_sem]
   exact ⟨⟨by omega, by omega⟩, j + 1, rfl, hlt, by omega⟩
  ·have htl : row[j].toNat < lv.length := by omega
   have hlvg : lv.getD row[j].toNat false = lv[row[j].toNat] := by simp [List.getD_eq_getElem?_getD, htl]
   cases hb : lv[row[j].toNat] with
   | false =>
    have hw : wayC lv cl row[j] = -1 := by unfold wayC dead; rw [hlvg, hb]; simp
    have hS := step (-1) hw (by unfold I64; omega)
    simp only [go_sem, B85_0, show (j : Int) < (row.length : Int) by omega, wf_ints, getD_map hlt, hm, getD_map htl, hb, wf_bls]
    refine ⟨⟨by omega, by omega⟩, ?_⟩
    refine runR_calls (fun n => n) (by simp only [go_sem]) (by simp only [go_sem] <;> rfl) hS rfl (by intro e he; simp only [List.mem_cons, List.not_mem_nil, or_false] at he; rcases he with rfl <;> simp only [go_sem]) (by simp) (by simp) (by simp) (by intro e he _; simp only [List.mem_cons, List.not_mem_nil, or_false] at he; rcases he with rfl <;> simp) ?_
    simp only [go_sem]
    exact ⟨⟨by omega, by omega⟩, j + 1, rfl, hlt, by omega⟩
   | true =>
    have hw : wayC lv cl row[j] = (cl.getD row[j].toNat 0 : Int) := by unfold wayC dead; rw [hlvg, hb]; simp [hm]
    have hS := step _ hw (by rw [← hw]; exact hwI)
    simp only [go_sem, B85_0, show (j : Int) < (row.length : Int) by omega, wf_ints, getD_map hlt, hm, getD_map htl, hb, wf_bls, getD_map (show row[j].toNat < (toI cl).length by omega), hcg row[j].toNat (by omega)]
    refine ⟨⟨by omega, by omega⟩, ⟨by omega, by omega⟩, ?_⟩
    refine runR_calls (fun n => n) (by simp only [go_sem]) (by simp only [go_sem] <;> rfl) hS rfl (by intro e he; simp only [List.mem_cons, List.not_mem_nil, or_false] at he; rcases he with rfl <;> simp only [go_sem]) (by simp) (by simp) (by simp) (by intro e he _; simp only [List.mem_cons, List.not_mem_nil, or_false] at he; rcases he with rfl <;> simp) ?_
    simp only [go_sem]
    exact ⟨⟨by omega, by omega⟩, j + 1, rfl, hlt, by omega⟩
 ·obtain rfl : j = row.length := by omega
  have htk : (pOs (txt (pre row.length))).take (txt (pre row.length)).length = pOs (txt (pre row.length)) := List.take_of_length_le (by simp)
  simp only [go_sem, B85_0, R85_0, show ¬ (row.length : Int) < (row.length : Int) by omega, htk, intsOf_pO, strOf_list]
  exact ⟨_, rfl⟩
end Go.Vc

namespace Go.Vc
open Go.Proofs
set_option maxRecDepth 100000
def B82_0 : MC := (.seq (.reg [qi 17 (.bin .lss (.t 16) (.t 15))] [] [1,6,7,15,16,17] [12,14,1021,150000,200000,200001,200002,200003]) (.seq (.cond (.t 17) .skip (.exit 0)) (.seq (.block 1 (.seq (.reg [mi 18 16,mi 8 18] [] [1,6,7,8,15,16] [12,14,1021,150000,200000,200001,200002,200003]) (.seq (.reg [mi 19 1,mi 20 8,⟨some 21,none,.calls (.t 19) [.t 20]⟩,mi 9 21] [] [1,6,7,8,9,15,16] [12,14,1021,150000,200000,200001,200002,200003]) (.seq (.reg [mi 23 6,mi 24 9,qi 25 (.mget (.t 23) (.t 24) true Kk.str (.pv (.sc (.int .i64 0)))),mi 22 25,qi 26 (.ext (.t 22) 0),qi 27 (.ext (.t 22) 1),mi 10 26,mi 11 27] [] [1,6,7,8,9,10,11,15,16] [12,14,1021,150000,200000,200001,200002,200003]) (.seq (.seq (.reg [mi 28 11,qi 29 (.not (.t 28))] [] [1,6,7,8,9,10,15,16,29] [12,14,1021,150000,200000,200001,200002,200003]) (.cond (.t 29) (.seq (.reg [mi 30 6,qi 31 (.mlen (.t 30)),mi 10 31] [] [1,6,7,8,9,10,15,16] [12,14,1021,150000,200000,200001,200002,200003]) (.reg [mi 32 6,mi 33 9,mi 34 10,⟨none,none,.mset (.t 32) (.t 33) (.t 34) Kk.str⟩] [] [1,6,7,8,10,15,16] [12,14,1021,150000,200000,200001,200002,200003])) .skip)) (.reg [mi 35 7,mi 36 8,mi 37 10,qi 38 (.ia (.t 35) (.t 36) 1),⟨none,none,.st (.t 38) (.t 37) 1⟩] [] [1,6,7,15,16] [12,14,1021,150000,200000,200001,200002,200003])))))) (.reg [qi 39 (.bin .add (.t 16) (ic 1)),mi 16 39] [] [1,6,7,15,16] [12,14,1021,150000,200000,200001,200002,200003]))))
def R82_0 : MC := (.seq (.reg [mi 40 7,mi 41 6,qi 42 (.mlen (.t 41)),mi 4 40,mi 5 42] [] [4,5] [12,14,1021,150000,200000,200001,200002,200003]) .ret)
def M82 : MC := (.seq (.reg [qi 4 (.mv .nil),qi 5 (.mv (ic 0))] [] [0,1] [150000,200000,200001,200002,200003]) (.seq (.reg [⟨some 12,none,.mkm⟩,mi 6 12] [] [0,1,6] [12,150000,200000,200001,200002,200003]) (.seq (.reg [mi 13 0,⟨some 14,none,.mks (.t 13) (.t 13) 1 8 (.sc (.int .i64 0))⟩,mi 7 14] [] [0,1,6,7] [12,14,1021,150000,200000,200001,200002,200003]) (.seq (.seq (.reg [mi 15 0,qi 16 (.mv (ic 0))] [] [1,6,7,15,16] [12,14,1021,150000,200000,200001,200002,200003]) (.block 0 (.loop B82_0))) R82_0))))
theorem mc82 : ofCode Tryz.prog [21] Tryz.f82.ntmps [(0, ⟨[0, 1], [150000, 200000, 200001, 200002, 200003], [], 0, [], none⟩),
  (1, ⟨[0, 1, 6], [12, 150000, 200000, 200001, 200002, 200003], [], 0, [], none⟩),
  (2, ⟨[0, 1, 6, 7], [12, 14, 1021, 150000, 200000, 200001, 200002, 200003], [], 0, [], none⟩),
  (3, ⟨[1, 6, 7, 15, 16], [12, 14, 1021, 150000, 200000, 200001, 200002, 200003], [], 0, [], none⟩),
  (4, ⟨[1, 6, 7, 15, 16, 17], [12, 14, 1021, 150000, 200000, 200001, 200002, 200003], [], 0, [], none⟩),
  (5, ⟨[1, 6, 7, 8, 15, 16], [12, 14, 1021, 150000, 200000, 200001, 200002, 200003], [], 0, [], none⟩),
  (6, ⟨[1, 6, 7, 8, 9, 15, 16], [12, 14, 1021, 150000, 200000, 200001, 200002, 200003], [], 0, [], none⟩),
  (7, ⟨[1, 6, 7, 8, 9, 10, 11, 15, 16], [12, 14, 1021, 150000, 200000, 200001, 200002, 200003], [], 0, [], none⟩),
  (8, ⟨[1, 6, 7, 8, 9, 10, 15, 16, 29], [12, 14, 1021, 150000, 200000, 200001, 200002, 200003], [], 0, [], none⟩),
  (9, ⟨[1, 6, 7, 8, 9, 10, 15, 16], [12, 14, 1021, 150000, 200000, 200001, 200002, 200003], [], 0, [], none⟩),
  (10, ⟨[1, 6, 7, 8, 10, 15, 16], [12, 14, 1021, 150000, 200000, 200001, 200002, 200003], [], 0, [], none⟩),
  (11, ⟨[1, 6, 7, 15, 16], [12, 14, 1021, 150000, 200000, 200001, 200002, 200003], [], 0, [], none⟩),
  (12, ⟨[1, 6, 7, 15, 16], [12, 14, 1021, 150000, 200000, 200001, 200002, 200003], [], 0, [], none⟩),
  (13, ⟨[4, 5], [12, 14, 1021, 150000, 200000, 200001, 200002, 200003], [], 0, [], none⟩)] (Tryz.f82.body.getD .skip) = some M82 := by kernel_rfl
theorem RunS82 {args : List AV} {st st' : List (Nat × Row)} {v : AV} (h : args.length ≤ 43) (hk : (st'.map (·.1)).Nodup) (hv : run Tryz.prog (retS [RV.tmp 4, RV.tmp 5] v st') M82 [] ⟨entryA 0 args, st⟩) : FnS Tryz.prog 82 args st v st' :=
 FnS_run (by kernel_rfl) Tryz.func82 (by decide) rfl mc82 (by kernel_rfl) (by rw [Tryz.ntmps82]; exact h) (by rw [Tryz.ntmps82]; decide) hk hv
end Go.Vc

namespace Go.Vc
open Go.Proofs
set_option linter.unusedSimpArgs false
set_option linter.unusedVariables false
def enK : Nat → List (List Int) → List (PV × PV)
 | _, [] => []
 | k, t :: L => (pS (bT t), pI (k : Int)) :: enK (k + 1) L
theorem enK_app : ∀ (L : List (List Int)) (k : Nat) (t : List Int), enK k (L ++ [t]) = enK k L ++ [(pS (bT t), pI ((k + L.length : Nat) : Int))]
 | [], k, t => rfl
 | u :: L, k, t => by simp [enK, enK_app L (k + 1) t]; omega
theorem bT_dec (t u : List Int) : decide (bT t = bT u) = decide (t = u) := by
 by_cases h : t = u
 ·subst h; simp
 ·rw [decide_eq_false h, decide_eq_false fun e => h (bT_inj e)]
theorem enK_len : ∀ (L : List (List Int)) (k : Nat), (enK k L).length = L.length
 | [], _ => rfl
 | t :: L, k => by simp [enK, enK_len L]
theorem lkp_T (t : List Int) : ∀ {L : List (List Int)} (k : Nat), lkp (pS (bT t)) (enK k L) = if t ∈ L then some (pI ((k + ixOf L t : Nat) : Int)) else none
 | [], k => by simp [enK, lkp]
 | u :: L, k => by
  have ih := lkp_T t (L := L) (k + 1)
  simp only [enK, lkp, keyEq, bT_dec]
  by_cases he : t = u
  ·subst he; simp [ixOf_cons]
  ·rw [decide_eq_false he]
   simp only [Bool.false_eq_true, if_false, ih, List.mem_cons, he, false_or]
   split
   ·rw [ixOf_cons, if_neg (Ne.symm he)]
    congr 3; omega
   ·rfl
theorem mput_T {t : List Int} {v : PV} : ∀ {L : List (List Int)} (k : Nat), t ∉ L → mput (pS (bT t)) v (enK k L) = enK k L ++ [(pS (bT t), v)]
 | [], k, _ => rfl
 | u :: L, k, hn => by
  have he : t ≠ u := fun e => hn (by simp [e])
  simp only [enK, mput, keyEq, bT_dec, decide_eq_false he, Bool.false_eq_true, if_false, List.cons_append, List.cons.injEq, true_and]
  exact mput_T (k + 1) fun hm => hn (List.mem_cons_of_mem _ hm)
theorem like_T (b : ByteArray) : ∀ (L : List (List Int)) (k : Nat), keysLike .str (pS b) (enK k L)
 | [], _ => trivial
 | u :: L, k => by
  simp only [enK, keysLike, keyLike]
  exact ⟨trivial, like_T b L (k + 1)⟩
abbrev clN (ks : List (List Int)) (i : Nat) : List PV := tb ks.length fun k => if k < i then pI (ixOf (ddF ks) (ks.getD k []) : Nat) else pI 0
theorem clN_zero (ks : List (List Int)) : clN ks 0 = List.replicate ks.length (pI 0) := by
 rw [tb_rep]
 exact tb_ext fun i _ => by simp
theorem clN_end (ks : List (List Int)) : clN ks ks.length = (toI (clsOf ks)).map fun n => pI n := by
 refine List.ext_getElem (by simp [tb, toI, clsOf]) fun j h1 h2 => ?_
 have hj : j < ks.length := by simpa [tb] using h1
 simp [tb, toI, clsOf, hj, List.getD_eq_getElem?_getD]
theorem clN_set {ks : List (List Int)} {i : Nat} (h : i < ks.length) : (clN ks i).set i (pI (ixOf (ddF ks) ks[i] : Nat)) = clN ks (i + 1) := by
 rw [tb_set h]
 refine tb_ext fun j hj => ?_
 by_cases h1 : j = i
 ·subst h1; rw [if_pos rfl, if_pos (by omega)]; simp [List.getD_eq_getElem?_getD, h]
 ·rw [if_neg h1]
  by_cases h2 : j < i
  ·rw [if_pos h2, if_pos (by omega)]
  ·rw [if_neg h2, if_neg (by omega)]
theorem clN_at {ks : List (List Int)} {i : Nat} (h : i < ks.length) : (clN ks i).getD i default = pI 0 := by rw [tb_get h, if_neg (by omega)]
def bufA (ks : List (List Int)) : Nat → Nat × List PV
 | 0 => (0, [])
 | i + 1 => ((txt (ks.getD i [])).length, ysW [] (bufA ks i).2 (ks.getD i []))
theorem fnS82a (d : DI) (hd : d.Ok) : FnS Tryz.prog 82 [.pv (pI d.next.length), .fn 83 [.ptr 200000 0, .ptr 200001 0]] [(200000, .box [.e0]), (200001, .box (dBox d))] (.pv (.tup [pNs (clsOf (keys0 d)), pI (ddF (keys0 d)).length]))
  [(200000, .box [.row 150000 0 (bufA (keys0 d) d.next.length).1]), (150000, .sl 1 (bufA (keys0 d) d.next.length).2), (200001, .box (dBox d))] := by
 have hn := hd.n
 have hkl : (keys0 d).length = d.next.length := by simp [keys0]
 have hkg : ∀ i, i < d.next.length → (keys0 d).getD i [] = d.done.getD i [] := fun i hi => by simp [keys0, List.getD_eq_getElem?_getD, hi]
 generalize hks : keys0 d = ks at hkl hkg
 refine RunS82 (by simp) (by simp) ?_
 rw [← hkl]
 simp only [go_sem, M82]
 refine ⟨by omega, ?_⟩
 refine run_loopF (T := Nat) (fun _ => []) (fun _ => [(200000, 0, 150000, 1)]) [1, 6, 7, 15, 16] [12, 14, 150000, 200000, 200001]
  (fun i => ⟨[(1, .fn 83 [.ptr 200000 0, .ptr 200001 0]), (6, .mp 12), (7, .row 14 0 ks.length), (15, .pv (pI ks.length)), (16, .pv (pI i))],
   [(12, .mp (enK 0 (ddF (ks.take i)))), (14, .sl 1 (clN ks i)), (150000, .sl 1 (bufA ks i).2), (200000, .box [.row 150000 0 (bufA ks i).1]), (200001, .box (dBox d))]⟩)
  (fun i => i ≤ ks.length) (fun i => ks.length - i) 0 ?_ (Nat.zero_le _) ?_
 ·rw [clN_zero]
  simp only [go_sem]
  rfl
 intro i hi
 by_cases hlt : i < ks.length
 ·have hS := fnS83 d i (bufA ks i).1 (bufA ks i).2 hd.ints (by rw [hd.done, ← hkl]; exact hlt)
  have hki : d.done.getD i [] = ks[i] := by rw [← hkg i (by omega)]; simp [List.getD_eq_getElem?_getD, hlt]
  have hb1 : bufA ks (i + 1) = ((txt ks[i]).length, ysW [] (bufA ks i).2 ks[i]) := by simp [bufA, List.getD_eq_getElem?_getD, hlt]
  rw [hki] at hS
  simp only [go_sem, B82_0, show (i : Int) < (ks.length : Int) by omega]
  refine runR_calls (fun n => n) (by simp only [go_sem]) (by simp only [go_sem] <;> rfl) hS rfl (by intro e he; simp only [List.mem_cons, List.not_mem_nil, or_false] at he; rcases he with rfl | rfl | rfl <;> simp only [go_sem]) (by simp) (by simp) (by simp) (by intro e he _; simp only [List.mem_cons, List.not_mem_nil, or_false] at he; rcases he with rfl | rfl | rfl <;> simp_all) ?_
  by_cases hm : ks[i] ∈ ddF (ks.take i)
  ·obtain ⟨h1, h2⟩ := num_in hlt hm
   have hse := clN_set hlt
   rw [h1] at hse
   simp only [go_sem, like_T, lkp_T, hm, tb_len, clN_at hlt]
   refine ⟨by omega, hlt, ⟨by omega, by omega⟩, i + 1, ?_, hlt, by omega⟩
   rw [h2, hb1, ← hse]
   rfl
  ·obtain ⟨h1, h2⟩ := num_out hlt hm
   have hse := clN_set hlt
   rw [h1] at hse
   simp only [go_sem, like_T, lkp_T, hm, mput_T 0 hm, tb_len, enK_len, clN_at hlt]
   refine ⟨by omega, hlt, ⟨by omega, by omega⟩, i + 1, ?_, hlt, by omega⟩
   rw [h2, hb1, ← hse, enK_app, Nat.zero_add]
   rfl
 ·obtain rfl : i = ks.length := by omega
  simp only [go_sem, B82_0, R82_0, show ¬ (ks.length : Int) < (ks.length : Int) by omega, List.take_length, enK_len, clN_end]
  rw [List.take_of_length_le (by simp [toI, clsOf])]
def bufB (n0 : Nat × List PV) (ks : List (List Int)) : Nat → Nat × List PV
 | 0 => n0
 | i + 1 => ((txt (ks.getD i [])).length, pOs (txt (ks.getD i [])))
theorem fnS82b (d : DI) (n0 : Nat × List PV) (cl : List Nat) (lv : List Bool) (hd : d.Ok) (hcl : cl.length = d.next.length) (hlv : lv.length = d.next.length) (hc : ∀ c ∈ cl, c ≤ 1000) :
  FnS Tryz.prog 82 [.pv (pI d.next.length), .fn 85 [.ptr 200000 0, .ptr 200001 0, .ptr 200002 0, .ptr 200003 0]] (clRows n0.1 n0.2 cl d lv) (.pv (.tup [pNs (clsOf (keysC d lv cl)), pI (ddF (keysC d lv cl)).length]))
  (clRows (bufB n0 (keysC d lv cl) d.next.length).1 (bufB n0 (keysC d lv cl) d.next.length).2 cl d lv) := by
 have hn := hd.n
 have hkl : (keysC d lv cl).length = d.next.length := by simp [keysC]
 have hkg : ∀ i, i < d.next.length → (keysC d lv cl).getD i [] = keyC d lv cl i := fun i hi => by simp [keysC, List.getD_eq_getElem?_getD, hi]
 generalize hks : keysC d lv cl = ks at hkl hkg
 refine RunS82 (by simp) (by simp) ?_
 rw [← hkl]
 simp only [go_sem, M82]
 refine ⟨by omega, ?_⟩
 refine run_loopN (T := Nat) [1, 6, 7, 15, 16] [12, 14, 150000, 200000, 200001, 200002, 200003]
  (fun i => ⟨[(1, .fn 85 [.ptr 200000 0, .ptr 200001 0, .ptr 200002 0, .ptr 200003 0]), (6, .mp 12), (7, .row 14 0 ks.length), (15, .pv (pI ks.length)), (16, .pv (pI i))],
   [(12, .mp (enK 0 (ddF (ks.take i)))), (14, .sl 1 (clN ks i)), (150000, .sl 1 (bufB n0 ks i).2), (200000, .box [.row 150000 0 (bufB n0 ks i).1]), (200001, .box [.pv (pNs cl)]), (200002, .box (dBox d)), (200003, .box [.pv (.lst (lv.map fun b => pB b))])]⟩)
  (fun i => i ≤ ks.length) (fun i => ks.length - i) 0 ?_ (Nat.zero_le _) ?_
 ·rw [clN_zero]
  simp only [go_sem]
  rfl
 intro i hi
 by_cases hlt : i < ks.length
 ·have hS := fnS85 d i (bufB n0 ks i).1 (bufB n0 ks i).2 cl lv hd (by rw [← hkl]; exact hlt) hcl hlv hc
  have hki : keyC d lv cl i = ks[i] := by rw [← hkg i (by omega)]; simp [List.getD_eq_getElem?_getD, hlt]
  have hb1 : bufB n0 ks (i + 1) = ((txt ks[i]).length, pOs (txt ks[i])) := by simp [bufB, List.getD_eq_getElem?_getD, hlt]
  rw [hki] at hS
  simp only [go_sem, B82_0, show (i : Int) < (ks.length : Int) by omega]
  refine runR_calls (fun n => n) (by simp only [go_sem]) (by simp only [go_sem] <;> rfl) hS rfl (by intro e he; simp only [List.mem_cons, List.not_mem_nil, or_false] at he; rcases he with rfl | rfl | rfl | rfl | rfl <;> simp only [go_sem]) (by simp) (by simp) (by simp) (by intro e he _; simp only [List.mem_cons, List.not_mem_nil, or_false] at he; rcases he with rfl | rfl | rfl | rfl | rfl <;> simp_all) ?_
  by_cases hm : ks[i] ∈ ddF (ks.take i)
  ·obtain ⟨h1, h2⟩ := num_in hlt hm
   have hse := clN_set hlt
   rw [h1] at hse
   simp only [go_sem, like_T, lkp_T, hm, tb_len, clN_at hlt]
   refine ⟨by omega, hlt, ⟨by omega, by omega⟩, i + 1, ?_, hlt, by omega⟩
   rw [h2, hb1, ← hse]
   rfl
  ·obtain ⟨h1, h2⟩ := num_out hlt hm
   have hse := clN_set hlt
   rw [h1] at hse
   simp only [go_sem, like_T, lkp_T, hm, mput_T 0 hm, tb_len, enK_len, clN_at hlt]
   refine ⟨by omega, hlt, ⟨by omega, by omega⟩, i + 1, ?_, hlt, by omega⟩
   rw [h2, hb1, ← hse, enK_app, Nat.zero_add]
   rfl
 ·obtain rfl : i = ks.length := by omega
  simp only [go_sem, B82_0, R82_0, show ¬ (ks.length : Int) < (ks.length : Int) by omega, List.take_length, enK_len, clN_end]
  rw [List.take_of_length_le (by simp [toI, clsOf])]
end Go.Vc

namespace Go.Vc
open Go.Proofs
set_option maxRecDepth 100000
def B52_0 : MC := (.block 1 (.seq (.reg [mi 21 5,qi 22 (.clo 85 [.t 6,.t 7,.t 2,.t 3]),⟨some 23,none,.calls (.f 82) [.t 21,.t 22]⟩,mi 20 23,qi 24 (.ext (.t 20) 0),qi 25 (.ext (.t 20) 1),mi 9 24,mi 10 25] [] [2,3,5,6,7,8,9,10] [2,3,6,7,1017,1023,140000]) (.seq (.seq (.reg [mi 26 10,mi 27 8,qi 28 (.bin .eql (.t 26) (.t 27))] [] [2,3,5,6,7,9,10,28] [2,3,6,7,1017,1023,140000]) (.cond (.t 28) (.seq (.reg [qi 29 (.ld (.t 7) 1 false),mi 4 29] [] [4] [2,3,6,7,1017,1023,140000]) .ret) .skip)) (.reg [mi 30 9,mi 31 10,⟨none,none,.st (.t 7) (.t 30) 1⟩,mi 8 31] [] [2,3,5,6,7,8] [2,3,6,7,1017,1023,140000]))))
def M52 : MC := (.seq (.reg [⟨some 2,none,.box (.t 0)⟩,⟨some 3,none,.box (.t 1)⟩,qi 4 (.mv .nil)] [] [2,3] [2,3,1017,1023]) (.seq (.reg [qi 11 (.fa (.t 2) 1),qi 12 (.ld (.t 11) 1 false),qi 13 (.len (.t 12) false),mi 5 13] [] [2,3,5] [2,3,1017,1023]) (.seq (.reg [⟨some 6,none,.alloc [.e0]⟩] [] [2,3,5,6] [2,3,6,1017,1023,140000]) (.seq (.reg [mi 15 5,qi 16 (.clo 83 [.t 6,.t 2]),⟨some 17,none,.calls (.f 82) [.t 15,.t 16]⟩,mi 14 17,qi 18 (.ext (.t 14) 0),qi 19 (.ext (.t 14) 1),⟨some 7,none,.alloc [.e0]⟩,⟨none,none,.st (.t 7) (.t 18) 1⟩,mi 8 19] [] [2,3,5,6,7,8] [2,3,6,7,1017,1023,140000]) (.block 0 (.loop B52_0))))))
theorem mc52 : ofCode Tryz.prog [17, 23] Tryz.f52.ntmps [(0, ⟨[2, 3], [2, 3, 1017, 1023], [], 0, [], none⟩),
  (1, ⟨[2, 3, 5], [2, 3, 1017, 1023], [], 0, [], none⟩),
  (2, ⟨[2, 3, 5, 6], [2, 3, 6, 1017, 1023, 140000], [], 0, [], none⟩),
  (3, ⟨[2, 3, 5, 6, 7, 8], [2, 3, 6, 7, 1017, 1023, 140000], [], 0, [], none⟩),
  (4, ⟨[2, 3, 5, 6, 7, 8, 9, 10], [2, 3, 6, 7, 1017, 1023, 140000], [], 0, [], none⟩),
  (5, ⟨[2, 3, 5, 6, 7, 9, 10, 28], [2, 3, 6, 7, 1017, 1023, 140000], [], 0, [], none⟩),
  (6, ⟨[4], [2, 3, 6, 7, 1017, 1023, 140000], [], 0, [], none⟩),
  (7, ⟨[2, 3, 5, 6, 7, 8], [2, 3, 6, 7, 1017, 1023, 140000], [], 0, [], none⟩)] (Tryz.f52.body.getD .skip) = some M52 := by kernel_rfl
theorem Run52 {args : List PV} {v : AV} {rs : List (Nat × List PV)} (ids : List Bool) (h : args.length ≤ 32) (hv : run Tryz.prog (retK [RV.tmp 4] ids v rs) M52 [] ⟨entry 0 args, []⟩) : Fn Tryz.prog 52 args v rs :=
 Fn_run ids (by kernel_rfl) Tryz.func52 (by decide) rfl mc52 (by kernel_rfl) (by rw [Tryz.ntmps52]; exact h) (by rw [Tryz.ntmps52]; decide) hv
end Go.Vc

namespace Go.Vc
open Go.Proofs
set_option linter.unusedSimpArgs false
set_option linter.unusedVariables false
abbrev pDi (d : DI) : PV := .agg (([ss d.signs, .lst (d.next.map ints), .lst (d.done.map ints)]))
abbrev bools (l : List Bool) : PV := .lst (l.map fun b => pB b)
theorem cls_le {K : Type} [DecidableEq K] {ks : List K} {m : Nat} (h : ks.length ≤ m) : ∀ c ∈ clsOf ks, c ≤ m := fun c hc => by
 obtain ⟨k, hk, rfl⟩ := List.mem_map.1 hc
 have h1 := ixOf_lt (L := ddF ks) (k := k) (ddF_mem.2 hk)
 have h2 := ddF_len ks
 omega
abbrev m52a : Nat → Nat := fun n => if n = 200000 then 6 else if n = 200001 then 2 else 140000
abbrev m52b : Nat → Nat := fun n => if n = 200000 then 6 else if n = 200001 then 7 else if n = 200002 then 2 else if n = 200003 then 3 else 140000
structure CInv (d : DI) (lv : List Bool) (f : Nat) (cl : List Nat) (c : Nat) : Prop where
 go : goC d lv f cl c = classR d lv
 len : cl.length = d.next.length
 le : ∀ x ∈ cl, x ≤ 1000
 cc : c ≤ (ddF cl).length
 cn : c ≤ d.next.length
 fu : d.next.length < f + c
theorem fn52 (d : DI) (lv : List Bool) (hd : d.Ok) (hlv : lv.length = d.next.length) : Fn Tryz.prog 52 [pDi d, bools lv] (.pv (pNs (classR d lv))) [] := by
 have hn := hd.n
 have hn0 := hd.n0
 have hk0 : (keys0 d).length = d.next.length := by simp [keys0]
 have hS := fnS82a d hd
 refine Run52 [] (by simp) ?_
 simp only [go_sem, M52]
 refine runR_calls m52a (by simp only [go_sem]) (by simp only [go_sem] <;> rfl) hS (by simp only [go_sem, m52a]) (by intro e he; simp only [List.mem_cons, List.not_mem_nil, or_false] at he; rcases he with rfl | rfl <;> simp only [go_sem, m52a]) (by simp) (by simp [m52a]) (by simp [m52a]) (by intro e he _; simp only [List.mem_cons, List.not_mem_nil, or_false] at he; rcases he with rfl | rfl | rfl <;> simp_all [m52a]) ?_
 simp only [go_sem, m52a]
 have hI0 : CInv d lv (d.next.length + 1) (clsOf (keys0 d)) (ddF (keys0 d)).length := ⟨rfl, by rw [clsOf_len, hk0], cls_le (by omega), ddF_cls _, by have := ddF_len (keys0 d); omega, by omega⟩
 refine run_loopN (T := Nat × List Nat × Nat × Nat × List PV) [2, 3, 5, 6, 7, 8] [2, 3, 6, 7, 140000]
  (fun t => ⟨[(2, .ptr 2 0), (3, .ptr 3 0), (5, .pv (pI d.next.length)), (6, .ptr 6 0), (7, .ptr 7 0), (8, .pv (pI t.2.2.1))],
   [(2, .box (dBox d)), (3, .box [.pv (bools lv)]), (6, .box [.row 140000 0 t.2.2.2.1]), (7, .box [.pv (pNs t.2.1)]), (140000, .sl 1 t.2.2.2.2)]⟩)
  (fun t => CInv d lv t.1 t.2.1 t.2.2.1) (fun t => d.next.length + 1 - t.2.2.1) (d.next.length + 1, clsOf (keys0 d), (ddF (keys0 d)).length, bufA (keys0 d) d.next.length) ?_ hI0 ?_
 ·simp only [go_sem]
 rintro ⟨f, cl, c, n0⟩ hI
 simp only at hI ⊢
 have hkc : (keysC d lv cl).length = d.next.length := by simp [keysC]
 have hS := fnS82b d n0 cl lv hd hI.len hlv hI.le
 simp only [go_sem, B52_0]
 refine runR_calls m52b (by simp only [go_sem]) (by simp only [go_sem] <;> rfl) hS (by simp only [go_sem, m52b]) (by intro e he; simp only [List.mem_cons, List.not_mem_nil, or_false] at he; rcases he with rfl | rfl | rfl | rfl | rfl <;> simp only [go_sem, m52b]) (by simp) (by simp [m52b]) (by simp [m52b]) (by intro e he _; simp only [List.mem_cons, List.not_mem_nil, or_false] at he; rcases he with rfl | rfl | rfl | rfl | rfl <;> simp_all [m52b]) ?_
 have hfin := finer d lv hI.len
 have hdl := ddF_len (keysC d lv cl)
 have hc2 := hI.cc
 have hgo := hI.go
 have hfu := hI.fu
 have hcn := hI.cn
 obtain ⟨g, rfl⟩ : ∃ g, f = g + 1 := ⟨f - 1, by omega⟩
 rw [goC] at hgo
 by_cases he : (ddF (keysC d lv cl)).length = c
 ·rw [if_pos he] at hgo
  simp only [go_sem, m52b, he]
  rw [hgo]
 ·rw [if_neg he] at hgo
  simp only [go_sem, m52b, he, show ¬ (((ddF (keysC d lv cl)).length : Int) = (c : Int)) by omega]
  exact ⟨(g, clsOf (keysC d lv cl), (ddF (keysC d lv cl)).length, bufB n0 (keysC d lv cl) d.next.length), rfl, ⟨hgo, by rw [clsOf_len, hkc], cls_le (by omega), ddF_cls _, by simp only; omega, by simp only; omega⟩, by simp only; omega⟩
end Go.Vc
