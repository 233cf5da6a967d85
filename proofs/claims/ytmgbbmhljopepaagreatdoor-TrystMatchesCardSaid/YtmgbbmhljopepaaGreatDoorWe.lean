/- A part of the proofs of the seat YtmgbbmhljopepaaGreatDoor: the contracts of functions, each proved out of its code. -/
import Derived.Test.YtmgbbmhljopepaaGreatDoorVe
import Derived.Test.YtmgbbmhljopepaaGreatDoorProg
import Derived.Test.YtmgbbmhljopepaaGreatDoorWd
namespace Go.Vc
open Go.Proofs
set_option maxRecDepth 100000
def B54_0 : MC := (.seq (.seq (.reg [mi 4 3,mi 5 0,qi 6 (.len (.t 5) false),qi 7 (.bin .lss (.t 4) (.t 6))] [] [0,3,7] []) (.cond (.t 7) .skip (.exit 0))) (.seq (.block 1 (.seq (.reg [mi 10 0,mi 11 3,qi 12 (.bin .sub (.t 11) (ic 1)),qi 13 (.ia (.t 10) (.t 12) 1),qi 14 (.ld (.t 13) 1 false),mi 15 0,mi 16 3,qi 17 (.ia (.t 15) (.t 16) 1),qi 18 (.ld (.t 17) 1 false),qi 19 (.bin .geq (.t 14) (.t 18))] [] [0,3,19] []) (.cond (.t 19) (.seq (.reg [qi 2 (.mv (.c (.bool false)))] [] [2] []) .ret) .skip))) (.reg [mi 8 3,qi 9 (.bin .add (.t 8) (ic 1)),mi 3 9] [] [0,3] [])))
def R54_0 : MC := (.seq (.reg [qi 2 (.mv (.c (.bool true)))] [] [2] []) .ret)
def M54 : MC := (.seq (.reg [qi 2 (.mv (.c (.bool false)))] [] [0] []) (.seq (.seq (.reg [qi 3 (.mv (ic 1))] [] [0,3] []) (.block 0 (.loop B54_0))) R54_0))
theorem mc54 : ofCode Tryz.prog [] Tryz.f54.ntmps [(0, ⟨[0], [], [], 0, [], none⟩),
  (1, ⟨[0, 3], [], [], 0, [], none⟩),
  (2, ⟨[0, 3, 7], [], [], 0, [], none⟩),
  (3, ⟨[0, 3], [], [], 0, [], none⟩),
  (4, ⟨[0, 3, 19], [], [(0, 537), (1, 542), (2, 540), (3, 536), (4, 528), (5, 928), (6, 960), (7, 896), (8, 768), (9, 512)], 1023, [], none⟩),
  (5, ⟨[2], [], [], 0, [], none⟩),
  (6, ⟨[2], [], [], 0, [], none⟩)] (Tryz.f54.body.getD .skip) = some M54 := by kernel_rfl
theorem Run54 {args : List PV} {v : AV} {rs : List (Nat × List PV)} (ids : List Bool) (h : args.length ≤ 20) (hv : run Tryz.prog (retK [RV.tmp 2] ids v rs) M54 [] ⟨entry 0 args, []⟩) : Fn Tryz.prog 54 args v rs :=
 Fn_run ids (by kernel_rfl) Tryz.func54 (by decide) rfl mc54 (by kernel_rfl) (by rw [Tryz.ntmps54]; exact h) (by rw [Tryz.ntmps54]; decide) hv
def B55_0 : MC := (.seq (.seq (.reg [mi 4 3,mi 5 0,qi 6 (.len (.t 5) false),qi 7 (.bin .lss (.t 4) (.t 6))] [] [0,3,7] []) (.cond (.t 7) .skip (.exit 0))) (.seq (.block 1 (.seq (.reg [mi 10 0,mi 11 3,qi 12 (.bin .sub (.t 11) (ic 1)),qi 13 (.ia (.t 10) (.t 12) 1),qi 14 (.ld (.t 13) 1 false),mi 15 0,mi 16 3,qi 17 (.ia (.t 15) (.t 16) 1),qi 18 (.ld (.t 17) 1 false),qi 19 (.bin .geq (.t 14) (.t 18))] [] [0,3,19] []) (.cond (.t 19) (.seq (.reg [qi 2 (.mv (.c (.bool false)))] [] [2] []) .ret) .skip))) (.reg [mi 8 3,qi 9 (.bin .add (.t 8) (ic 1)),mi 3 9] [] [0,3] [])))
def R55_0 : MC := (.seq (.reg [qi 2 (.mv (.c (.bool true)))] [] [2] []) .ret)
def M55 : MC := (.seq (.reg [qi 2 (.mv (.c (.bool false)))] [] [0] []) (.seq (.seq (.reg [qi 3 (.mv (ic 1))] [] [0,3] []) (.block 0 (.loop B55_0))) R55_0))
theorem mc55 : ofCode Tryz.prog [] Tryz.f55.ntmps [(0, ⟨[0], [], [], 0, [], none⟩),
  (1, ⟨[0, 3], [], [], 0, [], none⟩),
  (2, ⟨[0, 3, 7], [], [], 0, [], none⟩),
  (3, ⟨[0, 3], [], [], 0, [], none⟩),
  (4, ⟨[0, 3, 19], [], [(0, 537), (1, 542), (2, 540), (3, 536), (4, 528), (5, 928), (6, 960), (7, 896), (8, 768), (9, 512)], 1023, [], none⟩),
  (5, ⟨[2], [], [], 0, [], none⟩),
  (6, ⟨[2], [], [], 0, [], none⟩)] (Tryz.f55.body.getD .skip) = some M55 := by kernel_rfl
theorem Run55 {args : List PV} {v : AV} {rs : List (Nat × List PV)} (ids : List Bool) (h : args.length ≤ 20) (hv : run Tryz.prog (retK [RV.tmp 2] ids v rs) M55 [] ⟨entry 0 args, []⟩) : Fn Tryz.prog 55 args v rs :=
 Fn_run ids (by kernel_rfl) Tryz.func55 (by decide) rfl mc55 (by kernel_rfl) (by rw [Tryz.ntmps55]; exact h) (by rw [Tryz.ntmps55]; decide) hv
def B23_1 : MC := (.seq (.reg [qi 45 (.bin .lss (.t 44) (.t 43))] [] [1,3,4,28,29,30,42,43,44,45] [1]) (.seq (.cond (.t 45) .skip (.exit 2)) (.seq (.block 3 (.seq (.reg [qi 46 (.ia (.t 42) (.t 44) 1),qi 47 (.ld (.t 46) 1 false),mi 7 47] [] [1,3,4,7,28,29,30,42,43,44] [1]) (.seq (.reg [mi 48 7,qi 49 (.bin .lss (.t 48) (.c (.int .i64 (-1)))),mi 50 49,gi 51 50 false (.mv (.t 7)),gi 52 50 false (.mv (.t 3)),gi 53 50 false (.bin .geq (.t 51) (.t 52)),qi 54 (.pick (.t 50) (.c (.bool true)) (.t 53))] [] [1,3,4,28,29,30,42,43,44,54] [1]) (.cond (.t 54) (.seq (.reg [qi 2 (.mv (.c (.bool false)))] [] [2] []) .ret) .skip)))) (.reg [qi 55 (.bin .add (.t 44) (ic 1)),mi 44 55] [] [1,3,4,28,29,30,42,43,44] [1]))))
def R23_1 : MC := (.seq (.reg [qi 56 (.fa (.t 1) 2),qi 57 (.ld (.t 56) 1 false),mi 58 4,qi 59 (.ia (.t 57) (.t 58) 1),qi 60 (.ld (.t 59) 1 false),mi 8 60] [] [1,3,8,28,29,30] [1]) (.seq (.reg [mi 61 8,⟨some 62,none,.call (.f 55) [.t 61]⟩,qi 63 (.not (.t 62)),mi 64 63,gi 65 64 false (.mv (.t 8)),gi 66 64 false (.len (.t 65) false),gi 67 64 false (.bin .gtr (.t 66) (ic 0)),gi 68 64 false (.mv (.t 67)),gi 69 68 true (.mv (.t 8)),gi 70 68 true (.ia (.t 69) (ic 0) 1),gi 71 68 true (.ld (.t 70) 1 false),gi 72 68 true (.bin .lss (.t 71) (ic 0)),gi 73 64 false (.pick (.t 68) (.t 72) (.c (.bool false))),qi 74 (.pick (.t 64) (.c (.bool true)) (.t 73))] [] [1,3,28,29,30,74] [1,1062]) (.cond (.t 74) (.seq (.reg [qi 2 (.mv (.c (.bool false)))] [] [2] []) .ret) .skip)))
def B23_0 : MC := (.seq (.reg [qi 31 (.bin .lss (.t 30) (.t 29))] [] [1,3,28,29,30,31] [1]) (.seq (.cond (.t 31) .skip (.exit 0)) (.seq (.block 1 (.seq (.reg [mi 32 30,qi 33 (.ia (.t 28) (.t 30) 1),qi 34 (.ld (.t 33) 1 false),mi 4 32,mi 5 34] [] [1,3,4,5,28,29,30] [1]) (.seq (.seq (.reg [mi 35 5,qi 36 (.len (.t 35) false),qi 37 (.fa (.t 1) 0),qi 38 (.ld (.t 37) 1 false),qi 39 (.len (.t 38) false),qi 40 (.bin .add (.t 39) (ic 1)),qi 41 (.bin .neq (.t 36) (.t 40))] [] [1,3,4,5,28,29,30,41] [1]) (.cond (.t 41) (.seq (.reg [qi 2 (.mv (.c (.bool false)))] [] [2] []) .ret) .skip)) (.seq (.seq (.reg [mi 42 5,qi 43 (.len (.t 42) false),qi 44 (.mv (ic 0))] [] [1,3,4,28,29,30,42,43,44] [1]) (.block 2 (.loop B23_1))) R23_1)))) (.reg [qi 75 (.bin .add (.t 30) (ic 1)),mi 30 75] [] [1,3,28,29,30] [1]))))
def R23_0 : MC := (.seq (.reg [qi 2 (.mv (.c (.bool true)))] [] [2] []) .ret)
def M23 : MC := (.seq (.reg [⟨some 1,none,.box (.t 0)⟩,qi 2 (.mv (.c (.bool false)))] [] [1] [1]) (.seq (.reg [qi 9 (.fa (.t 1) 1),qi 10 (.ld (.t 9) 1 false),qi 11 (.len (.t 10) false),mi 3 11] [] [1,3] [1]) (.seq (.seq (.reg [mi 12 3,qi 13 (.bin .eql (.t 12) (ic 0)),mi 14 13,gi 15 14 false (.fa (.t 1) 2),gi 16 14 false (.ld (.t 15) 1 false),gi 17 14 false (.len (.t 16) false),gi 18 14 false (.mv (.t 3)),gi 19 14 false (.bin .neq (.t 17) (.t 18)),qi 20 (.pick (.t 14) (.c (.bool true)) (.t 19)),mi 21 20,gi 22 21 false (.fa (.t 1) 0),gi 23 21 false (.ld (.t 22) 1 false),⟨some 24,some (21,false),.call (.f 54) [.t 23]⟩,gi 25 21 false (.not (.t 24)),qi 26 (.pick (.t 21) (.c (.bool true)) (.t 25))] [] [1,3,26] [1,1024]) (.cond (.t 26) (.seq (.reg [qi 2 (.mv (.c (.bool false)))] [] [2] []) .ret) .skip)) (.seq (.seq (.reg [qi 27 (.fa (.t 1) 1),qi 28 (.ld (.t 27) 1 false),qi 29 (.len (.t 28) false),qi 30 (.mv (ic 0))] [] [1,3,28,29,30] [1]) (.block 0 (.loop B23_0))) R23_0))))
theorem mc23 : ofCode Tryz.prog [] Tryz.f23.ntmps [(0, ⟨[1], [1], [], 0, [], none⟩),
  (1, ⟨[1, 3], [1], [], 0, [], none⟩),
  (2, ⟨[1, 3, 26], [1, 1024], [], 0, [], none⟩),
  (3, ⟨[2], [], [], 0, [], none⟩),
  (4, ⟨[1, 3, 28, 29, 30], [1], [], 0, [], none⟩),
  (5, ⟨[1, 3, 28, 29, 30, 31], [1], [], 0, [], none⟩),
  (6, ⟨[1, 3, 4, 5, 28, 29, 30], [1], [], 0, [], none⟩),
  (7, ⟨[1, 3, 4, 5, 28, 29, 30, 41], [1], [], 0, [], none⟩),
  (8, ⟨[2], [], [], 0, [], none⟩),
  (9, ⟨[1, 3, 4, 28, 29, 30, 42, 43, 44], [1], [], 0, [], none⟩),
  (10, ⟨[1, 3, 4, 28, 29, 30, 42, 43, 44, 45], [1], [], 0, [], none⟩),
  (11, ⟨[1, 3, 4, 7, 28, 29, 30, 42, 43, 44], [1], [], 0, [], none⟩),
  (12, ⟨[1, 3, 4, 28, 29, 30, 42, 43, 44, 54], [1], [], 0, [], none⟩),
  (13, ⟨[2], [], [], 0, [], none⟩),
  (14, ⟨[1, 3, 4, 28, 29, 30, 42, 43, 44], [1], [], 0, [], none⟩),
  (15, ⟨[1, 3, 8, 28, 29, 30], [1], [], 0, [], none⟩),
  (16, ⟨[1, 3, 28, 29, 30, 74], [1, 1062], [], 0, [], none⟩),
  (17, ⟨[2], [], [], 0, [], none⟩),
  (18, ⟨[1, 3, 28, 29, 30], [1], [], 0, [], none⟩),
  (19, ⟨[2], [], [], 0, [], none⟩)] (Tryz.f23.body.getD .skip) = some M23 := by kernel_rfl
theorem Run23 {args : List PV} {v : AV} {rs : List (Nat × List PV)} (ids : List Bool) (h : args.length ≤ 76) (hv : run Tryz.prog (retK [RV.tmp 2] ids v rs) M23 [] ⟨entry 0 args, []⟩) : Fn Tryz.prog 23 args v rs :=
 Fn_run ids (by kernel_rfl) Tryz.func23 (by decide) rfl mc23 (by kernel_rfl) (by rw [Tryz.ntmps23]; exact h) (by rw [Tryz.ntmps23]; decide) hv
end Go.Vc

namespace Go.Vc
open Go.Proofs
set_option linter.unusedSimpArgs false
set_option linter.unusedVariables false
theorem risI_iff {l : List Int} : risI l = true ↔ ∀ k, k + 1 < l.length → l.getD k 0 < l.getD (k + 1) 0 := by
 unfold risI
 rw [List.all_eq_true]
 constructor
 ·exact fun h k hk => by simpa using h k (List.mem_range.2 (by omega))
 ·exact fun h k hk => by
   have := List.mem_range.1 hk
   simpa using h k (by omega)
theorem risS_iff {l : List ByteArray} : risS l = true ↔ ∀ k, k + 1 < l.length → ltB (l.getD k ⟨#[]⟩) (l.getD (k + 1) ⟨#[]⟩) = true := by
 unfold risS
 rw [List.all_eq_true]
 constructor
 ·exact fun h k hk => h k (List.mem_range.2 (by omega))
 ·exact fun h k hk => by
   have := List.mem_range.1 hk
   exact h k (by omega)
theorem fn55 (l : List Int) (h : l.length ≤ 100000000) : Fn Tryz.prog 55 [ints l] (.pv (pB (risI l))) [] := by
 refine Run55 [] (by simp) ?_
 simp only [go_sem, M55]
 refine run_loopN (T := Nat) [0, 3] [] (fun k => ⟨[(0, .pv (ints l)), (3, .pv (pI (k + 1 : Nat)))], []⟩) (fun k => (k < l.length ∨ k = 0) ∧ ∀ j, j < k → l.getD j 0 < l.getD (j + 1) 0) (fun k => l.length - k) 0 ?_ ⟨.inr rfl, by omega⟩ ?_
 ·simp only [go_sem]
 rintro k ⟨hk, hr⟩
 have e1 : (((k + 1 : Nat) : Int) - 1).toNat = k := by omega
 by_cases hlt : k + 1 < l.length
 ·have g1 : l.getD k 0 = l[k] := by simp [List.getD_eq_getElem?_getD, show k < l.length by omega]
  have g2 : l.getD (k + 1) 0 = l[k + 1] := by simp [List.getD_eq_getElem?_getD, hlt]
  by_cases hlt2 : l[k] < l[k + 1]
  ·simp only [go_sem, B55_0, show ((k + 1 : Nat) : Int) < (l.length : Int) by omega, e1, wf_ints, getD_map hlt, getD_map (show k < l.length by omega), show ¬ l[k + 1] ≤ l[k] by omega]
   refine ⟨⟨by omega, by omega⟩, ⟨by omega, by omega⟩, ⟨by omega, by omega⟩, k + 1, rfl, ⟨.inl hlt, fun j hj => ?_⟩, by omega⟩
   by_cases hjk : j = k
   ·subst hjk; rw [g1, g2]; exact hlt2
   ·exact hr j (by omega)
  ·have hf : risI l = false := by
    rw [← Bool.not_eq_true]
    intro ht
    have := risI_iff.1 ht k hlt
    rw [g1, g2] at this
    exact hlt2 this
   simp only [go_sem, B55_0, show ((k + 1 : Nat) : Int) < (l.length : Int) by omega, e1, wf_ints, getD_map hlt, getD_map (show k < l.length by omega), show l[k + 1] ≤ l[k] by omega, hf]
   exact ⟨⟨by omega, by omega⟩, by omega, by omega⟩
 ·have ht : risI l = true := risI_iff.2 fun j hj => hr j (by omega)
  simp only [go_sem, B55_0, R55_0, show ¬ ((k + 1 : Nat) : Int) < (l.length : Int) by omega, ht]
theorem fn54 (l : List ByteArray) (h : l.length ≤ 100000000) : Fn Tryz.prog 54 [ss l] (.pv (pB (risS l))) [] := by
 refine Run54 [] (by simp) ?_
 simp only [go_sem, M54]
 refine run_loopN (T := Nat) [0, 3] [] (fun k => ⟨[(0, .pv (ss l)), (3, .pv (pI (k + 1 : Nat)))], []⟩) (fun k => (k < l.length ∨ k = 0) ∧ ∀ j, j < k → ltB (l.getD j ⟨#[]⟩) (l.getD (j + 1) ⟨#[]⟩) = true) (fun k => l.length - k) 0 ?_ ⟨.inr rfl, by omega⟩ ?_
 ·simp only [go_sem]
 rintro k ⟨hk, hr⟩
 have e1 : (((k + 1 : Nat) : Int) - 1).toNat = k := by omega
 by_cases hlt : k + 1 < l.length
 ·have g1 : l.getD k ⟨#[]⟩ = l[k] := by simp [List.getD_eq_getElem?_getD, show k < l.length by omega]
  have g2 : l.getD (k + 1) ⟨#[]⟩ = l[k + 1] := by simp [List.getD_eq_getElem?_getD, hlt]
  cases hlt2 : Op.bytesLess l[k].toList l[k + 1].toList with
  | true =>
   simp only [go_sem, B54_0, show ((k + 1 : Nat) : Int) < (l.length : Int) by omega, e1, wf_ss, getD_map hlt, getD_map (show k < l.length by omega), hlt2]
   refine ⟨⟨by omega, by omega⟩, ⟨by omega, by omega⟩, ⟨by omega, by omega⟩, k + 1, rfl, ⟨.inl hlt, fun j hj => ?_⟩, by omega⟩
   by_cases hjk : j = k
   ·subst hjk; rw [g1, g2]; exact hlt2
   ·exact hr j (by omega)
  | false =>
   have hf : risS l = false := by
    rw [← Bool.not_eq_true]
    intro ht
    have := risS_iff.1 ht k hlt
    rw [g1, g2] at this
    unfold ltB at this
    rw [hlt2] at this; cases this
   simp only [go_sem, B54_0, show ((k + 1 : Nat) : Int) < (l.length : Int) by omega, e1, wf_ss, getD_map hlt, getD_map (show k < l.length by omega), hlt2, hf]
   exact ⟨⟨by omega, by omega⟩, by omega, by omega⟩
 ·have ht : risS l = true := risS_iff.2 fun j hj => hr j (by omega)
  simp only [go_sem, B54_0, R54_0, show ¬ ((k + 1 : Nat) : Int) < (l.length : Int) by omega, ht]
structure DI.Sm (d : DI) : Prop where
 signs : d.signs.length ≤ 1000
 next : d.next.length ≤ 1000
 done : d.done.length ≤ 1000
 nexts : ∀ i, (d.next.getD i []).length ≤ 1000
 dones : ∀ i, (d.done.getD i []).length ≤ 1000
theorem may_false {d : DI} {i : Nat} (hi : i < d.next.length) (h : okRow d i = false) : mayB d = false := by
 have : (List.range d.next.length).all (okRow d) = false := by
  rw [List.all_eq_false]
  exact ⟨i, List.mem_range.2 hi, by rw [h]; simp⟩
 unfold mayB
 rw [this]
 simp
theorem fn23 (d : DI) (hd : d.Sm) : Fn Tryz.prog 23 [pDi d] (.pv (pB (mayB d))) [] := by
 have h1 := hd.signs
 have h2 := hd.next
 have h3 := hd.done
 refine Run23 [] (by simp) ?_
 simp only [go_sem, M23]
 by_cases hn : d.next.length = 0
 ·have hm : mayB d = false := by unfold mayB; rw [hn]; rfl
  simp only [go_sem, hn]
  refine runR_callgf (by simp only [go_sem]) (by simp only [go_sem]) (by simp only [go_sem] <;> rfl) (fun _ => fn54 d.signs (by omega)) rfl ?_
  simp only [go_sem, hm]
 by_cases hl : d.done.length = d.next.length
 ·simp only [go_sem, hn, hl, show ¬ ((d.next.length : Nat) : Int) = 0 by omega]
  refine runR_callgf (by simp only [go_sem]) (by simp only [go_sem]) (by simp only [go_sem] <;> rfl) (fun _ => fn54 d.signs (by omega)) rfl ?_
  cases hs : risS d.signs with
  | false =>
   have hm : mayB d = false := by unfold mayB; rw [hs]; simp
   simp only [go_sem, hm]
  | true =>
   simp only [go_sem, hl]
   refine run_loopN (T := Nat) [1, 3, 28, 29, 30] [1] (fun i => ⟨[(1, .ptr 1 0), (3, .pv (pI d.next.length)), (28, .pv (.lst (d.next.map ints))), (29, .pv (pI d.next.length)), (30, .pv (pI i))], [(1, .box (dBox d))]⟩)
    (fun i => i ≤ d.next.length ∧ ∀ j, j < i → okRow d j = true) (fun i => d.next.length - i) 0 rfl ⟨Nat.zero_le _, by omega⟩ ?_
   rintro i ⟨hi, hok⟩
   by_cases hlt : i < d.next.length
   ·obtain ⟨row, hrow⟩ : ∃ row, row = d.next.getD i [] := ⟨_, rfl⟩
    have hnx : d.next[i] = row := by rw [hrow]; simp [List.getD_eq_getElem?_getD, hlt]
    obtain ⟨dn, hdn⟩ : ∃ dn, dn = d.done.getD i [] := ⟨_, rfl⟩
    have hdx : d.done[i] = dn := by rw [hdn]; simp [List.getD_eq_getElem?_getD, show i < d.done.length by omega]
    have hrl : row.length ≤ 1000 := by rw [hrow]; exact hd.nexts i
    have hdl : dn.length ≤ 1000 := by rw [hdn]; exact hd.dones i
    have hokr : okRow d i = (decide (row.length = d.signs.length + 1) && (row.all (fun t => decide (-1 ≤ t ∧ t < (d.next.length : Int))) && (risI dn && (decide (dn.length = 0) || decide (0 ≤ dn.getD 0 0))))) := by
     unfold okRow; rw [← hrow, ← hdn]
    by_cases hw : row.length = d.signs.length + 1
    ·have hdw : decide (((row.length : Nat) : Int) = (d.signs.length : Int) + 1) = true := decide_eq_true (by omega)
     simp only [go_sem, B23_0, show (i : Int) < (d.next.length : Int) by omega, getD_map hlt, hnx, wf_intss, hdw]
     refine ⟨⟨by omega, by omega⟩, ?_⟩
     refine run_loopN (T := Nat) [1, 3, 4, 28, 29, 30, 42, 43, 44] [1] (fun k => ⟨[(1, .ptr 1 0), (3, .pv (pI d.next.length)), (4, .pv (pI i)), (28, .pv (.lst (d.next.map ints))), (29, .pv (pI d.next.length)), (30, .pv (pI i)), (42, .pv (ints row)), (43, .pv (pI row.length)), (44, .pv (pI k))], [(1, .box (dBox d))]⟩)
      (fun k => k ≤ row.length ∧ ∀ t ∈ row.take k, -1 ≤ t ∧ t < (d.next.length : Int)) (fun k => row.length - k) 0 ?_ ⟨Nat.zero_le _, by simp⟩ ?_
     ·simp only [go_sem]
     rintro k ⟨hk, hall⟩
     by_cases hkl : k < row.length
     ·by_cases hlo : row[k] < -1
      ·have hm : mayB d = false := may_false hlt (by
        rw [hokr]
        have : (row.all fun t => decide (-1 ≤ t ∧ t < (d.next.length : Int))) = false := by
         rw [List.all_eq_false]
         exact ⟨row[k], List.getElem_mem hkl, by simp; omega⟩
        rw [this]; simp)
       simp only [go_sem, B23_1, show (k : Int) < (row.length : Int) by omega, getD_map hkl, wf_ints, hlo, hm]
      ·by_cases hhi : (d.next.length : Int) ≤ row[k]
       ·have hm : mayB d = false := may_false hlt (by
         rw [hokr]
         have : (row.all fun t => decide (-1 ≤ t ∧ t < (d.next.length : Int))) = false := by
          rw [List.all_eq_false]
          exact ⟨row[k], List.getElem_mem hkl, by simp; omega⟩
         rw [this]; simp)
        simp only [go_sem, B23_1, show (k : Int) < (row.length : Int) by omega, getD_map hkl, wf_ints, hlo, hhi, hm]
       ·simp only [go_sem, B23_1, show (k : Int) < (row.length : Int) by omega, getD_map hkl, wf_ints, hlo, hhi]
        refine ⟨⟨by omega, by omega⟩, k + 1, rfl, ⟨hkl, fun t ht => ?_⟩, by omega⟩
        rw [List.take_succ_eq_append_getElem hkl] at ht
        rcases List.mem_append.1 ht with ht | ht
        ·exact hall t ht
        ·rw [List.mem_singleton] at ht
         subst ht
         exact ⟨by omega, by omega⟩
     ·have hall2 : (row.all fun t => decide (-1 ≤ t ∧ t < (d.next.length : Int))) = true := by
       rw [List.all_eq_true]
       intro t ht
       have := hall t (by rw [List.take_of_length_le (by omega)]; exact ht)
       simpa using this
      simp only [go_sem, B23_1, R23_1, show ¬ (k : Int) < (row.length : Int) by omega, getD_map (show i < d.done.length by omega), hdx, wf_intss]
      refine ⟨by omega, ?_⟩
      refine runR_call (by simp only [go_sem]) rfl (fn55 dn (by omega)) (.inl rfl) trivial ?_
      cases hr : risI dn with
      | false =>
       have hm : mayB d = false := may_false hlt (by rw [hokr, hr]; simp)
       simp only [go_sem, hm]
      | true =>
       by_cases h0 : dn.length = 0
       ·simp only [go_sem, h0]
        refine ⟨⟨by omega, by omega⟩, i + 1, rfl, ⟨hlt, fun j hj => ?_⟩, by omega⟩
        by_cases hji : j = i
        ·subst hji; rw [hokr, hw, hall2, hr, h0]; simp
        ·exact hok j (by omega)
       ·have g0 : dn.getD 0 0 = dn[0] := by simp [List.getD_eq_getElem?_getD, show 0 < dn.length by omega]
        by_cases hneg : dn[0] < 0
        ·have hm : mayB d = false := may_false hlt (by rw [hokr, g0, decide_eq_false h0]; simp; intros; omega)
         simp only [go_sem, show (0 : Int) < (dn.length : Int) by omega, getD_map (show 0 < dn.length by omega), wf_ints, hneg, hm]
        ·simp only [go_sem, show (0 : Int) < (dn.length : Int) by omega, getD_map (show 0 < dn.length by omega), wf_ints, hneg]
         refine ⟨⟨by omega, by omega⟩, i + 1, rfl, ⟨hlt, fun j hj => ?_⟩, by omega⟩
         by_cases hji : j = i
         ·subst hji; rw [hokr, hw, hall2, hr, g0]; simp; omega
         ·exact hok j (by omega)
    ·have hm : mayB d = false := may_false hlt (by rw [hokr, decide_eq_false hw]; simp)
     simp only [go_sem, B23_0, show (i : Int) < (d.next.length : Int) by omega, getD_map hlt, hnx, wf_intss, show ¬ ((row.length : Nat) : Int) = (d.signs.length : Int) + 1 by omega, hm]
     exact ⟨by omega, by omega⟩
   ·have hm : mayB d = true := by
     unfold mayB
     rw [decide_eq_true hn, decide_eq_true hl, hs, List.all_eq_true.2 fun j hj => hok j (by have := List.mem_range.1 hj; omega)]
     rfl
    simp only [go_sem, B23_0, R23_0, show ¬ (i : Int) < (d.next.length : Int) by omega, hm]
 ·have hm : mayB d = false := by unfold mayB; rw [decide_eq_false hl]; simp
  simp only [go_sem, hn, show ¬ ((d.next.length : Nat) : Int) = 0 by omega, show ¬ ((d.done.length : Nat) : Int) = (d.next.length : Int) by omega]
  refine runR_callgf (by simp only [go_sem]) (by simp only [go_sem]) (by simp only [go_sem] <;> rfl) (fun _ => fn54 d.signs (by omega)) rfl ?_
  simp only [go_sem, hm]
end Go.Vc

namespace Go.Vc
open Go.Proofs
set_option maxRecDepth 100000
def B51_1 : MC := (.seq (.reg [qi 30 (.bin .lss (.t 29) (.t 28))] [] [1,3,4,20,21,22,27,28,29,30] (1 :: 18 :: famN)) (.seq (.cond (.t 30) .skip (.exit 2)) (.seq (.block 3 (.seq (.reg [qi 31 (.ia (.t 27) (.t 29) 1),qi 32 (.ld (.t 31) 1 false),mi 7 32] [] [1,3,4,7,20,21,22,27,28,29] (1 :: 18 :: famN)) (.seq (.reg [mi 33 7,qi 34 (.bin .neq (.t 33) (.c (.int .i64 (-1))))] [] [1,3,4,7,20,21,22,27,28,29,34] (1 :: 18 :: famN)) (.cond (.t 34) (.reg [mi 35 3,mi 36 7,mi 37 3,mi 38 7,qi 39 (.ia (.t 37) (.t 38) 1),qi 40 (.ld (.t 39) 1 false),mi 41 4,⟨some 42,none,.lits [.t 41] 1⟩,⟨some 43,none,.app (.t 40) (.t 42) 1 8⟩,qi 44 (.ia (.t 35) (.t 36) 1),⟨none,none,.st (.t 44) (.t 43) 1⟩] [] [1,3,4,20,21,22,27,28,29] (1 :: 18 :: famN)) .skip)))) (.reg [qi 45 (.bin .add (.t 29) (ic 1)),mi 29 45] [] [1,3,4,20,21,22,27,28,29] (1 :: 18 :: famN)))))
def B51_0 : MC := (.seq (.reg [qi 23 (.bin .lss (.t 22) (.t 21))] [] [1,3,20,21,22,23] (1 :: 18 :: famN)) (.seq (.cond (.t 23) .skip (.exit 0)) (.seq (.block 1 (.seq (.reg [mi 24 22,qi 25 (.ia (.t 20) (.t 22) 1),qi 26 (.ld (.t 25) 1 false),mi 4 24,mi 5 26] [] [1,3,4,5,20,21,22] (1 :: 18 :: famN)) (.seq (.reg [mi 27 5,qi 28 (.len (.t 27) false),qi 29 (.mv (ic 0))] [] [1,3,4,20,21,22,27,28,29] (1 :: 18 :: famN)) (.block 2 (.loop B51_1))))) (.reg [qi 46 (.bin .add (.t 22) (ic 1)),mi 22 46] [] [1,3,20,21,22] (1 :: 18 :: famN)))))
def B51_2 : MC := (.seq (.reg [qi 55 (.bin .lss (.t 54) (.t 53))] [] [3,8,9,52,53,54,55] [18,43,50,68,104,2009]) (.seq (.cond (.t 55) .skip (.exit 4)) (.seq (.block 5 (.seq (.reg [mi 56 54,qi 57 (.ia (.t 52) (.t 54) 1),qi 58 (.ld (.t 57) 1 false),mi 10 56,mi 11 58] [] [3,8,9,10,11,52,53,54] [18,43,50,68,104,2009]) (.seq (.reg [mi 59 11,qi 60 (.len (.t 59) false),qi 61 (.bin .gtr (.t 60) (ic 0))] [] [3,8,9,10,52,53,54,61] [18,43,50,68,104,2009]) (.cond (.t 61) (.seq (.reg [mi 62 8,mi 63 10,qi 64 (.ia (.t 62) (.t 63) 1),⟨none,none,.st (.t 64) (.c (.bool true)) 1⟩] [] [3,8,9,10,52,53,54] [18,43,50,68,104,2009]) (.reg [mi 65 9,mi 66 10,⟨some 67,none,.lits [.t 66] 1⟩,⟨some 68,none,.app (.t 65) (.t 67) 1 8⟩,mi 9 68] [] [3,8,9,52,53,54] [18,43,50,68,104,2009])) .skip)))) (.reg [qi 69 (.bin .add (.t 54) (ic 1)),mi 54 69] [] [3,8,9,52,53,54] [18,43,50,68,104,2009]))))
def B51_4 : MC := (.seq (.reg [qi 90 (.bin .lss (.t 89) (.t 88))] [] [3,8,9,87,88,89,90] [18,43,50,68,104,2009]) (.seq (.cond (.t 90) .skip (.exit 8)) (.seq (.block 9 (.seq (.reg [qi 91 (.ia (.t 87) (.t 89) 1),qi 92 (.ld (.t 91) 1 false),mi 14 92] [] [3,8,9,14,87,88,89] [18,43,50,68,104,2009]) (.seq (.reg [mi 93 8,mi 94 14,qi 95 (.ia (.t 93) (.t 94) 1),qi 96 (.ld (.t 95) 1 false),qi 97 (.not (.t 96))] [] [3,8,9,14,87,88,89,97] [18,43,50,68,104,2009]) (.cond (.t 97) (.seq (.reg [mi 98 8,mi 99 14,qi 100 (.ia (.t 98) (.t 99) 1),⟨none,none,.st (.t 100) (.c (.bool true)) 1⟩] [] [3,8,9,14,87,88,89] [18,43,50,68,104,2009]) (.reg [mi 101 9,mi 102 14,⟨some 103,none,.lits [.t 102] 1⟩,⟨some 104,none,.app (.t 101) (.t 103) 1 8⟩,mi 9 104] [] [3,8,9,87,88,89] [18,43,50,68,104,2009])) .skip)))) (.reg [qi 105 (.bin .add (.t 89) (ic 1)),mi 89 105] [] [3,8,9,87,88,89] [18,43,50,68,104,2009]))))
def B51_3 : MC := (.seq (.seq (.reg [mi 70 9,qi 71 (.len (.t 70) false),qi 72 (.bin .gtr (.t 71) (ic 0))] [] [3,8,9,72] [18,43,50,68,104,2009]) (.cond (.t 72) .skip (.exit 6))) (.block 7 (.seq (.reg [mi 73 9,mi 74 9,qi 75 (.len (.t 74) false),qi 76 (.bin .sub (.t 75) (ic 1)),qi 77 (.ia (.t 73) (.t 76) 1),qi 78 (.ld (.t 77) 1 false),mi 12 78] [] [3,8,9,12] [18,43,50,68,104,2009]) (.seq (.reg [mi 79 9,mi 80 9,qi 81 (.len (.t 80) false),qi 82 (.bin .sub (.t 81) (ic 1)),qi 83 (.slc (.t 79) none (some (.t 82)) 1 false),mi 9 83] [] [3,8,9,12] [18,43,50,68,104,2009]) (.seq (.reg [mi 84 3,mi 85 12,qi 86 (.ia (.t 84) (.t 85) 1),qi 87 (.ld (.t 86) 1 false),qi 88 (.len (.t 87) false),qi 89 (.mv (ic 0))] [] [3,8,9,87,88,89] [18,43,50,68,104,2009]) (.block 8 (.loop B51_4)))))))
def R51_3 : MC := (.seq (.reg [mi 106 8,mi 2 106] [] [2] [50]) .ret)
def R51_2 : MC := (.seq (.block 6 (.loop B51_3)) R51_3)
def R51_0 : MC := (.seq (.reg [qi 47 (.fa (.t 1) 1),qi 48 (.ld (.t 47) 1 false),qi 49 (.len (.t 48) false),⟨some 50,none,.mks (.t 49) (.t 49) 1 1 (.sc (.bool false))⟩,mi 8 50] [] [1,3,8] [1,18,43,50]) (.seq (.reg [qi 9 (.mv .nil)] [(9,2009,1)] [1,3,8,9] [1,18,43,50,68,104,2009]) (.seq (.seq (.reg [qi 51 (.fa (.t 1) 2),qi 52 (.ld (.t 51) 1 false),qi 53 (.len (.t 52) false),qi 54 (.mv (ic 0))] [] [3,8,9,52,53,54] [18,43,50,68,104,2009]) (.block 4 (.loop B51_2))) R51_2)))
def M51 : MC := (.seq (.reg [⟨some 1,none,.box (.t 0)⟩,qi 2 (.mv .nil)] [] [1] [1]) (.seq (.reg [qi 15 (.fa (.t 1) 1),qi 16 (.ld (.t 15) 1 false),qi 17 (.len (.t 16) false),⟨some 18,none,.mkx (.t 17) (.t 17) 24 .e0⟩,mi 3 18] [] [1,3] [1,18,43]) (.seq (.seq (.reg [qi 19 (.fa (.t 1) 1),qi 20 (.ld (.t 19) 1 false),qi 21 (.len (.t 20) false),qi 22 (.mv (ic 0))] [] [1,3,20,21,22] [1,18,43]) (.block 0 (.loop B51_0))) R51_0)))
theorem mc51 : ofCode Tryz.prog [18] Tryz.f51.ntmps [(0, ⟨[1], [1], [], 0, [], none⟩),
  (1, ⟨[1, 3], [1, 18, 43], [], 0, [], none⟩),
  (2, ⟨[1, 3, 20, 21, 22], [1, 18, 43], [], 0, [], none⟩),
  (3, ⟨[1, 3, 20, 21, 22, 23], 1 :: 18 :: famN, [], 0, [], none⟩),
  (4, ⟨[1, 3, 4, 5, 20, 21, 22], 1 :: 18 :: famN, [], 0, [], none⟩),
  (5, ⟨[1, 3, 4, 20, 21, 22, 27, 28, 29], 1 :: 18 :: famN, [], 0, [], none⟩),
  (6, ⟨[1, 3, 4, 20, 21, 22, 27, 28, 29, 30], 1 :: 18 :: famN, [], 0, [], none⟩),
  (7, ⟨[1, 3, 4, 7, 20, 21, 22, 27, 28, 29], 1 :: 18 :: famN, [], 0, [], none⟩),
  (8, ⟨[1, 3, 4, 7, 20, 21, 22, 27, 28, 29, 34], 1 :: 18 :: famN, [], 0, [], none⟩),
  (9, ⟨[1, 3, 4, 20, 21, 22, 27, 28, 29], 1 :: 18 :: famN, [], 0, [], none⟩),
  (10, ⟨[1, 3, 4, 20, 21, 22, 27, 28, 29], 1 :: 18 :: famN, [], 0, [], none⟩),
  (11, ⟨[1, 3, 20, 21, 22], 1 :: 18 :: famN, [], 0, [], none⟩),
  (12, ⟨[1, 3, 8], [1, 18, 43, 50], [], 0, [], none⟩),
  (13, ⟨[1, 3, 8, 9], [1, 18, 43, 50, 68, 104, 2009], [], 0, [(9, 2009, 1)], none⟩),
  (14, ⟨[3, 8, 9, 52, 53, 54], [18, 43, 50, 68, 104, 2009], [], 0, [], none⟩),
  (15, ⟨[3, 8, 9, 52, 53, 54, 55], [18, 43, 50, 68, 104, 2009], [], 0, [], none⟩),
  (16, ⟨[3, 8, 9, 10, 11, 52, 53, 54], [18, 43, 50, 68, 104, 2009], [], 0, [], none⟩),
  (17, ⟨[3, 8, 9, 10, 52, 53, 54, 61], [18, 43, 50, 68, 104, 2009], [], 0, [], none⟩),
  (18, ⟨[3, 8, 9, 10, 52, 53, 54], [18, 43, 50, 68, 104, 2009], [], 0, [], none⟩),
  (19, ⟨[3, 8, 9, 52, 53, 54], [18, 43, 50, 68, 104, 2009], [], 0, [], none⟩),
  (20, ⟨[3, 8, 9, 52, 53, 54], [18, 43, 50, 68, 104, 2009], [], 0, [], none⟩),
  (21, ⟨[3, 8, 9, 72], [18, 43, 50, 68, 104, 2009], [], 0, [], none⟩),
  (22, ⟨[3, 8, 9, 12], [18, 43, 50, 68, 104, 2009], [], 0, [], none⟩),
  (23, ⟨[3, 8, 9, 12], [18, 43, 50, 68, 104, 2009], [], 0, [], none⟩),
  (24, ⟨[3, 8, 9, 87, 88, 89], [18, 43, 50, 68, 104, 2009], [], 0, [], none⟩),
  (25, ⟨[3, 8, 9, 87, 88, 89, 90], [18, 43, 50, 68, 104, 2009], [], 0, [], none⟩),
  (26, ⟨[3, 8, 9, 14, 87, 88, 89], [18, 43, 50, 68, 104, 2009], [], 0, [], none⟩),
  (27, ⟨[3, 8, 9, 14, 87, 88, 89, 97], [18, 43, 50, 68, 104, 2009], [], 0, [], none⟩),
  (28, ⟨[3, 8, 9, 14, 87, 88, 89], [18, 43, 50, 68, 104, 2009], [], 0, [], none⟩),
  (29, ⟨[3, 8, 9, 87, 88, 89], [18, 43, 50, 68, 104, 2009], [], 0, [], none⟩),
  (30, ⟨[3, 8, 9, 87, 88, 89], [18, 43, 50, 68, 104, 2009], [], 0, [], none⟩),
  (31, ⟨[2], [50], [], 0, [], none⟩)] (Tryz.f51.body.getD .skip) = some M51 := by kernel_rfl
theorem Run51 {args : List PV} {v : AV} {rs : List (Nat × List PV)} (ids : List Bool) (h : args.length ≤ 107) (hv : run Tryz.prog (retK [RV.tmp 2] ids v rs) M51 [] ⟨entry 0 args, []⟩) : Fn Tryz.prog 51 args v rs :=
 Fn_run ids (by kernel_rfl) Tryz.func51 (by decide) rfl mc51 (by kernel_rfl) (by rw [Tryz.ntmps51]; exact h) (by rw [Tryz.ntmps51]; decide) hv
end Go.Vc

namespace Go.Vc
open Go.Proofs
set_option linter.unusedSimpArgs false
set_option linter.unusedVariables false
def edg (d : DI) (i : Nat) : List (Nat × Int) := (List.range i).flatMap fun a => (d.next.getD a []).map fun t => (a, t)
def edgJ (d : DI) (i j : Nat) : List (Nat × Int) := edg d i ++ ((d.next.getD i []).take j).map fun t => (i, t)
def bk (E : List (Nat × Int)) (k : Nat) : List Int := (E.filter fun e => decide (e.2 = (k : Int))).map fun e => (e.1 : Int)
abbrev bkP (E : List (Nat × Int)) (k : Nat) : List PV := (bk E k).map fun n => pI n
theorem edg_succ (d : DI) (i : Nat) : edg d (i + 1) = edgJ d i (d.next.getD i []).length := by
 simp [edg, edgJ, List.range_succ, List.flatMap_append]
theorem edgJ_zero (d : DI) (i : Nat) : edgJ d i 0 = edg d i := by simp [edgJ]
theorem edgJ_succ {d : DI} {i j : Nat} (h : j < (d.next.getD i []).length) : edgJ d i (j + 1) = edgJ d i j ++ [(i, (d.next.getD i [])[j])] := by
 unfold edgJ
 rw [List.take_succ_eq_append_getElem h, List.map_append, ← List.append_assoc]; rfl
theorem bk_snoc (E : List (Nat × Int)) (i : Nat) (t : Int) (k : Nat) : bk (E ++ [(i, t)]) k = if t = (k : Int) then bk E k ++ [(i : Int)] else bk E k := by
 unfold bk
 rw [List.filter_append, List.map_append]
 by_cases h : t = (k : Int)
 ·simp [h]
 ·simp [h]
theorem bk_mem {d : DI} {i : Int} {k n : Nat} : i ∈ bk (edg d n) k ↔ ∃ a : Nat, i = (a : Int) ∧ a < n ∧ (k : Int) ∈ d.next.getD a [] := by
 unfold bk edg
 simp only [List.mem_map, List.mem_filter, List.mem_flatMap, List.mem_range, decide_eq_true_eq]
 constructor
 ·rintro ⟨⟨a, t⟩, ⟨⟨b, hb, t2, ht2, he⟩, ht⟩, rfl⟩
  injection he with h1 h2
  subst h1; subst h2
  simp only at ht
  exact ⟨b, rfl, hb, ht ▸ ht2⟩
 ·rintro ⟨a, rfl, ha, ht⟩
  exact ⟨(a, (k : Int)), ⟨⟨a, ha, (k : Int), ht, rfl⟩, rfl⟩, rfl⟩
theorem bk_len (E : List (Nat × Int)) (k : Nat) : (bk E k).length ≤ E.length := by
 unfold bk
 rw [List.length_map]
 exact List.length_filter_le _ _
theorem edgJ_len {d : DI} (hd : d.Ok) {i j : Nat} (hi : i ≤ 1000) : (edgJ d i j).length ≤ 1001 * 1000 := by
 have h1 : ∀ i, (edg d i).length ≤ i * 1000 := fun i => by
  induction i with
  | zero => simp [edg]
  | succ i ih =>
   have := hd.width i
   rw [edg_succ, edgJ, List.take_length, List.length_append, List.length_map]
   omega
 have h2 := h1 i
 have h3 := hd.width i
 unfold edgJ
 rw [List.length_append, List.length_map, List.length_take]
 omega
theorem slots_get {n k : Nat} (h : k < n) (L : Nat → List PV) : (slots n L).getD k .un = .row (100000 + k) 0 (L k).length := by unfold slots; rw [tb_get h]
theorem slots_len (n : Nat) (L : Nat → List PV) : (slots n L).length = n := tb_len _ _
theorem slots_ext {n : Nat} {L M : Nat → List PV} (h : ∀ k, k < n → L k = M k) : slots n L = slots n M := by
 unfold slots
 exact tb_ext fun k hk => by rw [h k hk]
theorem fam_ext {n : Nat} {L M : Nat → List PV} (h : ∀ k, k < n → L k = M k) : fam n L = fam n M := by
 unfold fam famF
 exact List.map_congr_left fun k hk => by
  rw [List.mem_range'] at hk
  obtain ⟨i, h1, h2⟩ := hk
  rw [h k (by omega)]
theorem slots_grow {n k : Nat} (h : k < n) (L : Nat → List PV) (l : List PV) : (AV.clips (only (100000 + k)) (slots n L)).set k (.row (100000 + k) 0 l.length) = slots n (fun j => if j = k then l else L j) := by
 unfold slots
 rw [clips_eq, tb_map, tb_set h]
 refine tb_ext fun j hj => ?_
 by_cases h1 : j = k
 ·subst h1; simp
 ·have hon : only (100000 + k) (100000 + j) = false := by simp [only]; omega
  simp only [if_neg h1, AV.clip, hon, Bool.false_eq_true, if_false]
theorem keep_grow {n k : Nat} {L : Nat → List PV} {xs : List PV} {A : Row} (hn : n ≤ 1000) (hk : k < n) :
  stKeep ((100000 + k, .sl 1 xs) :: (1, A) :: stDel (stClip (only (100000 + k)) (stDel (fam n L) (100000 + k))) 18) famN = fam n (fun j => if j = k then xs else L j) := by
 have hz : stDel (stClip (only (100000 + k)) (stDel (fam n L) (100000 + k))) 18 = stDel (fam n L) (100000 + k) := by
  rw [stClip_id, stDel_id]
  ·intro q v hq
   have := (famF_keys (stDel_mem hq).1).1
   simp only at this; omega
  ·intro q v hq
   obtain ⟨_, _, ys, h9⟩ := famF_keys (stDel_mem hq).1
   simp only at h9
   subst h9; rfl
 rw [hz, ← stKeep_grow hn hk]
 refine stKeep_ext fun t ht => ?_
 have h1 : 1 ≠ t := fun e => by subst e; rw [famN_out (by omega)] at ht; exact ht
 simp only [stGet, if_neg h1]
theorem allPv_pvs : ∀ l : List PV, allPv (l.map .pv) = some l
 | [] => rfl
 | p :: l => by simp only [List.map_cons, allPv, allPv_pvs l]
theorem stKeep_none : ∀ ts : List Nat, stKeep [] ts = []
 | [] => rfl
 | t :: ts => by simp [stKeep, stGet, stKeep_none ts]
theorem ones_lst {α : Type} (f : α → List PV) : ∀ l : List α, onesP (l.map fun a => PV.lst (f a)) = true
 | [] => rfl
 | a :: l => by simp only [List.map_cons, onesP, ones_lst f l]; rfl
theorem wf_lsts {α : Type} (f : α → List PV) (l : List α) : WfL 1 (l.map fun a => PV.lst (f a)) := wf_map (f := fun a => PV.lst (f a)) (s := 1) (fun a => ⟨rfl, fun c hc => by
 simp only [PV.cells, List.mem_cons, List.not_mem_nil, or_false] at hc
 subst hc; rfl⟩) l
def upd (S : Nat → Bool) (a : Nat) : Nat → Bool := fun k => if k = a then true else S k
def cntF : Nat → (Nat → Bool) → Nat
 | 0, _ => 0
 | n + 1, S => cntF n S + (if S n = true then 0 else 1)
theorem cntF_out {S : Nat → Bool} {a : Nat} : ∀ {n : Nat}, n ≤ a → cntF n (upd S a) = cntF n S
 | 0, _ => rfl
 | n + 1, h => by
  simp only [cntF, cntF_out (n := n) (S := S) (a := a) (by omega), upd, if_neg (show ¬ n = a by omega)]
theorem cntF_upd {S : Nat → Bool} {a : Nat} : ∀ {n : Nat}, a < n → S a = false → cntF n (upd S a) + 1 = cntF n S
 | 0, h, _ => by omega
 | n + 1, h, hs => by
  by_cases hn : a = n
  ·subst hn
   simp only [cntF, cntF_out (Nat.le_refl _), upd, if_true, hs]
   simp
  ·have ih := cntF_upd (n := n) (by omega) hs
   simp only [cntF, upd, if_neg (show ¬ n = a by omega)] at ih ⊢
   omega
theorem Live_lt {d : DI} {k : Nat} (h : d.Live k) : k < d.next.length := by cases h <;> assumption
structure WInv (d : DI) (S : Nat → Bool) (ws : List Nat) : Prop where
 sound : ∀ k, k < d.next.length → S k = true → d.Live k
 done : ∀ k, k < d.next.length → (d.done.getD k []).length ≠ 0 → S k = true
 shut : ∀ i k : Nat, i < d.next.length → k < d.next.length → (k : Int) ∈ d.next.getD i [] → S k = true → k ∈ ws ∨ S i = true
 ws : ∀ w ∈ ws, w < d.next.length ∧ S w = true
structure MInv (d : DI) (w : Nat) (R : List Int) (S : Nat → Bool) (ws : List Nat) : Prop where
 sound : ∀ k, k < d.next.length → S k = true → d.Live k
 done : ∀ k, k < d.next.length → (d.done.getD k []).length ≠ 0 → S k = true
 shut : ∀ i k : Nat, i < d.next.length → k < d.next.length → (k : Int) ∈ d.next.getD i [] → S k = true → k ∈ ws ∨ (k = w ∧ (i : Int) ∈ R) ∨ S i = true
 ws : ∀ w ∈ ws, w < d.next.length ∧ S w = true
 lw : d.Live w
 inR : ∀ x ∈ R, ∃ a : Nat, x = (a : Int) ∧ a < d.next.length ∧ (w : Int) ∈ d.next.getD a []
theorem WInv.pop {d : DI} {S : Nat → Bool} {ws : List Nat} {w : Nat} (h : WInv d S (ws ++ [w])) : MInv d w (bk (edg d d.next.length) w) S ws where
 sound := h.sound
 done := h.done
 shut := fun i k hi hk hm hs => by
  rcases h.shut i k hi hk hm hs with h1 | h1
  ·rcases List.mem_append.1 h1 with h1 | h1
   ·exact .inl h1
   ·rw [List.mem_singleton] at h1
    subst h1
    exact .inr (.inl ⟨rfl, bk_mem.2 ⟨i, rfl, hi, hm⟩⟩)
  ·exact .inr (.inr h1)
 ws := fun u hu => h.ws u (List.mem_append.2 (.inl hu))
 lw := by have := h.ws w (by simp); exact h.sound w this.1 this.2
 inR := fun x hx => by obtain ⟨a, h1, h2, h3⟩ := bk_mem.1 hx; exact ⟨a, h1, h2, h3⟩
theorem MInv.skip {d : DI} {w a : Nat} {R : List Int} {S : Nat → Bool} {ws : List Nat} (h : MInv d w ((a : Int) :: R) S ws) (ha : S a = true) : MInv d w R S ws :=
 {h with
  shut := fun i k hi hk hm hs => by
   rcases h.shut i k hi hk hm hs with h1 | ⟨h1, h2⟩ | h1
   ·exact .inl h1
   ·rcases List.mem_cons.1 h2 with h2 | h2
    ·have : i = a := by omega
     subst this
     exact .inr (.inr ha)
    ·exact .inr (.inl ⟨h1, h2⟩)
   ·exact .inr (.inr h1)
  inR := fun x hx => h.inR x (List.mem_cons_of_mem _ hx) }
theorem MInv.add {d : DI} {w a : Nat} {R : List Int} {S : Nat → Bool} {ws : List Nat} (h : MInv d w ((a : Int) :: R) S ws) : MInv d w R (upd S a) (ws ++ [a]) := by
 obtain ⟨b, h1, h2, h3⟩ := h.inR (a : Int) (by simp)
 have hab : a = b := by omega
 subst hab
 have hon : ∀ k, S k = true → upd S a k = true := fun k hk => by unfold upd; split <;> simp [hk]
 exact {
  sound := fun k hk hs => by
   unfold upd at hs
   split at hs
   ·rename_i he
    subst he
    exact .step h2 h3 h.lw
   ·exact h.sound k hk hs
  done := fun k hk hs => hon k (h.done k hk hs)
  shut := fun i k hi hk hm hs => by
   unfold upd at hs
   split at hs
   ·rename_i he; subst he; exact .inl (by simp)
   ·rcases h.shut i k hi hk hm hs with h1 | ⟨h1, h2⟩ | h1
    ·exact .inl (List.mem_append.2 (.inl h1))
    ·rcases List.mem_cons.1 h2 with h2 | h2
     ·have : i = a := by omega
      subst this
      exact .inr (.inr (by simp [upd]))
     ·exact .inr (.inl ⟨h1, h2⟩)
    ·exact .inr (.inr (hon i h1))
  ws := fun u hu => by
   rcases List.mem_append.1 hu with hu | hu
   ·exact ⟨(h.ws u hu).1, hon u (h.ws u hu).2⟩
   ·rw [List.mem_singleton] at hu; subst hu; exact ⟨h2, by simp [upd]⟩
  lw := h.lw
  inR := fun x hx => h.inR x (List.mem_cons_of_mem _ hx) }
theorem MInv.end_ {d : DI} {w : Nat} {S : Nat → Bool} {ws : List Nat} (h : MInv d w [] S ws) : WInv d S ws :=
 {h with
  shut := fun i k hi hk hm hs => by
   rcases h.shut i k hi hk hm hs with h1 | ⟨_, h2⟩ | h1
   ·exact .inl h1
   ·cases h2
   ·exact .inr h1 }
theorem WInv.all {d : DI} {S : Nat → Bool} (h : WInv d S []) {k : Nat} (hk : k < d.next.length) : S k = true ↔ d.Live k := by
 refine ⟨h.sound k hk, fun hl => ?_⟩
 induction hl with
 | done hi hd => exact h.done _ hi fun e => hd (List.eq_nil_of_length_eq_zero e)
 | step hi hm hl ih =>
  have hlt := Live_lt hl
  exact (h.shut _ _ hi hlt hm (ih hlt)).resolve_left (by simp)
def dnB (d : DI) (k : Nat) : Bool := decide ((d.done.getD k []).length ≠ 0)
def todo (d : DI) (i : Nat) : List Nat := (List.range i).filter (dnB d)
theorem todo_succ (d : DI) (i : Nat) : todo d (i + 1) = if dnB d i = true then todo d i ++ [i] else todo d i := by
 unfold todo
 rw [List.range_succ, List.filter_append]
 by_cases h : dnB d i = true
 ·rw [if_pos h]; simp [h]
 ·rw [if_neg h]; simp [h]
theorem WInv.init (d : DI) : WInv d (fun k => dnB d k) (todo d d.next.length) where
 sound := fun k hk hs => .done hk (by unfold dnB at hs; intro e; rw [e] at hs; simp at hs)
 done := fun k hk hs => by unfold dnB; exact decide_eq_true hs
 shut := fun i k hi hk hm hs => .inl (List.mem_filter.2 ⟨List.mem_range.2 hk, hs⟩)
 ws := fun w hw => by
  obtain ⟨h1, h2⟩ := List.mem_filter.1 hw
  exact ⟨List.mem_range.1 h1, h2⟩
theorem live_tb {d : DI} {S : Nat → Bool} (h : WInv d S []) : (tb d.next.length fun k => pB (S k)) = (liveL d).map fun b => pB b := by
 unfold liveL
 rw [List.map_map]
 refine List.map_congr_left fun k hk => ?_
 have := h.all (List.mem_range.1 hk)
 simp only [Function.comp]
 congr 2
 rw [Bool.eq_iff_iff, this]
 exact ⟨fun h => by simpa using h, fun h => by simpa using h⟩
theorem fn51 (d : DI) (hd : d.Ok) : Fn Tryz.prog 51 [pDi d] (.pv (bools (liveL d))) [] := by
 have hn := hd.n
 have hn0 := hd.n0
 obtain ⟨n, hnn⟩ : ∃ n, n = d.next.length := ⟨_, rfl⟩
 refine Run51 [] (by simp) ?_
 simp only [go_sem, M51]
 rw [← hnn] at hn hn0 ⊢
 refine ⟨by omega, ?_⟩
 obtain ⟨BV, hBV⟩ : ∃ BV : List PV, BV = tb n fun j => PV.lst (bkP (edg d n) j) := ⟨_, rfl⟩
 refine run_loopX (T := Nat) [1, 3, 20, 21, 22] (1 :: 18 :: famN)
  (fun i => ⟨[(1, .ptr 1 0), (3, if i < n then .row 18 0 n else .pv (.lst BV)), (20, .pv (.lst (d.next.map ints))), (21, .pv (pI n)), (22, .pv (pI i))],
   if i < n then (1, .box (dBox d)) :: (18, .bxs (slots n (bkP (edg d i)))) :: fam n (bkP (edg d i)) else [(1, .box (dBox d))]⟩)
  (fun i => i ≤ n) (fun i => n - i) 0 ?_ (Nat.zero_le _) ?_
 ·rw [if_pos (by omega), if_pos (by omega)]
  rw [show slots n (bkP (edg d 0)) = cells0 n n by rw [cells0_all]; rfl]
  have hW := Weak.fan (fr := [(1, .ptr 1 0), (3, .row 18 0 n), (20, .pv (.lst (d.next.map ints))), (21, .pv (pI n)), (22, .pv (pI 0))]) (rest := [(1, .box (dBox d))]) (b := 18) (n := n) (by omega) hn
   (fun k => by
    have h1 : (1 == 100000 + k) = false := by simp; omega
    have h2 : (18 == 100000 + k) = false := by simp; omega
    simp [frClip, AV.clip, only, h1, h2])
   (fun q v hq => by simp only [List.mem_singleton, Prod.mk.injEq] at hq; obtain ⟨rfl, rfl⟩ := hq; exact ⟨by omega, by omega, fun k => rfl⟩) n (Nat.le_refl _)
  rw [cells0_nil] at hW
  have hkp : stKeep ((18, Row.bxs (cells0 n n)) :: (famR n ++ [(1, .box (dBox d))])) famN = fam n (bkP (edg d 0)) := by
   rw [stKeep_skip (by omega)]
   refine stKeep_of hn fun j _ => ?_
   rw [stGet_famR]
   by_cases hj : j < n
   ·rw [if_pos hj, if_pos hj]; rfl
   ·rw [if_neg hj, if_neg hj]
    simp only [stGet, if_neg (show ¬ 1 = 100000 + j by omega)]
  have hg1 : stGet ((18, Row.bxs (cells0 n n)) :: (famR n ++ [(1, .box (dBox d))])) 1 = some (.box (dBox d)) := by
   simp only [stGet, if_neg (show ¬ 18 = 1 by omega)]
   generalize n = m
   induction m with
   | zero => rfl
   | succ m ih => simp only [famR, List.cons_append, stGet, if_neg (show ¬ 100000 + m = 1 by omega)]; exact ih
  refine ⟨⟨[(1, .ptr 1 0), (3, .row 18 0 n), (20, .pv (.lst (d.next.map ints))), (21, .pv (pI n)), (22, .pv (pI 0))], (18, .bxs (cells0 n n)) :: (famR n ++ [(1, .box (dBox d))])⟩, (Weak.norm _ [1, 3, 20, 21, 22] [18, 1]).trans ?_, ?_⟩
  ·simp only [go_sem]
   exact hW
  ·simp only [stGet, if_neg (show ¬ 18 = 1 by omega)] at hg1
   simp only [go_sem, famN_out, hkp, hg1]
   done
 intro i hi
 by_cases hlt : i < n
 ·obtain ⟨row, hrow⟩ : ∃ row, row = d.next.getD i [] := ⟨_, rfl⟩
  have hil : i < d.next.length := by omega
  have hnx : d.next[i] = row := by rw [hrow]; simp [List.getD_eq_getElem?_getD, hil]
  have hrl : row.length ≤ 1000 := by rw [hrow]; exact hd.width i
  have hrr : ∀ t ∈ row, -1 ≤ t ∧ t < (n : Int) := by rw [hrow, hnn]; exact hd.rows i
  simp only [go_sem, B51_0, show (i : Int) < (n : Int) by omega, hlt, getD_map hil, hnx, wf_intss, stKeep_skip, famN_out, stKeep_fam hn]
  refine ⟨by omega, ?_⟩
  refine run_loopN (T := Nat) [1, 3, 4, 20, 21, 22, 27, 28, 29] (1 :: 18 :: famN)
   (fun j => ⟨[(1, .ptr 1 0), (3, .row 18 0 n), (4, .pv (pI i)), (20, .pv (.lst (d.next.map ints))), (21, .pv (pI n)), (22, .pv (pI i)), (27, .pv (ints row)), (28, .pv (pI row.length)), (29, .pv (pI j))],
    (1, .box (dBox d)) :: (18, .bxs (slots n (bkP (edgJ d i j)))) :: fam n (bkP (edgJ d i j))⟩)
   (fun j => j ≤ row.length) (fun j => row.length - j) 0 ?_ (Nat.zero_le _) ?_
  ·simp only [go_sem, stKeep_skip, famN_out, stKeep_fam hn, edgJ_zero]
  intro j hj
  have hEl := edgJ_len hd (i := i) (j := j) (by omega)
  by_cases hjl : j < row.length
  ·have hes : edgJ d i (j + 1) = edgJ d i j ++ [(i, row[j])] := by
    subst hrow
    exact edgJ_succ hjl
   obtain ⟨hr1, hr2⟩ := hrr row[j] (List.getElem_mem hjl)
   by_cases hm : row[j] = -1
   ·have hbs : ∀ k, bkP (edgJ d i (j + 1)) k = bkP (edgJ d i j) k := fun k => by
     unfold bkP
     rw [hes, bk_snoc, if_neg (by omega)]
    simp only [go_sem, B51_1, show (j : Int) < (row.length : Int) by omega, getD_map hjl, wf_ints, hm, stKeep_skip, famN_out, stKeep_fam hn]
    refine ⟨⟨by omega, by omega⟩, j + 1, ?_, hjl, by omega⟩
    rw [slots_ext fun k _ => hbs k, fam_ext fun k _ => hbs k]
    rfl
   ·obtain ⟨k, hk⟩ : ∃ k : Nat, row[j] = (k : Int) := ⟨row[j].toNat, by omega⟩
    have hkn : k < n := by omega
    have hbl := bk_len (edgJ d i j) k
    have hbs : ∀ q, q < n → bkP (edgJ d i (j + 1)) q = if q = k then bkP (edgJ d i j) k ++ [pI i] else bkP (edgJ d i j) q := fun q hq => by
     unfold bkP
     rw [hes, bk_snoc, hk]
     by_cases hqk : q = k
     ·subst hqk; simp
     ·rw [if_neg (by omega), if_neg hqk]
    obtain ⟨r, hr⟩ : ∃ r, r = 100000 + k := ⟨_, rfl⟩
    have g1 := slots_get hkn (bkP (edgJ d i j))
    have g2 := stGet_fam (L := bkP (edgJ d i j)) hkn
    rw [← hr] at g1 g2
    have g3 : (18 == r) = false := by simp; omega
    have g4 : (1 == r) = false := by simp; omega
    have g5 : ¬ r = 18 := by omega
    have g6 : ¬ r = 1 := by omega
    simp only [go_sem, B51_1, show (j : Int) < (row.length : Int) by omega, getD_map hjl, wf_ints, hk, stKeep_skip, famN_out, stKeep_fam hn, g1, g2, g3, g4, g5, g6, show ¬ 1 = r by omega, show ¬ 18 = r by omega, slots_len]
    have hl1 : (bk (edgJ d i j) k).length + 1 = (bkP (edgJ d i j) k ++ [pI i]).length := by simp
    have htk : List.take (bk (edgJ d i j) k).length (bkP (edgJ d i j) k) = bkP (edgJ d i j) k := List.take_of_length_le (by simp)
    have hcl : (AV.clips (only r) (slots n (bkP (edgJ d i j)))).length = n := by rw [clips_length, slots_len]
    refine ⟨by omega, hkn, ⟨by omega, wf_ints [(i : Int)], by omega, by omega⟩, by omega, by rw [hcl]; exact hkn, ⟨by omega, by omega⟩, j + 1, ?_, hjl, by omega⟩
    rw [slots_ext hbs, fam_ext hbs, hl1, htk, hr, slots_grow hkn, keep_grow hn hkn, stKeep_fam hn, stKeep_fam hn]
    rfl
  ·obtain rfl : j = row.length := by omega
   simp only [go_sem, B51_1, show ¬ (row.length : Int) < (row.length : Int) by omega, stKeep_skip, famN_out, stKeep_fam hn]
   rw [show edgJ d i row.length = edg d (i + 1) by rw [edg_succ, ← hrow]]
   refine ⟨⟨by omega, by omega⟩, i + 1, ?_, hlt, by omega⟩
   by_cases hl1 : i + 1 < n
   ·rw [if_pos hl1, if_pos hl1]
    refine ⟨_, Weak.refl' _, ?_⟩
    simp only [go_sem, stKeep_skip, famN_out, stKeep_fam hn]
    rfl
   ·rw [if_neg hl1, if_neg hl1]
    obtain rfl : n = i + 1 := by omega
    rw [slots_cells]
    refine ⟨_, (Weak.unfan (L := bkP (edg d (i + 1))) (fun k row => by simp [frFrz, AV.frz]; omega) (fun k row => rfl) (i + 1) 0 (by omega)).trans (Weak.virts _ [(18, 18, 0)]), ?_⟩
    rw [cellsV_all, ← hBV]
    have hBo : onesP BV = true := by rw [hBV]; exact ones_lst _ _
    have hBt : List.take (i + 1) BV = BV := List.take_of_length_le (by rw [hBV, tb_len]; omega)
    simp only [go_sem, stKeep_skip, famN_out, allPv_pvs, hBo, hBt, stKeep_none]
    rfl
 ·obtain rfl : i = n := by omega
  subst hnn
  have hdl : d.done.length = d.next.length := hd.done
  clear hi
  simp only [go_sem, B51_0, R51_0, show ¬ (d.next.length : Int) < (d.next.length : Int) by omega, show ¬ d.next.length < d.next.length by omega, famN_out, stKeep_none, stKeep_skip]
  refine ⟨⟨by omega, by omega, by omega⟩, ?_⟩
  have hbg : ∀ k, k < d.next.length → BV[k]? = some (.lst (bkP (edg d d.next.length) k)) := fun k hk => by
   rw [hBV, List.getElem?_eq_getElem (by rw [tb_len]; exact hk)]
   simp [tb]
  have hBl : BV.length = d.next.length := by rw [hBV, tb_len]
  have hBw : WfL 1 BV := by rw [hBV]; exact wf_lsts _ _
  clear hBV
  refine run_loopN (T := Nat) [3, 8, 9, 52, 53, 54] [50, 2009]
   (fun i => ⟨[(3, .pv (.lst BV)), (8, .row 50 0 d.next.length), (9, .row 2009 0 (todo d i).length), (52, .pv (.lst (d.done.map ints))), (53, .pv (pI d.done.length)), (54, .pv (pI i))],
    [(50, .sl 1 (tb d.next.length fun k => pB (decide (k < i) && dnB d k))), (2009, .sl 1 ((toI (todo d i)).map fun n => pI n))]⟩)
   (fun i => i ≤ d.done.length) (fun i => d.done.length - i) 0 ?_ (Nat.zero_le _) ?_
  ·have : (tb d.next.length fun k => pB (decide (k < 0) && dnB d k)) = List.replicate d.next.length (pB false) := by
    rw [tb_rep]; exact tb_ext fun k _ => by simp
   rw [this]
   simp only [go_sem]
   rfl
  intro i hi
  have htl : (todo d i).length ≤ i := by
   have := List.length_filter_le (dnB d) (List.range i)
   rwa [List.length_range] at this
  by_cases hlt : i < d.done.length
  ·obtain ⟨dn, hdn⟩ : ∃ dn, dn = d.done.getD i [] := ⟨_, rfl⟩
   have hdx : d.done[i] = dn := by rw [hdn]; simp [List.getD_eq_getElem?_getD, hlt]
   have hin : i < d.next.length := by omega
   have hset : ∀ b, dnB d i = b → (tb d.next.length fun k => pB (decide (k < i + 1) && dnB d k)) = tb d.next.length fun k => if k = i then pB b else pB (decide (k < i) && dnB d k) := fun b hb => tb_ext fun k hk => by
    by_cases h1 : k = i
    ·subst h1; simp [hb]
    ·rw [if_neg h1]
     by_cases h2 : k < i
     ·simp [h2, show k < i + 1 by omega]
     ·simp [h2, show ¬ k < i + 1 by omega]
   by_cases h0 : dn.length = 0
   ·have hb : dnB d i = false := by unfold dnB; rw [← hdn, h0]; rfl
    have hs := hset false hb
    have ht : todo d (i + 1) = todo d i := by rw [todo_succ, hb]; simp
    simp only [go_sem, B51_2, show (i : Int) < (d.done.length : Int) by omega, getD_map hlt, hdx, wf_intss, h0]
    refine ⟨⟨by omega, by omega⟩, i + 1, ?_, hlt, by omega⟩
    rw [ht, hs]
    have : (tb d.next.length fun k => if k = i then pB false else pB (decide (k < i) && dnB d k)) = tb d.next.length fun k => pB (decide (k < i) && dnB d k) := tb_ext fun k _ => by
     by_cases h1 : k = i
     ·subst h1; simp
     ·rw [if_neg h1]
    rw [this]
    rfl
   ·have hb : dnB d i = true := by unfold dnB; rw [← hdn]; exact decide_eq_true h0
    have hs := hset true hb
    have ht : todo d (i + 1) = todo d i ++ [i] := by rw [todo_succ, hb]; simp
    have g0 : (tb d.next.length fun k => pB (decide (k < i) && dnB d k)).getD i default = pB false := by rw [tb_get hin]; simp
    simp only [go_sem, B51_2, show (i : Int) < (d.done.length : Int) by omega, getD_map hlt, hdx, wf_intss, show (0 : Int) < (dn.length : Int) by omega, tb_len, g0]
    refine ⟨by omega, hin, ⟨wf_ints [(i : Int)], by omega, by omega⟩, ⟨by omega, by omega⟩, i + 1, ?_, hlt, by omega⟩
    have htk : List.take (todo d i).length (List.map (fun n => pI n) (toI (todo d i))) = List.map (fun n => pI n) (toI (todo d i)) := List.take_of_length_le (by simp [toI])
    rw [ht, hs, tb_set hin, htk, List.length_append, toI_app, List.map_append]
    rfl
  ·obtain rfl : i = d.done.length := by omega
   simp only [go_sem, B51_2, R51_2, show ¬ (d.done.length : Int) < (d.done.length : Int) by omega]
   have hw0 := WInv.init d
   have htl0 : (todo d d.next.length).length ≤ d.next.length := by rw [← hdl]; exact htl
   refine run_loopN (T := (Nat → Bool) × List Nat × List PV) [3, 8, 9] [50, 2009]
    (fun t => ⟨[(3, .pv (.lst BV)), (8, .row 50 0 d.next.length), (9, .row 2009 0 t.2.1.length)], [(50, .sl 1 (tb d.next.length fun k => pB (t.1 k))), (2009, .sl 1 ((toI t.2.1).map (fun n => pI n) ++ t.2.2))]⟩)
    (fun t => WInv d t.1 t.2.1 ∧ 2 * cntF d.next.length t.1 + t.2.1.length ≤ 1000000) (fun t => 2 * cntF d.next.length t.1 + t.2.1.length) (fun k => dnB d k, todo d d.next.length, []) ?_ ⟨hw0, ?_⟩ ?_
   ·have : (tb d.next.length fun k => pB (decide (k < d.done.length) && dnB d k)) = tb d.next.length fun k => pB (dnB d k) := tb_ext fun k hk => by rw [decide_eq_true (by omega)]; rfl
    rw [this, hdl]
    simp only [go_sem, List.append_nil]
    done
   ·have hc : ∀ (S : Nat → Bool) m, cntF m S ≤ m := fun S m => by
     induction m with
     | zero => exact Nat.le_refl _
     | succ m ih => simp only [cntF]; split <;> omega
    have := hc (fun k => dnB d k) d.next.length
    simp only
    omega
   clear hw0 htl0 htl hlt hi
   rintro ⟨S, ws, xs⟩ ⟨hW, hmu⟩
   simp only at hW hmu
   rcases List.eq_nil_or_concat ws with rfl | ⟨w1, w, rfl⟩
   ·have hlv := live_tb hW
    have hll : (liveL d).length = d.next.length := liveL_len d
    simp only [go_sem, B51_3, R51_3, hlv]
    rw [List.take_of_length_le (by simp [hll])]
   ·rw [List.concat_eq_append] at *
    have hM := hW.pop
    have hw := hW.ws w (by simp)
    have e1 : (((w1.length + 1 : Nat) : Int) - 1).toNat = w1.length := by omega
    have hget : ((toI (w1 ++ [w])).map (fun n => pI n) ++ xs).getD w1.length default = pI (w : Int) := by simp [List.getD_eq_getElem?_getD, toI]
    have hbs : (toI (w1 ++ [w])).map (fun n => pI n) ++ xs = (toI w1).map (fun n => pI n) ++ (pI (w : Int) :: xs) := by simp [toI]
    have hBg := hbg w hw.1
    have hBd : BV.getD w default = .lst (bkP (edg d d.next.length) w) := by rw [List.getD_eq_getElem?_getD, hBg]; rfl
    rw [List.length_append, List.length_singleton] at hmu
    simp only [go_sem, B51_3, List.length_append, List.length_singleton, e1, hget, show (0 : Int) < ((w1.length + 1 : Nat) : Int) by omega, hBd, hBl, hBw]
    refine ⟨⟨by omega, by omega⟩, ⟨by omega, by omega⟩, by simp [toI]; omega, ⟨by omega, by omega⟩, ⟨by omega, by omega⟩, by omega, ?_⟩
    rw [hbs, Nat.sub_zero]
    clear hBg hBd hbs hget e1 hW
    unfold bkP
    have hBlen : (bk (edg d d.next.length) w).length ≤ 1001 * 1000 := by
     have h1 := bk_len (edg d d.next.length) w
     have h2 := edgJ_len hd (i := d.next.length) (j := 0) hn
     rw [edgJ_zero] at h2
     omega
    generalize bk (edg d d.next.length) w = B at hM hBlen
    have hmu0 : 2 * cntF d.next.length S + w1.length < 2 * cntF d.next.length S + (w1.length + 1) := by omega
    refine run_loopN (T := Nat × (Nat → Bool) × List Nat × List PV) [3, 8, 9, 87, 88, 89] [50, 2009]
     (fun t => ⟨[(3, .pv (.lst BV)), (8, .row 50 0 d.next.length), (9, .row 2009 0 t.2.2.1.length), (87, .pv (ints B)), (88, .pv (pI B.length)), (89, .pv (pI t.1))],
      [(50, .sl 1 (tb d.next.length fun k => pB (t.2.1 k))), (2009, .sl 1 ((toI t.2.2.1).map (fun n => pI n) ++ t.2.2.2))]⟩)
     (fun t => t.1 ≤ B.length ∧ MInv d w (B.drop t.1) t.2.1 t.2.2.1 ∧ 2 * cntF d.next.length t.2.1 + t.2.2.1.length ≤ 2 * cntF d.next.length S + w1.length) (fun t => B.length - t.1) (0, S, w1, pI (w : Int) :: xs) rfl ⟨Nat.zero_le _, hM, Nat.le_refl _⟩ ?_
    rintro ⟨j, S1, ws, ys⟩ ⟨hj, hMj, hle⟩
    simp only at hj hMj hle
    by_cases hjl : j < B.length
    ·have hdr : B.drop j = B[j] :: B.drop (j + 1) := List.drop_eq_getElem_cons hjl
     rw [hdr] at hMj
     obtain ⟨a, hxa, han, _⟩ := hMj.inR B[j] (List.mem_cons_self ..)
     rw [hxa] at hMj
     have hga : (tb d.next.length fun k => pB (S1 k)).getD a default = pB (S1 a) := by rw [tb_get han]
     cases hsa : S1 a with
     | true =>
      have hA := hMj.skip hsa
      rw [hsa] at hga
      simp only [go_sem, B51_4, show (j : Int) < (B.length : Int) by omega, getD_map hjl, wf_ints, hxa, hga, tb_len]
      exact ⟨by omega, han, ⟨by omega, by omega⟩, (j + 1, S1, ws, ys), rfl, ⟨hjl, hA, hle⟩, by simp only; omega⟩
     | false =>
      have hA := hMj.add
      have hcu := cntF_upd han hsa
      rw [hsa] at hga
      simp only [go_sem, B51_4, show (j : Int) < (B.length : Int) by omega, getD_map hjl, wf_ints, hxa, hga, tb_len]
      have hup : (tb d.next.length fun k => pB (S1 k)).set a (PV.sc (Value.bool true)) = tb d.next.length fun k => pB (upd S1 a k) := by
       rw [tb_set han]
       refine tb_ext fun k _ => ?_
       unfold upd
       by_cases hka : k = a
       ·rw [if_pos hka, if_pos hka]
       ·rw [if_neg hka, if_neg hka]
      have htk : List.take ws.length (List.map (fun n => pI n) (toI ws) ++ ys) = List.map (fun n => pI n) (toI ws) := List.take_left' (by simp [toI])
      refine ⟨by omega, han, by omega, han, ⟨wf_ints [(a : Int)], by omega, by omega⟩, ⟨by omega, by omega⟩, (j + 1, upd S1 a, ws ++ [a], []), ?_, ⟨hjl, hA, by simp only [List.length_append, List.length_singleton]; omega⟩, by simp only; omega⟩
      rw [hup, htk]
      simp only [List.append_nil, toI_app, List.map_append, List.length_append, List.length_singleton]
      rfl
    ·rw [List.drop_of_length_le (by omega)] at hMj
     simp only [go_sem, B51_4, show ¬ (j : Int) < (B.length : Int) by omega]
     exact ⟨(S1, ws, ys), rfl, ⟨hMj.end_, by simp only; omega⟩, by simp only [List.length_append, List.length_singleton]; omega⟩
end Go.Vc
