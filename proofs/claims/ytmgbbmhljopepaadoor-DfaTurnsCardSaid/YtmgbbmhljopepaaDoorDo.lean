/- A part of the proofs of the seat YtmgbbmhljopepaaDoor: the contracts of functions, each proved out of its code. -/
import Derived.Test.YtmgbbmhljopepaaDoorVh
import Derived.Test.YtmgbbmhljopepaaDoorProg
import Derived.Test.YtmgbbmhljopepaaDoorDn
namespace Go.Vc
open Go.Proofs
set_option maxRecDepth 100000

/-- 'trystlaw07.DfaTurns' -/
def B7_0 : MC := (.seq (.seq (.reg [⟨(some 26), none, (.q (.mv (.t 8)))⟩, ⟨(some 27), none, (.q (.mv (.t 0)))⟩, ⟨(some 28), none, (.q (.len (.t 27) false))⟩, ⟨(some 29), none, (.q (.bin .lss (.t 26)
  (.t 28)))⟩] [] [0, 1, 2, 7, 8, 29] [44, 1019, 1021, 2007]) (.cond (.t 29) .skip (.exit 0))) (.seq (.block 1 (.reg [⟨(some 32), none, (.q (.mv (.t 7)))⟩, ⟨(some 33), none, (.q (.mv (.t 0)))⟩,
  ⟨(some 34), none, (.q (.mv (.t 8)))⟩, ⟨(some 35), none, (.q (.mv (.t 2)))⟩, ⟨(some 36), none, (.q (.conv .i64 (.t 35)))⟩, ⟨(some 37), none, (.q (.bin .add (.t 34) (.t 36)))⟩, ⟨(some 38), none,
  (.q (.mv (.t 0)))⟩, ⟨(some 39), none, (.q (.len (.t 38) false))⟩, ⟨(some 40), none, (.q (.bin .rem (.t 37) (.t 39)))⟩, ⟨(some 41), none, (.q (.ia (.t 33) (.t 40) 1))⟩, ⟨(some 42), none,
  (.q (.ld (.t 41) 1 false))⟩, ⟨(some 43), none, (.lits [(.t 42)] 1)⟩, ⟨(some 44), none, (.app (.t 32) (.t 43) 1 16)⟩, ⟨(some 7), none, (.q (.mv (.t 44)))⟩] [] [0, 1, 2, 7, 8] [44, 1019, 1021, 2007]))
  (.reg [⟨(some 30), none, (.q (.mv (.t 8)))⟩, ⟨(some 31), none, (.q (.bin .add (.t 30) (.c (.int .i64 1))))⟩, ⟨(some 8), none, (.q (.mv (.t 31)))⟩] [] [0, 1, 2, 7, 8] [44, 1019, 1021, 2007])))
def B7_1 : MC := (.seq (.seq (.reg [⟨(some 68), none, (.q (.mv (.t 16)))⟩, ⟨(some 69), none, (.q (.mv (.t 13)))⟩, ⟨(some 70), none, (.q (.len (.t 69) false))⟩, ⟨(some 71), none, (.q (.bin .lss (.t 68)
  (.t 70)))⟩] [] [0, 2, 9, 11, 13, 14, 15, 16, 71] [9, 11, 67, 1019, 1047, 1052, 1063, 1066]) (.cond (.t 71) .skip (.exit 2))) (.seq (.block 3 (.reg [⟨(some 74), none, (.q (.mv (.t 15)))⟩, ⟨(some 75),
  none, (.q (.mv (.t 13)))⟩, ⟨(some 76), none, (.q (.mv (.t 16)))⟩, ⟨(some 77), none, (.q (.ia (.t 75) (.t 76) 1))⟩, ⟨(some 78), none, (.q (.ld (.t 77) 1 false))⟩, ⟨none, none, (.mset (.t 74) (.t 78)
  (.c (.bool true)) Kk.int)⟩] [] [0, 2, 9, 11, 13, 14, 15, 16] [9, 11, 67, 1019, 1047, 1052, 1063, 1066])) (.reg [⟨(some 72), none, (.q (.mv (.t 16)))⟩, ⟨(some 73), none, (.q (.bin .add (.t 72)
  (.c (.int .i64 1))))⟩, ⟨(some 16), none, (.q (.mv (.t 73)))⟩] [] [0, 2, 9, 11, 13, 14, 15, 16] [9, 11, 67, 1019, 1047, 1052, 1063, 1066])))
def B7_2 : MC := (.seq (.seq (.reg [⟨(some 79), none, (.q (.mv (.t 17)))⟩, ⟨(some 80), none, (.q (.mv (.t 14)))⟩, ⟨(some 81), none, (.q (.len (.t 80) false))⟩, ⟨(some 82), none, (.q (.bin .lss (.t 79)
  (.t 81)))⟩] [] [0, 2, 9, 11, 13, 14, 15, 17, 82] [9, 11, 67, 1019, 1047, 1052, 1063, 1066]) (.cond (.t 82) .skip (.exit 4))) (.seq (.block 5 (.seq (.reg [⟨(some 85), none, (.q (.mv (.t 15)))⟩,
  ⟨(some 86), none, (.q (.mv (.t 14)))⟩, ⟨(some 87), none, (.q (.mv (.t 17)))⟩, ⟨(some 88), none, (.q (.ia (.t 86) (.t 87) 1))⟩, ⟨(some 89), none, (.q (.ld (.t 88) 1 false))⟩, ⟨(some 90), none,
  (.q (.mv (.t 2)))⟩, ⟨(some 91), none, (.q (.conv .i64 (.t 90)))⟩, ⟨(some 92), none, (.q (.bin .add (.t 89) (.t 91)))⟩, ⟨(some 93), none, (.q (.mv (.t 0)))⟩, ⟨(some 94), none, (.q (.len (.t 93)
  false))⟩, ⟨(some 95), none, (.q (.bin .rem (.t 92) (.t 94)))⟩, ⟨(some 96), none, (.q (.mget (.t 85) (.t 95) false Kk.int (.pv (.sc (.bool false)))))⟩, ⟨(some 97), none, (.q (.not (.t 96)))⟩] [] [0,
  2, 9, 11, 13, 14, 15, 17, 97] [9, 11, 67, 1019, 1047, 1052, 1063, 1066]) (.cond (.t 97) (.seq (.reg [⟨(some 6), none, (.q (.mv (.c (.bool false))))⟩] [] [6] [1025, 1060, 1105, 1107, 1111]) .ret)
  .skip))) (.reg [⟨(some 83), none, (.q (.mv (.t 17)))⟩, ⟨(some 84), none, (.q (.bin .add (.t 83) (.c (.int .i64 1))))⟩, ⟨(some 17), none, (.q (.mv (.t 84)))⟩] [] [0, 2, 9, 11, 13, 14, 15, 17] [9, 11,
  67, 1019, 1047, 1052, 1063, 1066])))
def R7_2 : MC := (.seq (.reg [⟨(some 98), none, (.q (.mv (.t 13)))⟩, ⟨(some 99), none, (.q (.len (.t 98) false))⟩, ⟨(some 100), none, (.q (.mv (.t 14)))⟩, ⟨(some 101), none, (.q (.len (.t 100)
  false))⟩, ⟨(some 102), none, (.q (.bin .eql (.t 99) (.t 101)))⟩, ⟨(some 103), none, (.q (.mv (.t 102)))⟩, ⟨(some 104), (some (103, true)), (.q (.ld (.t 9) 3 true))⟩, ⟨(some 106), (some (103, true)),
  (.q (.ld (.t 11) 3 true))⟩, ⟨(some 105), (some (103, true)), (.call (.f 25) [(.t 104)])⟩, ⟨(some 107), (some (103, true)), (.call (.f 25) [(.t 106)])⟩, ⟨(some 108), (some (103, true)),
  (.q (.bin .eql (.t 105) (.t 107)))⟩, ⟨(some 109), none, (.q (.pick (.t 103) (.t 108) (.c (.bool false))))⟩, ⟨(some 110), none, (.q (.mv (.t 109)))⟩, ⟨(some 111), (some (110, true)), (.call (.f 22)
  [])⟩, ⟨(some 112), none, (.q (.pick (.t 110) (.t 111) (.c (.bool false))))⟩, ⟨(some 6), none, (.q (.mv (.t 112)))⟩] [] [6] [1025, 1060, 1105, 1107, 1111]) .ret)
def R7_1 : MC := (.seq (.seq (.reg [⟨(some 17), none, (.q (.mv (.c (.int .i64 0))))⟩] [] [0, 2, 9, 11, 13, 14, 15, 17] [9, 11, 67, 1019, 1047, 1052, 1063, 1066]) (.block 4 (.loop B7_2))) R7_2)
def R7_0 : MC := (.seq (.reg [⟨(some 46), none, (.q (.mv (.t 0)))⟩, ⟨(some 47), none, (.call (.f 20) [(.t 46), (.c (.int .i64 200))])⟩, ⟨(some 45), none, (.q (.mv (.t 47)))⟩, ⟨(some 48), none,
  (.q (.ext (.t 45) 0))⟩, ⟨(some 49), none, (.q (.ext (.t 45) 1))⟩, ⟨(some 9), none, (.alloc [.e0, .e0, .e0])⟩, ⟨none, none, (.st (.t 9) (.t 48) 3)⟩, ⟨(some 10), none, (.q (.mv (.t 49)))⟩] [] [0, 1,
  2, 7, 9, 10] [9, 44, 1019, 1021, 1047, 2007]) (.seq (.reg [⟨(some 51), none, (.q (.mv (.t 7)))⟩, ⟨(some 52), none, (.call (.f 20) [(.t 51), (.c (.int .i64 200))])⟩, ⟨(some 50), none,
  (.q (.mv (.t 52)))⟩, ⟨(some 53), none, (.q (.ext (.t 50) 0))⟩, ⟨(some 54), none, (.q (.ext (.t 50) 1))⟩, ⟨(some 11), none, (.alloc [.e0, .e0, .e0])⟩, ⟨none, none, (.st (.t 11) (.t 53) 3)⟩,
  ⟨(some 12), none, (.q (.mv (.t 54)))⟩] [] [0, 1, 2, 9, 10, 11, 12] [9, 11, 1019, 1021, 1047, 1052]) (.seq (.seq (.reg [⟨(some 55), none, (.q (.mv (.t 10)))⟩, ⟨(some 56), none, (.q (.mv (.t 12)))⟩,
  ⟨(some 57), none, (.q (.bin .neq (.t 55) (.t 56)))⟩] [] [0, 1, 2, 9, 10, 11, 57] [9, 11, 1019, 1021, 1047, 1052]) (.cond (.t 57) (.seq (.reg [⟨(some 6), none,
  (.q (.mv (.c (.bool false))))⟩] [] [6] [1025, 1060, 1105, 1107, 1111]) .ret) .skip)) (.seq (.seq (.reg [⟨(some 58), none, (.q (.mv (.t 10)))⟩, ⟨(some 59), none, (.q (.bin .neq (.t 58)
  (.c (.int .i64 0))))⟩] [] [0, 1, 2, 9, 11, 59] [9, 11, 1019, 1021, 1047, 1052]) (.cond (.t 59) (.seq (.reg [⟨(some 60), none, (.call (.f 22) [])⟩, ⟨(some 6), none, (.q (.mv (.t 60)))⟩] [] [6] [1025,
  1060, 1105, 1107, 1111]) .ret) .skip)) (.seq (.reg [⟨(some 61), none, (.q (.ld (.t 9) 3 true))⟩, ⟨(some 62), none, (.q (.mv (.t 1)))⟩, ⟨(some 64), none, (.q (.ld (.t 11) 3 true))⟩, ⟨(some 65), none,
  (.q (.mv (.t 1)))⟩, ⟨(some 63), none, (.call (.f 21) [(.t 61), (.t 62)])⟩, ⟨(some 66), none, (.call (.f 21) [(.t 64), (.t 65)])⟩, ⟨(some 13), none, (.q (.mv (.t 63)))⟩, ⟨(some 14), none,
  (.q (.mv (.t 66)))⟩] [] [0, 2, 9, 11, 13, 14] [9, 11, 1019, 1047, 1052, 1063, 1066]) (.seq (.reg [⟨(some 67), none, .mkm⟩, ⟨(some 15), none, (.q (.mv (.t 67)))⟩] [] [0, 2, 9, 11, 13, 14, 15] [9, 11,
  67, 1019, 1047, 1052, 1063, 1066]) (.seq (.seq (.reg [⟨(some 16), none, (.q (.mv (.c (.int .i64 0))))⟩] [] [0, 2, 9, 11, 13, 14, 15, 16] [9, 11, 67, 1019, 1047, 1052, 1063, 1066])
  (.block 2 (.loop B7_1))) R7_1)))))))
def M7 : MC := (.seq (.reg [⟨(some 6), none, (.q (.mv (.c (.bool false))))⟩] [] [0, 1, 2] [1019, 1021]) (.seq (.reg [⟨(some 18), none, (.q (.mv (.t 0)))⟩, ⟨(some 19), none, (.call (.f 18) [(.t 18)])⟩,
  ⟨(some 20), none, (.q (.mv (.t 1)))⟩, ⟨(some 21), none, (.call (.f 19) [(.t 20)])⟩, ⟨(some 0), none, (.q (.mv (.t 19)))⟩, ⟨(some 1), none, (.q (.mv (.t 21)))⟩] [] [0, 1, 2] [1019, 1021])
  (.seq (.seq (.reg [⟨(some 22), none, (.q (.mv (.t 0)))⟩, ⟨(some 23), none, (.q (.len (.t 22) false))⟩, ⟨(some 24), none, (.q (.bin .eql (.t 23) (.c (.int .i64 0))))⟩] [] [0, 1, 2, 24] [1019, 1021])
  (.cond (.t 24) (.seq (.reg [⟨(some 25), none, (.call (.f 22) [])⟩, ⟨(some 6), none, (.q (.mv (.t 25)))⟩] [] [6] [1025, 1060, 1105, 1107, 1111]) .ret) .skip)) (.seq (.reg [⟨(some 7), none,
  (.q (.mv .nil))⟩] [(7, 2007, 1)] [0, 1, 2, 7] [44, 1019, 1021, 2007]) (.seq (.seq (.reg [⟨(some 8), none, (.q (.mv (.c (.int .i64 0))))⟩] [] [0, 1, 2, 7, 8] [44, 1019, 1021, 2007])
  (.block 0 (.loop B7_0))) R7_0)))))
theorem mc7 : ofCode Tryd.prog [] Tryd.f7.ntmps [(0, ⟨[0, 1, 2], [1019, 1021], [], 0, [], none⟩),
    (1, ⟨[0, 1, 2], [1019, 1021], [], 0, [], none⟩),
    (2, ⟨[0, 1, 2, 24], [1019, 1021], [], 0, [], none⟩),
    (3, ⟨[6], [1025, 1060, 1105, 1107, 1111], [], 0, [], none⟩),
    (4, ⟨[0, 1, 2, 7], [44, 1019, 1021, 2007], [], 0, [(7, 2007, 1)], none⟩),
    (5, ⟨[0, 1, 2, 7, 8], [44, 1019, 1021, 2007], [], 0, [], none⟩),
    (6, ⟨[0, 1, 2, 7, 8, 29], [44, 1019, 1021, 2007], [], 0, [], none⟩),
    (7, ⟨[0, 1, 2, 7, 8], [44, 1019, 1021, 2007], [], 0, [], none⟩),
    (8, ⟨[0, 1, 2, 7, 8], [44, 1019, 1021, 2007], [], 0, [], none⟩),
    (9, ⟨[0, 1, 2, 7, 9, 10], [9, 44, 1019, 1021, 1047, 2007], [], 0, [], none⟩),
    (10, ⟨[0, 1, 2, 9, 10, 11, 12], [9, 11, 1019, 1021, 1047, 1052], [], 0, [], none⟩),
    (11, ⟨[0, 1, 2, 9, 10, 11, 57], [9, 11, 1019, 1021, 1047, 1052], [], 0, [], none⟩),
    (12, ⟨[6], [1025, 1060, 1105, 1107, 1111], [], 0, [], none⟩),
    (13, ⟨[0, 1, 2, 9, 11, 59], [9, 11, 1019, 1021, 1047, 1052], [], 0, [], none⟩),
    (14, ⟨[6], [1025, 1060, 1105, 1107, 1111], [], 0, [], none⟩),
    (15, ⟨[0, 2, 9, 11, 13, 14], [9, 11, 1019, 1047, 1052, 1063, 1066], [(0, 229), (1, 230), (3, 232), (4, 240), (2, 0), (5, 0), (6, 192), (7, 128)], 255, [], none⟩),
    (16, ⟨[0, 2, 9, 11, 13, 14, 15], [9, 11, 67, 1019, 1047, 1052, 1063, 1066], [], 0, [], none⟩),
    (17, ⟨[0, 2, 9, 11, 13, 14, 15, 16], [9, 11, 67, 1019, 1047, 1052, 1063, 1066], [], 0, [], none⟩),
    (18, ⟨[0, 2, 9, 11, 13, 14, 15, 16, 71], [9, 11, 67, 1019, 1047, 1052, 1063, 1066], [], 0, [], none⟩),
    (19, ⟨[0, 2, 9, 11, 13, 14, 15, 16], [9, 11, 67, 1019, 1047, 1052, 1063, 1066], [], 0, [], none⟩),
    (20, ⟨[0, 2, 9, 11, 13, 14, 15, 16], [9, 11, 67, 1019, 1047, 1052, 1063, 1066], [], 0, [], none⟩),
    (21, ⟨[0, 2, 9, 11, 13, 14, 15, 17], [9, 11, 67, 1019, 1047, 1052, 1063, 1066], [], 0, [], none⟩),
    (22, ⟨[0, 2, 9, 11, 13, 14, 15, 17, 82], [9, 11, 67, 1019, 1047, 1052, 1063, 1066], [], 0, [], none⟩),
    (23, ⟨[0, 2, 9, 11, 13, 14, 15, 17], [9, 11, 67, 1019, 1047, 1052, 1063, 1066], [], 0, [], none⟩),
    (24, ⟨[0, 2, 9, 11, 13, 14, 15, 17, 97], [9, 11, 67, 1019, 1047, 1052, 1063, 1066], [], 0, [], none⟩),
    (25, ⟨[6], [1025, 1060, 1105, 1107, 1111], [], 0, [], none⟩),
    (26, ⟨[6], [1025, 1060, 1105, 1107, 1111], [(0, 65523), (1, 65522), (2, 65532), (3, 65528), (4, 65520), (5, 65504), (6, 65216), (8, 65280), (7, 0), (9, 0), (10, 64512), (11, 63488), (12, 61440), (13, 0), (14, 49152), (15, 32768)], 65535, [], none⟩)] (Tryd.f7.body.getD .skip) = some M7 := by kernel_rfl
theorem Run7 {args : List PV} {v : AV} {rs : List (Nat × List PV)} (ids : List Bool) (h : args.length ≤ 113) (hv : run Tryd.prog (retK [RV.tmp 6] ids v rs) M7 [] ⟨entry 0 args, []⟩) : Fn Tryd.prog 7 args v rs :=
  Fn_run ids (by kernel_rfl) Tryd.func7 (by decide) rfl mc7 (by kernel_rfl) (by rw [Tryd.ntmps7]; exact h) (by rw [Tryd.ntmps7]; decide) hv

end Go.Vc

namespace Go.Vc
open Go.Proofs
set_option linter.unusedSimpArgs false
set_option linter.unusedVariables false

/-! ## DfaTurns -/
def rotL (l : List ByteArray) (u : Nat) (m : Nat) : List ByteArray := (List.range m).map fun i => l.getD ((i + u) % l.length) ⟨#[]⟩
theorem rotL_len (l : List ByteArray) (u m : Nat) : (rotL l u m).length = m := by simp [rotL]
theorem rotL_succ (l : List ByteArray) (u m : Nat) : rotL l u (m + 1) = rotL l u m ++ [l.getD ((m + u) % l.length) ⟨#[]⟩] := by simp [rotL, List.range_succ]
/-- every place is come to once -/
theorem rot_perm {n : Nat} (hn : 0 < n) (u : Nat) : ((List.range n).map fun i => (i + u) % n).Perm (List.range n) := by
  obtain ⟨v, hv⟩ : ∃ v, v = u % n := ⟨_, rfl⟩
  have hvn : v < n := by rw [hv]; exact Nat.mod_lt _ hn
  have e1 : (fun i => (i + u) % n) = fun i => (i + v) % n := funext fun i => by rw [hv, Nat.add_mod_mod]
  rw [e1]
  have e2 : List.range n = List.range (n - v) ++ (List.range v).map (fun j => (n - v) + j) := by rw [← List.range_add, show n - v + v = n by omega]
  have e3 : List.range n = List.range v ++ (List.range (n - v)).map (fun j => v + j) := by rw [← List.range_add, show v + (n - v) = n by omega]
  have e4 : (List.range n).map (fun i => (i + v) % n) = (List.range (n - v)).map (fun j => v + j) ++ List.range v := by
    rw [e2, List.map_append, List.map_map]
    congr 1
    · refine List.map_congr_left fun i hi => ?_
      have := List.mem_range.1 hi
      rw [Nat.mod_eq_of_lt (by omega)]; omega
    · conv => rhs; rw [← List.map_id (List.range v)]
      refine List.map_congr_left fun i hi => ?_
      have := List.mem_range.1 hi
      simp only [Function.comp, id]
      rw [show n - v + i + v = i + n by omega, Nat.add_mod_right, Nat.mod_eq_of_lt (by omega)]
  rw [e4]
  conv => rhs; rw [e3]
  exact List.perm_append_comm
theorem rot_count {n : Nat} (hn : 0 < n) (u : Nat) (p : Nat → Bool) : ((List.range n).filter fun i => p ((i + u) % n)).length = ((List.range n).filter p).length := by
  have h := (rot_perm hn u).countP_eq p
  rw [List.countP_map] at h
  rw [← List.countP_eq_length_filter, ← List.countP_eq_length_filter]
  exact h
theorem rot_get {l : List ByteArray} {u i : Nat} (h : i < l.length) : (rotL l u l.length).getD i ⟨#[]⟩ = l.getD ((i + u) % l.length) ⟨#[]⟩ := by simp [rotL, List.getD_eq_getElem?_getD, h]
theorem rot_mem {l : List ByteArray} {u : Nat} {b : ByteArray} : b ∈ rotL l u l.length ↔ b ∈ l := by
  rcases Nat.eq_zero_or_pos l.length with h0 | h0
  · rw [List.eq_nil_of_length_eq_zero h0]; simp [rotL]
  · unfold rotL
    rw [List.mem_map]
    constructor
    · rintro ⟨i, _, rfl⟩
      have : (i + u) % l.length < l.length := Nat.mod_lt _ h0
      rw [List.getD_eq_getElem?_getD, List.getElem?_eq_getElem this]
      exact List.getElem_mem this
    · intro hb
      obtain ⟨j, hj, rfl⟩ := List.mem_iff_getElem.1 hb
      have : j ∈ (List.range l.length).map fun i => (i + u) % l.length := (rot_perm h0 u).mem_iff.2 (List.mem_range.2 hj)
      obtain ⟨i, hi, he⟩ := List.mem_map.1 this
      refine ⟨i, hi, ?_⟩
      rw [he]
      simp [List.getD_eq_getElem?_getD, hj]
theorem rot_good {l : List ByteArray} {u : Nat} : goodB (rotL l u l.length) = goodB l := by
  rw [Bool.eq_iff_iff, goodB_iff, goodB_iff, rotL_len]
  constructor
  · rintro ⟨h1, h2⟩; exact ⟨h1, fun b hb => h2 b (rot_mem.2 hb)⟩
  · rintro ⟨h1, h2⟩; exact ⟨h1, fun b hb => h2 b (rot_mem.1 hb)⟩
theorem rot_res {l : List ByteArray} {u : Nat} (t : List ByteArray) : resN ((rotL l u l.length).map cutS) t = (List.range l.length).filter fun i => decide ((i + u) % l.length ∈ resN (l.map cutS) t) := by
  unfold resN
  rw [List.length_map, rotL_len]
  refine List.filter_congr fun i hi => ?_
  have hil := List.mem_range.1 hi
  have hm : (i + u) % l.length < l.length := Nat.mod_lt _ (by omega)
  have e1 : ((rotL l u l.length).map cutS).getD i [] = cutS (l.getD ((i + u) % l.length) ⟨#[]⟩) := by
    rw [← rot_get hil]
    simp [List.getD_eq_getElem?_getD, rotL_len, hil]
  have e2 : (l.map cutS).getD ((i + u) % l.length) [] = cutS (l.getD ((i + u) % l.length) ⟨#[]⟩) := by
    simp [List.getD_eq_getElem?_getD, hm]
  rw [e1, Bool.eq_iff_iff, decide_eq_true_iff, List.mem_filter, List.mem_range, List.length_map, e2]
  exact ⟨fun h => ⟨hm, h⟩, fun h => h.2⟩
theorem rot_sub {l : List ByteArray} {u : Nat} : (∀ p ∈ (rotL l u l.length).map cutS, p ∈ l.map cutS) ∧ ∀ p ∈ l.map cutS, p ∈ (rotL l u l.length).map cutS := by
  constructor
  · intro p hp
    obtain ⟨b, hb, rfl⟩ := List.mem_map.1 hp
    exact List.mem_map.2 ⟨b, rot_mem.1 hb, rfl⟩
  · intro p hp
    obtain ⟨b, hb, rfl⟩ := List.mem_map.1 hp
    exact List.mem_map.2 ⟨b, rot_mem.2 hb, rfl⟩
theorem ofE_low {l : List ByteArray} {most : Int} (hg : goodB l = true) (hm : most < 1) : ofE l most = 1 := by unfold ofE dfaE; rw [if_pos hg, if_pos hm]
theorem ofE_bad {l : List ByteArray} {most : Int} (hg : goodB l = false) : ofE l most = 1 := by unfold ofE; rw [hg]; rfl
theorem ofE_full {l : List ByteArray} {most : Int} (hg : goodB l = true) (hm : ¬ most < 1) (h : dfaK (nfaOf (l.map cutS)) most.toNat = none) : ofE l most = 6 := by unfold ofE dfaE; rw [if_pos hg, if_neg hm, h]; rfl
theorem ofE_some {l : List ByteArray} {most : Int} {k : Nat} (hg : goodB l = true) (hm : ¬ most < 1) (h : dfaK (nfaOf (l.map cutS)) most.toNat = some k) : OfOk l most k := by
  obtain ⟨w, hp, hl⟩ := dfaK_some h
  exact ⟨hg, by unfold ofE dfaE; rw [if_pos hg, if_neg hm, h]; rfl, by unfold ofR dfaR; rw [if_pos hg, if_neg hm, h]; rfl, w, hp, by omega, h⟩
theorem sub_ok {l l' : List ByteArray} {most : Int} {k : Nat} (hg : goodB l' = true) (s1 : ∀ p ∈ l'.map cutS, p ∈ l.map cutS) (s2 : ∀ p ∈ l.map cutS, p ∈ l'.map cutS) (h : OfOk l most k) : OfOk l' most k := by
  have hm := h.le
  have hp := h.pos
  have hlt : ¬ most < 1 := by omega
  cases hk : dfaK (nfaOf (l'.map cutS)) most.toNat with
  | some k2 =>
    have h2 := ofE_some hg hlt hk
    have c1 := count_sub s1 (j := k2) h.whole
    have c2 := count_sub s2 (j := k) h2.whole
    rw [h2.whole.len] at c1
    rw [h.whole.len] at c2
    have : k2 = k := by omega
    rw [this] at h2; exact h2
  | none =>
    exfalso
    obtain ⟨j, hj⟩ := dfaK_none (by omega) hk
    have := count_sub s1 (j := j) h.whole
    omega
/-- the error is the same, and so is the number of states -/
theorem rot_ok {l : List ByteArray} {u k : Nat} {most : Int} (h : OfOk l most k) : OfOk (rotL l u l.length) most k := sub_ok (by rw [rot_good]; exact h.good) rot_sub.1 rot_sub.2 h
theorem rot_e {l : List ByteArray} {u : Nat} (most : Int) : ofE (rotL l u l.length) most = ofE l most := by
  have hg := rot_good (l := l) (u := u)
  cases hgd : goodB l with
  | false => rw [hgd] at hg; rw [ofE_bad hgd, ofE_bad hg]
  | true =>
    rw [hgd] at hg
    by_cases hm : most < 1
    · rw [ofE_low hgd hm, ofE_low hg hm]
    · cases hk : dfaK (nfaOf (l.map cutS)) most.toNat with
      | some k =>
        have h := ofE_some hgd hm hk
        rw [h.e, (rot_ok (u := u) h).e]
      | none =>
        cases hk2 : dfaK (nfaOf ((rotL l u l.length).map cutS)) most.toNat with
        | some k2 =>
          have h2 := ofE_some hg hm hk2
          have h := sub_ok (l := rotL l u l.length) (l' := l) hgd rot_sub.2 rot_sub.1 h2
          have := h.fin
          rw [hk] at this; cases this
        | none => rw [ofE_full hgd hm hk, ofE_full hg hm hk2]
theorem rot_AB {l : List ByteArray} {u : Nat} (h0 : 0 < l.length) (t : ByteArray) {A B : List Nat} (hA : A = if topicB t = true then resN (l.map cutS) (partsB t) else []) (hB : B = if topicB t = true then resN ((rotL l u l.length).map cutS) (partsB t) else []) :
    (∀ b ∈ B, (b + u) % l.length ∈ A) ∧ B.length = A.length ∧ A.Pairwise (· < ·) ∧ A.length ≤ l.length ∧ (∀ b ∈ B, b < l.length) := by
  subst hA; subst hB
  split
  · have hr := rot_res (l := l) (u := u) (partsB t)
    have hl : (resN (l.map cutS) (partsB t)).length ≤ l.length := by have := resN_len (l.map cutS) (partsB t); simpa using this
    refine ⟨fun b hb => ?_, ?_, resN_ris _ _, hl, fun b hb => ?_⟩
    · rw [hr, List.mem_filter, decide_eq_true_iff] at hb
      exact hb.2
    · rw [hr, rot_count h0 u fun x => decide (x ∈ resN (l.map cutS) (partsB t))]
      congr 1
      refine risI_ext (range_filter_ris _ _) (resN_ris _ _) fun y => ?_
      rw [List.mem_filter, List.mem_range, decide_eq_true_iff]
      exact ⟨fun h => h.2, fun h => ⟨by have := resN_lt h; simpa using this, h⟩⟩
    · rw [hr, List.mem_filter, List.mem_range] at hb
      exact hb.1
  · simp
theorem law7 (bs : List ByteArray) (t : ByteArray) (u : Nat) (hb : bs.length ≤ 9223372036854775807) (hu : u ≤ 255) : Fn Tryd.prog 7 [ss bs, pS t, p8 u] (.pv (pB true)) [] := by
  refine Run7 [] (by simp) ?_
  simp only [go_sem, Nat.reduceEqDiff, Nat.reduceBEq, Nat.reduceAdd, Nat.reduceMul, Nat.reduceSub, Nat.reduceLeDiff, Nat.reduceLT, reduceIte, reduceCtorEq, Int.reduceToNat, Int.reduceLE, Int.reduceLT, Int.reduceNeg, Bool.not_not, and_self, Bool.and_eq_false_iff, Int.cast_ofNat_Int, Int.reduceAdd, Int.reduceSub, Int.reduceMul, Int.reduceEq, Int.reduceNe, M7]
  refine runR_call (by simp only [go_sem, Nat.reduceEqDiff, Nat.reduceBEq, Nat.reduceAdd, Nat.reduceMul, Nat.reduceSub, Nat.reduceLeDiff, Nat.reduceLT, reduceIte, reduceCtorEq, Int.reduceToNat, Int.reduceLE, Int.reduceLT, Int.reduceNeg, Bool.not_not, and_self, Bool.and_eq_false_iff, Int.cast_ofNat_Int, Int.reduceAdd, Int.reduceSub, Int.reduceMul, Int.reduceEq, Int.reduceNe]) rfl (fn18 bs hb) (.inl rfl) trivial ?_
  simp only [go_sem, Nat.reduceEqDiff, Nat.reduceBEq, Nat.reduceAdd, Nat.reduceMul, Nat.reduceSub, Nat.reduceLeDiff, Nat.reduceLT, reduceIte, reduceCtorEq, Int.reduceToNat, Int.reduceLE, Int.reduceLT, Int.reduceNeg, Bool.not_not, and_self, Bool.and_eq_false_iff, Int.cast_ofNat_Int, Int.reduceAdd, Int.reduceSub, Int.reduceMul, Int.reduceEq, Int.reduceNe]
  refine runR_callf (by simp only [go_sem, Nat.reduceEqDiff, Nat.reduceBEq, Nat.reduceAdd, Nat.reduceMul, Nat.reduceSub, Nat.reduceLeDiff, Nat.reduceLT, reduceIte, reduceCtorEq, Int.reduceToNat, Int.reduceLE, Int.reduceLT, Int.reduceNeg, Bool.not_not, and_self, Bool.and_eq_false_iff, Int.cast_ofNat_Int, Int.reduceAdd, Int.reduceSub, Int.reduceMul, Int.reduceEq, Int.reduceNe]) (by simp only [go_sem, Nat.reduceEqDiff, Nat.reduceBEq, Nat.reduceAdd, Nat.reduceMul, Nat.reduceSub, Nat.reduceLeDiff, Nat.reduceLT, reduceIte, reduceCtorEq, Int.reduceToNat, Int.reduceLE, Int.reduceLT, Int.reduceNeg, Bool.not_not, and_self, Bool.and_eq_false_iff, Int.cast_ofNat_Int, Int.reduceAdd, Int.reduceSub, Int.reduceMul, Int.reduceEq, Int.reduceNe] <;> rfl) (fn19 t) ⟨rfl, trivial⟩ trivial ?_
  simp only [go_sem, Nat.reduceEqDiff, Nat.reduceBEq, Nat.reduceAdd, Nat.reduceMul, Nat.reduceSub, Nat.reduceLeDiff, Nat.reduceLT, reduceIte, reduceCtorEq, Int.reduceToNat, Int.reduceLE, Int.reduceLT, Int.reduceNeg, Bool.not_not, and_self, Bool.and_eq_false_iff, Int.cast_ofNat_Int, Int.reduceAdd, Int.reduceSub, Int.reduceMul, Int.reduceEq, Int.reduceNe]
  have hl := globs7_len bs
  have hts : (fewS t).size ≤ 1000 := by have := fewS_size t; omega
  have hsz : ∀ b ∈ globs7 bs, b.size ≤ 1000 := fun b hb => by have := globs7_size hb; omega
  generalize globs7 bs = gl at hl hsz
  generalize fewS t = q at hts
  by_cases h0 : gl.length = 0
  · simp only [go_sem, Nat.reduceEqDiff, Nat.reduceBEq, Nat.reduceAdd, Nat.reduceMul, Nat.reduceSub, Nat.reduceLeDiff, Nat.reduceLT, reduceIte, reduceCtorEq, Int.reduceToNat, Int.reduceLE, Int.reduceLT, Int.reduceNeg, Bool.not_not, and_self, Bool.and_eq_false_iff, Int.cast_ofNat_Int, Int.reduceAdd, Int.reduceSub, Int.reduceMul, Int.reduceEq, Int.reduceNe, h0]
    refine runR_callf (by simp only [go_sem, Nat.reduceEqDiff, Nat.reduceBEq, Nat.reduceAdd, Nat.reduceMul, Nat.reduceSub, Nat.reduceLeDiff, Nat.reduceLT, reduceIte, reduceCtorEq, Int.reduceToNat, Int.reduceLE, Int.reduceLT, Int.reduceNeg, Bool.not_not, and_self, Bool.and_eq_false_iff, Int.cast_ofNat_Int, Int.reduceAdd, Int.reduceSub, Int.reduceMul, Int.reduceEq, Int.reduceNe]) (by simp only [go_sem, Nat.reduceEqDiff, Nat.reduceBEq, Nat.reduceAdd, Nat.reduceMul, Nat.reduceSub, Nat.reduceLeDiff, Nat.reduceLT, reduceIte, reduceCtorEq, Int.reduceToNat, Int.reduceLE, Int.reduceLT, Int.reduceNeg, Bool.not_not, and_self, Bool.and_eq_false_iff, Int.cast_ofNat_Int, Int.reduceAdd, Int.reduceSub, Int.reduceMul, Int.reduceEq, Int.reduceNe] <;> rfl) (fn22) ⟨rfl, trivial⟩ trivial ?_
    simp only [go_sem, Nat.reduceEqDiff, Nat.reduceBEq, Nat.reduceAdd, Nat.reduceMul, Nat.reduceSub, Nat.reduceLeDiff, Nat.reduceLT, reduceIte, reduceCtorEq, Int.reduceToNat, Int.reduceLE, Int.reduceLT, Int.reduceNeg, Bool.not_not, and_self, Bool.and_eq_false_iff, Int.cast_ofNat_Int, Int.reduceAdd, Int.reduceSub, Int.reduceMul, Int.reduceEq, Int.reduceNe]
  have hp : 0 < gl.length := by omega
  simp only [go_sem, Nat.reduceEqDiff, Nat.reduceBEq, Nat.reduceAdd, Nat.reduceMul, Nat.reduceSub, Nat.reduceLeDiff, Nat.reduceLT, reduceIte, reduceCtorEq, Int.reduceToNat, Int.reduceLE, Int.reduceLT, Int.reduceNeg, Bool.not_not, and_self, Bool.and_eq_false_iff, Int.cast_ofNat_Int, Int.reduceAdd, Int.reduceSub, Int.reduceMul, Int.reduceEq, Int.reduceNe, show ¬ (gl.length : Int) = 0 by omega]
  have keyR : ∀ i, List.take i ((rotL gl u i).map pS) = (rotL gl u i).map pS := fun i => List.take_of_length_le (by simp [rotL_len])
  refine run_loopG (T := Nat) (fun i => if i = gl.length then [(2007, 2007, 0)] else []) [0, 1, 2, 7, 8] [2007]
    (fun i => if i = gl.length then ⟨[(0, .pv (ss gl)), (1, .pv (pS q)), (2, .pv (p8 u)), (7, .pv (ss (rotL gl u i))), (8, .pv (pI i))], []⟩
      else ⟨[(0, .pv (ss gl)), (1, .pv (pS q)), (2, .pv (p8 u)), (7, .row 2007 0 i), (8, .pv (pI i))], [(2007, .sl 1 ((rotL gl u i).map pS))]⟩) (fun i => i ≤ gl.length) (fun i => gl.length - i) 0 ?_ (Nat.zero_le _) ?_
  · rw [if_neg (show ¬ 0 = gl.length by omega)]
    simp only [go_sem, Nat.reduceEqDiff, Nat.reduceBEq, Nat.reduceAdd, Nat.reduceMul, Nat.reduceSub, Nat.reduceLeDiff, Nat.reduceLT, reduceIte, reduceCtorEq, Int.reduceToNat, Int.reduceLE, Int.reduceLT, Int.reduceNeg, Bool.not_not, and_self, Bool.and_eq_false_iff, Int.cast_ofNat_Int, Int.reduceAdd, Int.reduceSub, Int.reduceMul, Int.reduceEq, Int.reduceNe, show ¬ 0 = gl.length by omega]
    rfl
  intro i hi
  by_cases hlt : i < gl.length
  · rw [if_neg (show ¬ i = gl.length by omega)]
    have hm : (i + u) % gl.length < gl.length := Nat.mod_lt _ hp
    have hmod : ((i : Int) + (u : Int)).tmod (gl.length : Int) = (((i + u) % gl.length : Nat) : Int) := by
      rw [Int.tmod_eq_emod_of_nonneg (by omega), Int.natCast_emod, Int.natCast_add]
    have hg : gl[(i + u) % gl.length] = gl.getD ((i + u) % gl.length) ⟨#[]⟩ := by simp [List.getD_eq_getElem?_getD, hm]
    have hrs := rotL_succ gl u i
    have hky := keyR (i + 1)
    simp only [go_sem, Nat.reduceEqDiff, Nat.reduceBEq, Nat.reduceAdd, Nat.reduceMul, Nat.reduceSub, Nat.reduceLeDiff, Nat.reduceLT, reduceIte, reduceCtorEq, Int.reduceToNat, Int.reduceLE, Int.reduceLT, Int.reduceNeg, Bool.not_not, and_self, Bool.and_eq_false_iff, Int.cast_ofNat_Int, Int.reduceAdd, Int.reduceSub, Int.reduceMul, Int.reduceEq, Int.reduceNe, B7_0, show (i : Int) < (gl.length : Int) by omega, hmod, wf_ss, getD_map hm, hg, keyR i, show ¬ (gl.length : Int) = 0 by omega, show (((i + u) % gl.length : Nat) : Int) < (gl.length : Int) by omega]
    refine ⟨⟨by omega, by omega⟩, ⟨by omega, by omega⟩, by omega, ⟨wf_ss [_], by omega, by omega⟩, ⟨by omega, by omega⟩, i + 1, ?_, hlt, by omega⟩
    have hsi : (i : Int) + 1 = ((i + 1 : Nat) : Int) := by omega
    have hX : (rotL gl u i).map pS ++ [pS (gl.getD ((i + u) % gl.length) ⟨#[]⟩)] = (rotL gl u (i + 1)).map pS := by rw [hrs, List.map_append]; rfl
    rw [hX, hsi]
    unfold GH
    by_cases h9 : i + 1 = gl.length
    · rw [if_pos h9, if_pos h9]
      simp only [go_sem, Nat.reduceEqDiff, Nat.reduceBEq, Nat.reduceAdd, Nat.reduceMul, Nat.reduceSub, Nat.reduceLeDiff, Nat.reduceLT, reduceIte, reduceCtorEq, Int.reduceToNat, Int.reduceLE, Int.reduceLT, Int.reduceNeg, Bool.not_not, and_self, Bool.and_eq_false_iff, Int.cast_ofNat_Int, Int.reduceAdd, Int.reduceSub, Int.reduceMul, Int.reduceEq, Int.reduceNe, hky]
    · rw [if_neg h9, if_neg h9]
      simp only [go_sem, Nat.reduceEqDiff, Nat.reduceBEq, Nat.reduceAdd, Nat.reduceMul, Nat.reduceSub, Nat.reduceLeDiff, Nat.reduceLT, reduceIte, reduceCtorEq, Int.reduceToNat, Int.reduceLE, Int.reduceLT, Int.reduceNeg, Bool.not_not, and_self, Bool.and_eq_false_iff, Int.cast_ofNat_Int, Int.reduceAdd, Int.reduceSub, Int.reduceMul, Int.reduceEq, Int.reduceNe]
  · have hie : i = gl.length := by omega
    subst hie
    rw [if_pos rfl]
    have r1 := fn20 gl 200 (by omega) hsz (by omega)
    have r2 := fn20 (rotL gl u gl.length) 200 (by rw [rotL_len]; omega) (fun b hb => hsz b (rot_mem.1 hb)) (by omega)
    have he := rot_e (l := gl) (u := u) 200
    rw [he] at r2
    simp only [go_sem, Nat.reduceEqDiff, Nat.reduceBEq, Nat.reduceAdd, Nat.reduceMul, Nat.reduceSub, Nat.reduceLeDiff, Nat.reduceLT, reduceIte, reduceCtorEq, Int.reduceToNat, Int.reduceLE, Int.reduceLT, Int.reduceNeg, Bool.not_not, and_self, Bool.and_eq_false_iff, Int.cast_ofNat_Int, Int.reduceAdd, Int.reduceSub, Int.reduceMul, Int.reduceEq, Int.reduceNe, B7_0, R7_0, show ¬ (gl.length : Int) < (gl.length : Int) by omega]
    refine runR_call (by simp only [go_sem, Nat.reduceEqDiff, Nat.reduceBEq, Nat.reduceAdd, Nat.reduceMul, Nat.reduceSub, Nat.reduceLeDiff, Nat.reduceLT, reduceIte, reduceCtorEq, Int.reduceToNat, Int.reduceLE, Int.reduceLT, Int.reduceNeg, Bool.not_not, and_self, Bool.and_eq_false_iff, Int.cast_ofNat_Int, Int.reduceAdd, Int.reduceSub, Int.reduceMul, Int.reduceEq, Int.reduceNe]) rfl (r1) (.inl rfl) trivial ?_
    simp only [go_sem, Nat.reduceEqDiff, Nat.reduceBEq, Nat.reduceAdd, Nat.reduceMul, Nat.reduceSub, Nat.reduceLeDiff, Nat.reduceLT, reduceIte, reduceCtorEq, Int.reduceToNat, Int.reduceLE, Int.reduceLT, Int.reduceNeg, Bool.not_not, and_self, Bool.and_eq_false_iff, Int.cast_ofNat_Int, Int.reduceAdd, Int.reduceSub, Int.reduceMul, Int.reduceEq, Int.reduceNe]
    refine runR_call (by simp only [go_sem, Nat.reduceEqDiff, Nat.reduceBEq, Nat.reduceAdd, Nat.reduceMul, Nat.reduceSub, Nat.reduceLeDiff, Nat.reduceLT, reduceIte, reduceCtorEq, Int.reduceToNat, Int.reduceLE, Int.reduceLT, Int.reduceNeg, Bool.not_not, and_self, Bool.and_eq_false_iff, Int.cast_ofNat_Int, Int.reduceAdd, Int.reduceSub, Int.reduceMul, Int.reduceEq, Int.reduceNe]) rfl (r2) (.inl rfl) trivial ?_
    rcases of_cases gl 200 with ⟨k, h⟩ | ⟨h1, h2, _⟩
    · have g := rot_ok (u := u) h
      have ra := fn21 (ofR gl 200) q (sm_of _ _ (by omega)) hts
      have rb := fn21 (ofR (rotL gl u gl.length) 200) q (sm_of _ _ (by omega)) hts
      rw [of_res h] at ra
      rw [of_res g] at rb
      have rc := fn25 (ofR gl 200)
      have rd := fn25 (ofR (rotL gl u gl.length) 200)
      rw [of_len h] at rc
      rw [of_len g] at rd
      rw [h.e]
      clear h g he
      obtain ⟨A, hA⟩ : ∃ A, A = (if topicB q = true then resN (gl.map cutS) (partsB q) else []) := ⟨_, rfl⟩
      obtain ⟨B, hB⟩ : ∃ B, B = (if topicB q = true then resN ((rotL gl u gl.length).map cutS) (partsB q) else []) := ⟨_, rfl⟩
      obtain ⟨hAB, hlen, hAr, hAl, hBlt⟩ := rot_AB hp q hA hB
      rw [← hA] at ra
      rw [← hB] at rb
      clear hA hB
      generalize ofR gl 200 = d1 at *
      generalize ofR (rotL gl u gl.length) 200 = d2 at *
      have hAI : (toI A).length = A.length := by simp [toI]
      have hBI : (toI B).length = B.length := by simp [toI]
      simp only [go_sem, Nat.reduceEqDiff, Nat.reduceBEq, Nat.reduceAdd, Nat.reduceMul, Nat.reduceSub, Nat.reduceLeDiff, Nat.reduceLT, reduceIte, reduceCtorEq, Int.reduceToNat, Int.reduceLE, Int.reduceLT, Int.reduceNeg, Bool.not_not, and_self, Bool.and_eq_false_iff, Int.cast_ofNat_Int, Int.reduceAdd, Int.reduceSub, Int.reduceMul, Int.reduceEq, Int.reduceNe]
      refine runR_call (by simp only [go_sem, Nat.reduceEqDiff, Nat.reduceBEq, Nat.reduceAdd, Nat.reduceMul, Nat.reduceSub, Nat.reduceLeDiff, Nat.reduceLT, reduceIte, reduceCtorEq, Int.reduceToNat, Int.reduceLE, Int.reduceLT, Int.reduceNeg, Bool.not_not, and_self, Bool.and_eq_false_iff, Int.cast_ofNat_Int, Int.reduceAdd, Int.reduceSub, Int.reduceMul, Int.reduceEq, Int.reduceNe]) rfl (ra) (.inl rfl) trivial ?_
      simp only [go_sem, Nat.reduceEqDiff, Nat.reduceBEq, Nat.reduceAdd, Nat.reduceMul, Nat.reduceSub, Nat.reduceLeDiff, Nat.reduceLT, reduceIte, reduceCtorEq, Int.reduceToNat, Int.reduceLE, Int.reduceLT, Int.reduceNeg, Bool.not_not, and_self, Bool.and_eq_false_iff, Int.cast_ofNat_Int, Int.reduceAdd, Int.reduceSub, Int.reduceMul, Int.reduceEq, Int.reduceNe]
      refine runR_call (by simp only [go_sem, Nat.reduceEqDiff, Nat.reduceBEq, Nat.reduceAdd, Nat.reduceMul, Nat.reduceSub, Nat.reduceLeDiff, Nat.reduceLT, reduceIte, reduceCtorEq, Int.reduceToNat, Int.reduceLE, Int.reduceLT, Int.reduceNeg, Bool.not_not, and_self, Bool.and_eq_false_iff, Int.cast_ofNat_Int, Int.reduceAdd, Int.reduceSub, Int.reduceMul, Int.reduceEq, Int.reduceNe]) rfl (rb) (.inl rfl) trivial ?_
      simp only [go_sem, Nat.reduceEqDiff, Nat.reduceBEq, Nat.reduceAdd, Nat.reduceMul, Nat.reduceSub, Nat.reduceLeDiff, Nat.reduceLT, reduceIte, reduceCtorEq, Int.reduceToNat, Int.reduceLE, Int.reduceLT, Int.reduceNeg, Bool.not_not, and_self, Bool.and_eq_false_iff, Int.cast_ofNat_Int, Int.reduceAdd, Int.reduceSub, Int.reduceMul, Int.reduceEq, Int.reduceNe]
      refine run_loopN (T := Nat) [0, 2, 9, 11, 13, 14, 15, 16] [9, 11, 67] (fun i => ⟨[(0, .pv (ss gl)), (2, .pv (p8 u)), (9, .ptr 9 0), (11, .ptr 11 0), (13, .pv (pNs A)), (14, .pv (pNs B)), (15, .mp 67), (16, .pv (pI i))],
          [(9, .box [.pv (ss d1.signs), .pv (.lst (d1.next.map ints)), .pv (.lst (d1.done.map pNs))]), (11, .box [.pv (ss d2.signs), .pv (.lst (d2.next.map ints)), .pv (.lst (d2.done.map pNs))]), (67, .mp ((A.take i).map enB))]⟩)
        (fun i => i ≤ A.length) (fun i => A.length - i) 0 rfl (Nat.zero_le _) ?_
      intro i hi
      have hnd : A.Nodup := hAr.imp fun h => by omega
      by_cases hin : i < A.length
      · have hiI : (toI A)[i]'(by simp [toI]; exact hin) = (A[i] : Int) := by simp [toI]
        have hnew : A[i] ∉ A.take i := fun hm => by
          obtain ⟨j, hj, he⟩ := List.mem_iff_getElem.1 hm
          have hj' : j < i := by simp at hj; omega
          rw [List.getElem_take] at he
          have := List.pairwise_iff_getElem.1 hAr j i (by omega) hin hj'
          omega
        simp only [go_sem, Nat.reduceEqDiff, Nat.reduceBEq, Nat.reduceAdd, Nat.reduceMul, Nat.reduceSub, Nat.reduceLeDiff, Nat.reduceLT, reduceIte, reduceCtorEq, Int.reduceToNat, Int.reduceLE, Int.reduceLT, Int.reduceNeg, Bool.not_not, and_self, Bool.and_eq_false_iff, Int.cast_ofNat_Int, Int.reduceAdd, Int.reduceSub, Int.reduceMul, Int.reduceEq, Int.reduceNe, B7_1, show (i : Int) < (A.length : Int) by omega, hAI, wf_ints, getD_map (show i < (toI A).length by simp [toI]; exact hin), hiI, mput_B _ hnew, like_B]
        refine ⟨⟨by omega, by omega⟩, i + 1, ?_, hin, by omega⟩
        rw [List.take_succ_eq_append_getElem hin]; rfl
      · have hie : i = A.length := by omega
        subst hie
        rw [List.take_length]
        simp only [go_sem, Nat.reduceEqDiff, Nat.reduceBEq, Nat.reduceAdd, Nat.reduceMul, Nat.reduceSub, Nat.reduceLeDiff, Nat.reduceLT, reduceIte, reduceCtorEq, Int.reduceToNat, Int.reduceLE, Int.reduceLT, Int.reduceNeg, Bool.not_not, and_self, Bool.and_eq_false_iff, Int.cast_ofNat_Int, Int.reduceAdd, Int.reduceSub, Int.reduceMul, Int.reduceEq, Int.reduceNe, B7_1, R7_1, show ¬ (A.length : Int) < (A.length : Int) by omega, hAI]
        refine run_loopN (T := Nat) [0, 2, 9, 11, 13, 14, 15, 17] [9, 11, 67] (fun i => ⟨[(0, .pv (ss gl)), (2, .pv (p8 u)), (9, .ptr 9 0), (11, .ptr 11 0), (13, .pv (pNs A)), (14, .pv (pNs B)), (15, .mp 67), (17, .pv (pI i))],
            [(9, .box [.pv (ss d1.signs), .pv (.lst (d1.next.map ints)), .pv (.lst (d1.done.map pNs))]), (11, .box [.pv (ss d2.signs), .pv (.lst (d2.next.map ints)), .pv (.lst (d2.done.map pNs))]), (67, .mp (A.map enB))]⟩)
          (fun i => i ≤ B.length) (fun i => B.length - i) 0 rfl (Nat.zero_le _) ?_
        intro j hj
        by_cases hjl : j < B.length
        · have hjI : (toI B)[j]'(by simp [toI]; exact hjl) = (B[j] : Int) := by simp [toI]
          have hbm := hAB _ (List.getElem_mem hjl)
          have hbl := hBlt _ (List.getElem_mem hjl)
          generalize B[j] = b at hjI hbm hbl
          have hmod : ((b : Int) + (u : Int)).tmod (gl.length : Int) = (((b + u) % gl.length : Nat) : Int) := by
            rw [Int.tmod_eq_emod_of_nonneg (by omega), Int.natCast_emod, Int.natCast_add]
          have hlk : lkp (pI (((b + u) % gl.length : Nat) : Int)) (A.map enB) = some (pB true) := by rw [lkp_B, if_pos hbm]
          simp only [go_sem, Nat.reduceEqDiff, Nat.reduceBEq, Nat.reduceAdd, Nat.reduceMul, Nat.reduceSub, Nat.reduceLeDiff, Nat.reduceLT, reduceIte, reduceCtorEq, Int.reduceToNat, Int.reduceLE, Int.reduceLT, Int.reduceNeg, Bool.not_not, and_self, Bool.and_eq_false_iff, Int.cast_ofNat_Int, Int.reduceAdd, Int.reduceSub, Int.reduceMul, Int.reduceEq, Int.reduceNe, B7_2, show (j : Int) < (B.length : Int) by omega, hBI, wf_ints, getD_map (show j < (toI B).length by simp [toI]; exact hjl), hjI, hmod, hlk, like_B, show ¬ (gl.length : Int) = 0 by omega]
          exact ⟨⟨by omega, by omega⟩, ⟨by omega, by omega⟩, by omega, ⟨by omega, by omega⟩, j + 1, rfl, hjl, by omega⟩
        · simp only [go_sem, Nat.reduceEqDiff, Nat.reduceBEq, Nat.reduceAdd, Nat.reduceMul, Nat.reduceSub, Nat.reduceLeDiff, Nat.reduceLT, reduceIte, reduceCtorEq, Int.reduceToNat, Int.reduceLE, Int.reduceLT, Int.reduceNeg, Bool.not_not, and_self, Bool.and_eq_false_iff, Int.cast_ofNat_Int, Int.reduceAdd, Int.reduceSub, Int.reduceMul, Int.reduceEq, Int.reduceNe, B7_2, R7_2, show ¬ (j : Int) < (A.length : Int) by omega, hAI, hBI, hlen]

          refine runR_callgf (by simp only [go_sem, Nat.reduceEqDiff, Nat.reduceBEq, Nat.reduceAdd, Nat.reduceMul, Nat.reduceSub, Nat.reduceLeDiff, Nat.reduceLT, reduceIte, reduceCtorEq, Int.reduceToNat, Int.reduceLE, Int.reduceLT, Int.reduceNeg, Bool.not_not, and_self, Bool.and_eq_false_iff, Int.cast_ofNat_Int, Int.reduceAdd, Int.reduceSub, Int.reduceMul, Int.reduceEq, Int.reduceNe]) (by simp only [go_sem, Nat.reduceEqDiff, Nat.reduceBEq, Nat.reduceAdd, Nat.reduceMul, Nat.reduceSub, Nat.reduceLeDiff, Nat.reduceLT, reduceIte, reduceCtorEq, Int.reduceToNat, Int.reduceLE, Int.reduceLT, Int.reduceNeg, Bool.not_not, and_self, Bool.and_eq_false_iff, Int.cast_ofNat_Int, Int.reduceAdd, Int.reduceSub, Int.reduceMul, Int.reduceEq, Int.reduceNe]) (by simp only [go_sem, Nat.reduceEqDiff, Nat.reduceBEq, Nat.reduceAdd, Nat.reduceMul, Nat.reduceSub, Nat.reduceLeDiff, Nat.reduceLT, reduceIte, reduceCtorEq, Int.reduceToNat, Int.reduceLE, Int.reduceLT, Int.reduceNeg, Bool.not_not, and_self, Bool.and_eq_false_iff, Int.cast_ofNat_Int, Int.reduceAdd, Int.reduceSub, Int.reduceMul, Int.reduceEq, Int.reduceNe] <;> rfl) (fun _ => rc) rfl ?_
          simp only [go_sem, Nat.reduceEqDiff, Nat.reduceBEq, Nat.reduceAdd, Nat.reduceMul, Nat.reduceSub, Nat.reduceLeDiff, Nat.reduceLT, reduceIte, reduceCtorEq, Int.reduceToNat, Int.reduceLE, Int.reduceLT, Int.reduceNeg, Bool.not_not, and_self, Bool.and_eq_false_iff, Int.cast_ofNat_Int, Int.reduceAdd, Int.reduceSub, Int.reduceMul, Int.reduceEq, Int.reduceNe]
          refine runR_callgf (by simp only [go_sem, Nat.reduceEqDiff, Nat.reduceBEq, Nat.reduceAdd, Nat.reduceMul, Nat.reduceSub, Nat.reduceLeDiff, Nat.reduceLT, reduceIte, reduceCtorEq, Int.reduceToNat, Int.reduceLE, Int.reduceLT, Int.reduceNeg, Bool.not_not, and_self, Bool.and_eq_false_iff, Int.cast_ofNat_Int, Int.reduceAdd, Int.reduceSub, Int.reduceMul, Int.reduceEq, Int.reduceNe]) (by simp only [go_sem, Nat.reduceEqDiff, Nat.reduceBEq, Nat.reduceAdd, Nat.reduceMul, Nat.reduceSub, Nat.reduceLeDiff, Nat.reduceLT, reduceIte, reduceCtorEq, Int.reduceToNat, Int.reduceLE, Int.reduceLT, Int.reduceNeg, Bool.not_not, and_self, Bool.and_eq_false_iff, Int.cast_ofNat_Int, Int.reduceAdd, Int.reduceSub, Int.reduceMul, Int.reduceEq, Int.reduceNe]) (by simp only [go_sem, Nat.reduceEqDiff, Nat.reduceBEq, Nat.reduceAdd, Nat.reduceMul, Nat.reduceSub, Nat.reduceLeDiff, Nat.reduceLT, reduceIte, reduceCtorEq, Int.reduceToNat, Int.reduceLE, Int.reduceLT, Int.reduceNeg, Bool.not_not, and_self, Bool.and_eq_false_iff, Int.cast_ofNat_Int, Int.reduceAdd, Int.reduceSub, Int.reduceMul, Int.reduceEq, Int.reduceNe] <;> rfl) (fun _ => rd) rfl ?_
          simp only [go_sem, Nat.reduceEqDiff, Nat.reduceBEq, Nat.reduceAdd, Nat.reduceMul, Nat.reduceSub, Nat.reduceLeDiff, Nat.reduceLT, reduceIte, reduceCtorEq, Int.reduceToNat, Int.reduceLE, Int.reduceLT, Int.reduceNeg, Bool.not_not, and_self, Bool.and_eq_false_iff, Int.cast_ofNat_Int, Int.reduceAdd, Int.reduceSub, Int.reduceMul, Int.reduceEq, Int.reduceNe]
          refine runR_callgf (by simp only [go_sem, Nat.reduceEqDiff, Nat.reduceBEq, Nat.reduceAdd, Nat.reduceMul, Nat.reduceSub, Nat.reduceLeDiff, Nat.reduceLT, reduceIte, reduceCtorEq, Int.reduceToNat, Int.reduceLE, Int.reduceLT, Int.reduceNeg, Bool.not_not, and_self, Bool.and_eq_false_iff, Int.cast_ofNat_Int, Int.reduceAdd, Int.reduceSub, Int.reduceMul, Int.reduceEq, Int.reduceNe]) (by simp only [go_sem, Nat.reduceEqDiff, Nat.reduceBEq, Nat.reduceAdd, Nat.reduceMul, Nat.reduceSub, Nat.reduceLeDiff, Nat.reduceLT, reduceIte, reduceCtorEq, Int.reduceToNat, Int.reduceLE, Int.reduceLT, Int.reduceNeg, Bool.not_not, and_self, Bool.and_eq_false_iff, Int.cast_ofNat_Int, Int.reduceAdd, Int.reduceSub, Int.reduceMul, Int.reduceEq, Int.reduceNe]) (by simp only [go_sem, Nat.reduceEqDiff, Nat.reduceBEq, Nat.reduceAdd, Nat.reduceMul, Nat.reduceSub, Nat.reduceLeDiff, Nat.reduceLT, reduceIte, reduceCtorEq, Int.reduceToNat, Int.reduceLE, Int.reduceLT, Int.reduceNeg, Bool.not_not, and_self, Bool.and_eq_false_iff, Int.cast_ofNat_Int, Int.reduceAdd, Int.reduceSub, Int.reduceMul, Int.reduceEq, Int.reduceNe] <;> rfl) (fun _ => fn22) rfl ?_
          simp only [go_sem, Nat.reduceEqDiff, Nat.reduceBEq, Nat.reduceAdd, Nat.reduceMul, Nat.reduceSub, Nat.reduceLeDiff, Nat.reduceLT, reduceIte, reduceCtorEq, Int.reduceToNat, Int.reduceLE, Int.reduceLT, Int.reduceNeg, Bool.not_not, and_self, Bool.and_eq_false_iff, Int.cast_ofNat_Int, Int.reduceAdd, Int.reduceSub, Int.reduceMul, Int.reduceEq, Int.reduceNe]
    · generalize ofE gl 200 = e2 at h1 r1 r2 he
      simp only [go_sem, Nat.reduceEqDiff, Nat.reduceBEq, Nat.reduceAdd, Nat.reduceMul, Nat.reduceSub, Nat.reduceLeDiff, Nat.reduceLT, reduceIte, reduceCtorEq, Int.reduceToNat, Int.reduceLE, Int.reduceLT, Int.reduceNeg, Bool.not_not, and_self, Bool.and_eq_false_iff, Int.cast_ofNat_Int, Int.reduceAdd, Int.reduceSub, Int.reduceMul, Int.reduceEq, Int.reduceNe, h1]
      refine runR_callf (by simp only [go_sem, Nat.reduceEqDiff, Nat.reduceBEq, Nat.reduceAdd, Nat.reduceMul, Nat.reduceSub, Nat.reduceLeDiff, Nat.reduceLT, reduceIte, reduceCtorEq, Int.reduceToNat, Int.reduceLE, Int.reduceLT, Int.reduceNeg, Bool.not_not, and_self, Bool.and_eq_false_iff, Int.cast_ofNat_Int, Int.reduceAdd, Int.reduceSub, Int.reduceMul, Int.reduceEq, Int.reduceNe]) (by simp only [go_sem, Nat.reduceEqDiff, Nat.reduceBEq, Nat.reduceAdd, Nat.reduceMul, Nat.reduceSub, Nat.reduceLeDiff, Nat.reduceLT, reduceIte, reduceCtorEq, Int.reduceToNat, Int.reduceLE, Int.reduceLT, Int.reduceNeg, Bool.not_not, and_self, Bool.and_eq_false_iff, Int.cast_ofNat_Int, Int.reduceAdd, Int.reduceSub, Int.reduceMul, Int.reduceEq, Int.reduceNe] <;> rfl) (fn22) ⟨rfl, trivial⟩ trivial ?_
      simp only [go_sem, Nat.reduceEqDiff, Nat.reduceBEq, Nat.reduceAdd, Nat.reduceMul, Nat.reduceSub, Nat.reduceLeDiff, Nat.reduceLT, reduceIte, reduceCtorEq, Int.reduceToNat, Int.reduceLE, Int.reduceLT, Int.reduceNeg, Bool.not_not, and_self, Bool.and_eq_false_iff, Int.cast_ofNat_Int, Int.reduceAdd, Int.reduceSub, Int.reduceMul, Int.reduceEq, Int.reduceNe]
end Go.Vc
