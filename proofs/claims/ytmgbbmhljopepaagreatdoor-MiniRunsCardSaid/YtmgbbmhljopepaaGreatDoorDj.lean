/- A part of the proofs of the seat YtmgbbmhljopepaaGreatDoor: the contracts of functions, each proved out of its code. -/
import Derived.Test.YtmgbbmhljopepaaGreatDoorDg
import Derived.Test.YtmgbbmhljopepaaGreatDoorDh
import Derived.Test.YtmgbbmhljopepaaGreatDoorVh
import Derived.Test.YtmgbbmhljopepaaGreatDoorProg
import Derived.Test.YtmgbbmhljopepaaGreatDoorDi
namespace Go.Vc
set_option linter.unusedSimpArgs false
set_option linter.unusedVariables false
def stepO (d : DF) (o : Option Int) (q : ByteArray) : Option Int := match o with
 | none => none
 | some x => if 0 ≤ x ∧ x < d.next.length ∧ letterN d.signs q < (d.next.getD x.toNat []).length then some ((d.next.getD x.toNat []).getD (letterN d.signs q) 0) else none
def runO (d : DF) (t : List ByteArray) : Option Int := t.foldl (stepO d) (some 0)
theorem runO_snoc (d : DF) (t : List ByteArray) (q : ByteArray) : runO d (t ++ [q]) = stepO d (runO d t) q := by simp [runO]
theorem stepO_none (d : DF) : ∀ t : List ByteArray, t.foldl (stepO d) none = none
 | [] => rfl
 | q :: t => by rw [List.foldl_cons]; exact stepO_none d t
def endO (d : DF) : Option Int → List Nat
 | none => []
 | some x => if 0 ≤ x ∧ x < d.next.length ∧ x < d.done.length then d.done.getD x.toNat [] else []
def resO (d : DF) (t : List ByteArray) : List Nat := endO d (runO d t)
theorem idxS_lt {n : NF} {k : Nat} (h : Whole n k) (t : List ByteArray) : idxS n k t = -1 ∨ (0 ≤ idxS n k t ∧ idxS n k t < k) := by
 unfold idxS
 split
 ·exact .inl rfl
 ·rename_i hu
  right
  have hmem : walkN n t ∈ bfsL n k := by
   rcases h.walk t with h1 | h1
   ·obtain rfl : t = [] := by
     by_cases h2 : t = []
     ·exact h2
     ·exact absurd ⟨h1, h2⟩ hu
    refine (bfsL_pre n (Nat.zero_le k)).subset ?_
    simp [bfsL, walkN]
   ·exact h1
  have := List.idxOf_lt_length_of_mem hmem
  rw [h.len] at this
  omega
theorem next_len {n : NF} {k : Nat} : (dfaOf n k).next.length = k := by simp [dfaOf, bfsN]
theorem done_len {n : NF} {k : Nat} : (dfaOf n k).done.length = k := by simp [dfaOf, bfsD]
theorem next_row {n : NF} {k j : Nat} (h : j < k) : ((dfaOf n k).next.getD j []).length = n.wid := by
 simp only [dfaOf, bfsN]
 rw [List.getD_eq_getElem?_getD, List.getElem?_map, List.getElem?_range h]
 simp only [Option.map_some, Option.getD_some]
 exact rowN_len _ _ _ _
theorem runO_whole {n : NF} {k : Nat} (h : Whole n k) (t : List ByteArray) : runO (dfaOf n k) t = some (runD (dfaOf n k) t) ∨ (runO (dfaOf n k) t = none ∧ runD (dfaOf n k) t = -1) := by
 rcases List.eq_nil_or_concat t with rfl | ⟨u, q, rfl⟩
 ·exact .inl rfl
 ·rw [List.concat_eq_append, runO_snoc, runD_snoc]
  have hi := idxS_lt h u
  rw [← runD_idx h u] at hi
  rcases runO_whole h u with h1 | ⟨h1, h2⟩
  ·rw [h1]
   unfold stepO stepD
   rcases hi with hi | ⟨hi1, hi2⟩
   ·rw [hi]
    right
    simp
   ·left
    have hl := next_row (n := n) (k := k) (j := (runD (dfaOf n k) u).toNat) (by omega)
    have hle := letterN_le n.signs q
    have : 0 ≤ runD (dfaOf n k) u ∧ runD (dfaOf n k) u < ((dfaOf n k).next.length : Int) ∧ letterN (dfaOf n k).signs q < ((dfaOf n k).next.getD (runD (dfaOf n k) u).toNat []).length := by
     rw [next_len, hl]
     refine ⟨hi1, hi2, ?_⟩
     show letterN n.signs q < n.signs.length + 1
     omega
    dsimp only
    rw [if_pos this, if_neg (by omega)]
  ·rw [h1, h2]
   right
   exact ⟨rfl, by unfold stepD; simp⟩
termination_by t.length
decreasing_by subst_vars; simp
theorem resO_walk {n : NF} {k : Nat} (h : Whole n k) (t : List ByteArray) : resO (dfaOf n k) t = doneOf n (walkN n t) := by
 rw [← resD_walk h t]
 unfold resO resD
 have hi := idxS_lt h t
 rw [← runD_idx h t] at hi
 rcases runO_whole h t with h1 | ⟨h1, h2⟩
 ·rw [h1]
  unfold endO
  rw [next_len, done_len]
  rcases hi with hi | ⟨hi1, hi2⟩
  ·rw [hi]; simp
  ·dsimp only
   rw [if_pos ⟨hi1, hi2, hi2⟩, if_neg (by omega)]
 ·rw [h1, h2]; rfl
theorem done_res (gs : List (List ByteArray)) (t : List ByteArray) : doneOf (nfaOf gs) (walkN (nfaOf gs) t) = resN gs t := by
 refine risI_ext (range_filter_ris _ _) (resN_ris gs t) fun g => ?_
 rw [resN_mem]
 unfold doneOf
 rw [List.mem_filter, List.mem_range, List.any_eq_true]
 constructor
 ·rintro ⟨_, s, h1, h2⟩
  exact ⟨s, h1, by simpa using h2⟩
 ·rintro ⟨s, h1, h2⟩
  refine ⟨?_, s, h1, by simpa using h2⟩
  have hm : g ∈ resN gs t := resN_mem.2 ⟨s, h1, h2⟩
  have := resN_lt hm
  simp [nfaOf]; exact this
theorem resO_nfa {gs : List (List ByteArray)} {k : Nat} (h : Whole (nfaOf gs) k) (t : List ByteArray) : resO (dfaOf (nfaOf gs) k) t = resN gs t := by rw [resO_walk h, done_res]
end Go.Vc

namespace Go.Vc
open Go.Proofs
set_option maxRecDepth 100000
def M9 : MC := (.seq (.reg [⟨some 4, none, .alloc [.e0, .e0, .e0]⟩, ⟨some 5, none, .q (.mv (.c (.int .i64 0)))⟩] [] [0, 1, 4] [4, 1019]) (.seq (.reg [⟨some 9, none, .q (.mv (.t 0))⟩,
 ⟨some 10, none, .call (.f 13) [.t 9]⟩, ⟨some 8, none, .q (.mv (.t 10))⟩, ⟨some 11, none, .q (.ext (.t 8) 0)⟩, ⟨some 12, none, .q (.ext (.t 8) 1)⟩, ⟨some 6, none, .alloc [.e0,
 .e0, .e0, .e0]⟩, ⟨none, none, .st (.t 6) (.t 11) 4⟩, ⟨some 7, none, .q (.mv (.t 12))⟩] [] [1, 4, 6, 7] [4, 6, 1010, 1019]) (.seq (.seq (.reg [⟨some 13, none, .q (.mv (.t 7))⟩, ⟨some 14,
 none, .q (.bin .neq (.t 13) (.c (.int .i64 0)))⟩] [] [1, 4, 6, 7, 14] [4, 6, 1010, 1019]) (.cond (.t 14) (.seq (.reg [⟨some 15, none, .q (.mk [.e0, .e0, .e0] [])⟩, ⟨some 16, none,
 .q (.mv (.t 7))⟩, ⟨none, none, .st (.t 4) (.t 15) 3⟩, ⟨some 5, none, .q (.mv (.t 16))⟩] [] [4, 5] [4, 1010, 1019]) .ret) .skip)) (.seq (.reg [⟨some 17, none, .q (.ld (.t 6) 4 true)⟩,
 ⟨some 18, none, .q (.mv (.t 1))⟩, ⟨some 19, none, .call (.f 14) [.t 17, .t 18]⟩, ⟨some 20, none, .q (.ext (.t 19) 0)⟩, ⟨some 21, none, .q (.ext (.t 19) 1)⟩, ⟨none, none,
 .st (.t 4) (.t 20) 3⟩, ⟨some 5, none, .q (.mv (.t 21))⟩] [] [4, 5] [4, 1010, 1019]) .ret))))
theorem mc9 : ofCode Tryz.prog [] Tryz.f9.ntmps [(0, ⟨[0, 1, 4], [4, 1019], [], 0, [], none⟩),
  (1, ⟨[1, 4, 6, 7], [4, 6, 1010, 1019], [], 0, [], none⟩),
  (2, ⟨[1, 4, 6, 7, 14], [4, 6, 1010, 1019], [], 0, [], none⟩),
  (3, ⟨[4, 5], [4, 1010, 1019], [], 0, [], none⟩),
  (4, ⟨[4, 5], [4, 1010, 1019], [], 0, [], none⟩)] (Tryz.f9.body.getD .skip) = some M9 := by kernel_rfl
theorem Run9 {args : List PV} {v : AV} {rs : List (Nat × List PV)} (ids : List Bool) (h : args.length ≤ 22) (hv : run Tryz.prog (retK [RV.cell 4 3 true, RV.tmp 5] ids v rs) M9 [] ⟨entry 0 args, []⟩) : Fn Tryz.prog 9 args v rs :=
 Fn_run ids (by kernel_rfl) Tryz.func9 (by decide) rfl mc9 (by kernel_rfl) (by rw [Tryz.ntmps9]; exact h) (by rw [Tryz.ntmps9]; decide) hv
def B27_0 : MC := (.seq (.reg [⟨some 20, none, .q (.bin .lss (.t 19) (.t 18))⟩] [] [2, 5, 6, 17, 18, 19, 20] [2, 5, 1017]) (.seq (.cond (.t 20) .skip (.exit 0))
 (.seq (.block 1 (.seq (.reg [⟨some 21, none, .q (.ia (.t 17) (.t 19) 1)⟩, ⟨some 22, none, .q (.ld (.t 21) 1 false)⟩, ⟨some 8, none, .q (.mv (.t 22))⟩] [] [2, 5, 6, 8, 17, 18, 19] [2, 5,
 1017]) (.seq (.reg [⟨some 23, none, .q (.ld (.t 5) 4 true)⟩, ⟨some 24, none, .q (.mv (.t 8))⟩, ⟨some 25, none, .call (.f 57) [.t 23, .t 24]⟩, ⟨some 9, none,
 .q (.mv (.t 25))⟩] [] [2, 5, 6, 9, 17, 18, 19] [2, 5, 1017, 1025]) (.seq (.seq (.reg [⟨some 26, none, .q (.mv (.t 6))⟩, ⟨some 27, none, .q (.bin .lss (.t 26) (.c (.int .i64 0)))⟩,
 ⟨some 28, none, .q (.mv (.t 27))⟩, ⟨some 29, some (28, false), .q (.mv (.t 6))⟩, ⟨some 30, some (28, false), .q (.fa (.t 2) 1)⟩, ⟨some 31, some (28, false), .q (.ld (.t 30)
 1 false)⟩, ⟨some 32, some (28, false), .q (.len (.t 31) false)⟩, ⟨some 33, some (28, false), .q (.bin .geq (.t 29) (.t 32))⟩, ⟨some 34, none, .q (.pick (.t 28) (.c (.bool true))
 (.t 33))⟩, ⟨some 35, none, .q (.mv (.t 34))⟩, ⟨some 36, some (35, false), .q (.mv (.t 9))⟩, ⟨some 37, some (35, false), .q (.fa (.t 2) 1)⟩, ⟨some 38, some (35, false),
 .q (.ld (.t 37) 1 false)⟩, ⟨some 39, some (35, false), .q (.mv (.t 6))⟩, ⟨some 40, some (35, false), .q (.ia (.t 38) (.t 39) 1)⟩, ⟨some 41, some (35, false), .q (.ld (.t 40)
 1 false)⟩, ⟨some 42, some (35, false), .q (.len (.t 41) false)⟩, ⟨some 43, some (35, false), .q (.bin .geq (.t 36) (.t 42))⟩, ⟨some 44, none, .q (.pick (.t 35) (.c (.bool true))
 (.t 43))⟩] [] [2, 5, 6, 9, 17, 18, 19, 44] [2, 5, 1017, 1025]) (.cond (.t 44) (.seq (.reg [⟨some 4, none, .q (.mv .nil)⟩] [] [4] [1075]) .ret) .skip)) (.reg [⟨some 45, none, .q (.fa (.t 2)
 1)⟩, ⟨some 46, none, .q (.ld (.t 45) 1 false)⟩, ⟨some 47, none, .q (.mv (.t 6))⟩, ⟨some 48, none, .q (.ia (.t 46) (.t 47) 1)⟩, ⟨some 49, none, .q (.ld (.t 48) 1 false)⟩, ⟨some 50,
 none, .q (.mv (.t 9))⟩, ⟨some 51, none, .q (.ia (.t 49) (.t 50) 1)⟩, ⟨some 52, none, .q (.ld (.t 51) 1 false)⟩, ⟨some 6, none, .q (.mv (.t 52))⟩] [] [2, 5, 6, 17, 18, 19] [2, 5,
 1017]))))) (.reg [⟨some 53, none, .q (.bin .add (.t 19) (.c (.int .i64 1)))⟩, ⟨some 19, none, .q (.mv (.t 53))⟩] [] [2, 5, 6, 17, 18, 19] [2, 5, 1017]))))
def R27_0 : MC := (.seq (.seq (.reg [⟨some 54, none, .q (.mv (.t 6))⟩, ⟨some 55, none, .q (.bin .lss (.t 54) (.c (.int .i64 0)))⟩, ⟨some 56, none, .q (.mv (.t 55))⟩, ⟨some 57, some (56,
 false), .q (.mv (.t 6))⟩, ⟨some 58, some (56, false), .q (.fa (.t 2) 1)⟩, ⟨some 59, some (56, false), .q (.ld (.t 58) 1 false)⟩, ⟨some 60, some (56, false), .q (.len (.t 59)
 false)⟩, ⟨some 61, some (56, false), .q (.bin .geq (.t 57) (.t 60))⟩, ⟨some 62, none, .q (.pick (.t 56) (.c (.bool true)) (.t 61))⟩, ⟨some 63, none, .q (.mv (.t 62))⟩, ⟨some 64,
 some (63, false), .q (.mv (.t 6))⟩, ⟨some 65, some (63, false), .q (.fa (.t 2) 2)⟩, ⟨some 66, some (63, false), .q (.ld (.t 65) 1 false)⟩, ⟨some 67, some (63, false),
 .q (.len (.t 66) false)⟩, ⟨some 68, some (63, false), .q (.bin .geq (.t 64) (.t 67))⟩, ⟨some 69, none, .q (.pick (.t 63) (.c (.bool true)) (.t 68))⟩] [] [2, 6, 69] [2]) (.cond (.t 69)
 (.seq (.reg [⟨some 4, none, .q (.mv .nil)⟩] [] [4] [1075]) .ret) .skip)) (.seq (.reg [⟨some 70, none, .q (.fa (.t 2) 2)⟩, ⟨some 71, none, .q (.ld (.t 70) 1 false)⟩, ⟨some 72, none,
 .q (.mv (.t 6))⟩, ⟨some 73, none, .q (.ia (.t 71) (.t 72) 1)⟩, ⟨some 74, none, .q (.ld (.t 73) 1 false)⟩, ⟨some 75, none, .call (.f 53) [.t 74]⟩, ⟨some 4, none,
 .q (.mv (.t 75))⟩] [] [4] [1075]) .ret))
def M27 : MC := (.seq (.reg [⟨some 2, none, .box (.t 0)⟩, ⟨some 4, none, .q (.mv .nil)⟩] [] [1, 2] [2]) (.seq (.seq (.reg [⟨some 10, none, .q (.mv (.t 1))⟩, ⟨some 11, none,
 .call (.f 56) [.t 10]⟩, ⟨some 12, none, .q (.not (.t 11))⟩] [] [1, 2, 12] [2, 1011]) (.cond (.t 12) (.seq (.reg [⟨some 4, none, .q (.mv .nil)⟩] [] [4] [1075]) .ret) .skip))
 (.seq (.reg [⟨some 13, none, .q (.fa (.t 2) 0)⟩, ⟨some 14, none, .q (.ld (.t 13) 1 false)⟩, ⟨some 15, none, .q (.mk [.e0, .e0, .e0, .e0] [(0, 1, (.t 14))])⟩, ⟨some 5, none,
 .alloc [.e0, .e0, .e0, .e0]⟩, ⟨none, none, .st (.t 5) (.t 15) 4⟩] [] [1, 2, 5] [2, 5]) (.seq (.reg [⟨some 6, none, .q (.mv (.c (.int .i64 0)))⟩] [] [1, 2, 5, 6] [2, 5])
 (.seq (.seq (.reg [⟨some 16, none, .q (.mv (.t 1))⟩, ⟨some 17, none, .call (.f 41) [.t 16]⟩, ⟨some 18, none, .q (.len (.t 17) false)⟩, ⟨some 19, none,
 .q (.mv (.c (.int .i64 0)))⟩] [] [2, 5, 6, 17, 18, 19] [2, 5, 1017]) (.block 0 (.loop B27_0))) R27_0)))))
theorem mc27 : ofCode Tryz.prog [] Tryz.f27.ntmps [(0, ⟨[1, 2], [2], [], 0, [], none⟩),
  (1, ⟨[1, 2, 12], [2, 1011], [], 0, [], none⟩),
  (2, ⟨[4], [1075], [], 0, [], none⟩),
  (3, ⟨[1, 2, 5], [2, 5], [], 0, [], none⟩),
  (4, ⟨[1, 2, 5, 6], [2, 5], [], 0, [], none⟩),
  (5, ⟨[2, 5, 6, 17, 18, 19], [2, 5, 1017], [], 0, [], none⟩),
  (6, ⟨[2, 5, 6, 17, 18, 19, 20], [2, 5, 1017], [], 0, [], none⟩),
  (7, ⟨[2, 5, 6, 8, 17, 18, 19], [2, 5, 1017], [], 0, [], none⟩),
  (8, ⟨[2, 5, 6, 9, 17, 18, 19], [2, 5, 1017, 1025], [], 0, [], none⟩),
  (9, ⟨[2, 5, 6, 9, 17, 18, 19, 44], [2, 5, 1017, 1025], [], 0, [], none⟩),
  (10, ⟨[4], [1075], [], 0, [], none⟩),
  (11, ⟨[2, 5, 6, 17, 18, 19], [2, 5, 1017], [], 0, [], none⟩),
  (12, ⟨[2, 5, 6, 17, 18, 19], [2, 5, 1017], [], 0, [], none⟩),
  (13, ⟨[2, 6, 69], [2], [], 0, [], none⟩),
  (14, ⟨[4], [1075], [], 0, [], none⟩),
  (15, ⟨[4], [1075], [], 0, [], none⟩)] (Tryz.f27.body.getD .skip) = some M27 := by kernel_rfl
theorem Run27 {args : List PV} {v : AV} {rs : List (Nat × List PV)} (ids : List Bool) (h : args.length ≤ 76) (hv : run Tryz.prog (retK [RV.tmp 4] ids v rs) M27 [] ⟨entry 0 args, []⟩) : Fn Tryz.prog 27 args v rs :=
 Fn_run ids (by kernel_rfl) Tryz.func27 (by decide) rfl mc27 (by kernel_rfl) (by rw [Tryz.ntmps27]; exact h) (by rw [Tryz.ntmps27]; decide) hv
def B15_0 : MC := (.seq (.seq (.reg [⟨some 31, none, .q (.mv (.t 5))⟩, ⟨some 32, none, .q (.fa (.t 2) 1)⟩, ⟨some 33, none, .q (.ld (.t 32) 1 false)⟩, ⟨some 34, none, .q (.len (.t 33)
 false)⟩, ⟨some 35, none, .q (.bin .lss (.t 31) (.t 34))⟩] [] [2, 3, 5, 35] [2, 3]) (.cond (.t 35) .skip (.exit 0))) (.seq (.block 1 (.seq (.reg [⟨some 38, none, .q (.fa (.t 2) 1)⟩,
 ⟨some 39, none, .q (.ld (.t 38) 1 false)⟩, ⟨some 40, none, .q (.mv (.t 5))⟩, ⟨some 41, none, .q (.ia (.t 39) (.t 40) 1)⟩, ⟨some 42, none, .q (.ld (.t 41) 1 false)⟩, ⟨some 43, none,
 .q (.fa (.t 3) 1)⟩, ⟨some 44, none, .q (.ld (.t 43) 1 false)⟩, ⟨some 45, none, .q (.mv (.t 5))⟩, ⟨some 46, none, .q (.ia (.t 44) (.t 45) 1)⟩, ⟨some 47, none, .q (.ld (.t 46)
 1 false)⟩, ⟨some 48, none, .call (.f 26) [.t 42, .t 47]⟩, ⟨some 49, none, .q (.not (.t 48))⟩] [] [2, 3, 5, 49] [2, 3, 1048]) (.cond (.t 49) (.seq (.reg [⟨some 4, none,
 .q (.mv (.c (.bool false)))⟩] [] [4] []) .ret) .skip))) (.reg [⟨some 36, none, .q (.mv (.t 5))⟩, ⟨some 37, none, .q (.bin .add (.t 36) (.c (.int .i64 1)))⟩, ⟨some 5, none,
 .q (.mv (.t 37))⟩] [] [2, 3, 5] [2, 3])))
def B15_1 : MC := (.seq (.seq (.reg [⟨some 50, none, .q (.mv (.t 6))⟩, ⟨some 51, none, .q (.fa (.t 2) 2)⟩, ⟨some 52, none, .q (.ld (.t 51) 1 false)⟩, ⟨some 53, none, .q (.len (.t 52)
 false)⟩, ⟨some 54, none, .q (.bin .lss (.t 50) (.t 53))⟩] [] [2, 3, 6, 54] [2, 3]) (.cond (.t 54) .skip (.exit 2))) (.seq (.block 3 (.seq (.reg [⟨some 57, none, .q (.fa (.t 2) 2)⟩,
 ⟨some 58, none, .q (.ld (.t 57) 1 false)⟩, ⟨some 59, none, .q (.mv (.t 6))⟩, ⟨some 60, none, .q (.ia (.t 58) (.t 59) 1)⟩, ⟨some 61, none, .q (.ld (.t 60) 1 false)⟩, ⟨some 62, none,
 .q (.fa (.t 3) 2)⟩, ⟨some 63, none, .q (.ld (.t 62) 1 false)⟩, ⟨some 64, none, .q (.mv (.t 6))⟩, ⟨some 65, none, .q (.ia (.t 63) (.t 64) 1)⟩, ⟨some 66, none, .q (.ld (.t 65)
 1 false)⟩, ⟨some 67, none, .call (.f 26) [.t 61, .t 66]⟩, ⟨some 68, none, .q (.not (.t 67))⟩] [] [2, 3, 6, 68] [2, 3, 1067]) (.cond (.t 68) (.seq (.reg [⟨some 4, none,
 .q (.mv (.c (.bool false)))⟩] [] [4] []) .ret) .skip))) (.reg [⟨some 55, none, .q (.mv (.t 6))⟩, ⟨some 56, none, .q (.bin .add (.t 55) (.c (.int .i64 1)))⟩, ⟨some 6, none,
 .q (.mv (.t 56))⟩] [] [2, 3, 6] [2, 3])))
def R15_1 : MC := (.seq (.reg [⟨some 4, none, .q (.mv (.c (.bool true)))⟩] [] [4] []) .ret)
def R15_0 : MC := (.seq (.seq (.reg [⟨some 6, none, .q (.mv (.c (.int .i64 0)))⟩] [] [2, 3, 6] [2, 3]) (.block 2 (.loop B15_1))) R15_1)
def M15 : MC := (.seq (.reg [⟨some 2, none, .box (.t 0)⟩, ⟨some 3, none, .box (.t 1)⟩, ⟨some 4, none, .q (.mv (.c (.bool false)))⟩] [] [2, 3] [2, 3]) (.seq (.seq (.reg [⟨some 7, none,
 .q (.fa (.t 2) 0)⟩, ⟨some 8, none, .q (.ld (.t 7) 1 false)⟩, ⟨some 9, none, .q (.fa (.t 3) 0)⟩, ⟨some 10, none, .q (.ld (.t 9) 1 false)⟩, ⟨some 11, none, .call (.f 50) [.t 8,
 .t 10]⟩, ⟨some 12, none, .q (.not (.t 11))⟩, ⟨some 13, none, .q (.mv (.t 12))⟩, ⟨some 14, some (13, false), .q (.fa (.t 2) 1)⟩, ⟨some 15, some (13, false), .q (.ld (.t 14)
 1 false)⟩, ⟨some 16, some (13, false), .q (.len (.t 15) false)⟩, ⟨some 17, some (13, false), .q (.fa (.t 3) 1)⟩, ⟨some 18, some (13, false), .q (.ld (.t 17) 1 false)⟩, ⟨some 19,
 some (13, false), .q (.len (.t 18) false)⟩, ⟨some 20, some (13, false), .q (.bin .neq (.t 16) (.t 19))⟩, ⟨some 21, none, .q (.pick (.t 13) (.c (.bool true)) (.t 20))⟩, ⟨some 22,
 none, .q (.mv (.t 21))⟩, ⟨some 23, some (22, false), .q (.fa (.t 2) 2)⟩, ⟨some 24, some (22, false), .q (.ld (.t 23) 1 false)⟩, ⟨some 25, some (22, false), .q (.len (.t 24)
 false)⟩, ⟨some 26, some (22, false), .q (.fa (.t 3) 2)⟩, ⟨some 27, some (22, false), .q (.ld (.t 26) 1 false)⟩, ⟨some 28, some (22, false), .q (.len (.t 27) false)⟩, ⟨some 29,
 some (22, false), .q (.bin .neq (.t 25) (.t 28))⟩, ⟨some 30, none, .q (.pick (.t 22) (.c (.bool true)) (.t 29))⟩] [] [2, 3, 30] [2, 3, 1011]) (.cond (.t 30) (.seq (.reg [⟨some 4, none,
 .q (.mv (.c (.bool false)))⟩] [] [4] []) .ret) .skip)) (.seq (.seq (.reg [⟨some 5, none, .q (.mv (.c (.int .i64 0)))⟩] [] [2, 3, 5] [2, 3]) (.block 0 (.loop B15_0))) R15_0)))
theorem mc15 : ofCode Tryz.prog [] Tryz.f15.ntmps [(0, ⟨[2, 3], [2, 3], [], 0, [], none⟩),
  (1, ⟨[2, 3, 30], [2, 3, 1011], [], 0, [], none⟩),
  (2, ⟨[4], [], [], 0, [], none⟩),
  (3, ⟨[2, 3, 5], [2, 3], [], 0, [], none⟩),
  (4, ⟨[2, 3, 5, 35], [2, 3], [], 0, [], none⟩),
  (5, ⟨[2, 3, 5], [2, 3], [], 0, [], none⟩),
  (6, ⟨[2, 3, 5, 49], [2, 3, 1048], [(0, 3099), (1, 3098), (2, 3100), (3, 3096), (4, 3088), (5, 3936), (6, 3904), (7, 3968), (8, 3840), (9, 3584), (10, 0), (11, 2048)], 4095, [], none⟩),
  (7, ⟨[4], [], [], 0, [], none⟩),
  (8, ⟨[2, 3, 6], [2, 3], [], 0, [], none⟩),
  (9, ⟨[2, 3, 6, 54], [2, 3], [], 0, [], none⟩),
  (10, ⟨[2, 3, 6], [2, 3], [], 0, [], none⟩),
  (11, ⟨[2, 3, 6, 68], [2, 3, 1067], [(0, 3099), (1, 3098), (2, 3100), (3, 3096), (4, 3088), (5, 3936), (6, 3904), (7, 3968), (8, 3840), (9, 3584), (10, 0), (11, 2048)], 4095, [], none⟩),
  (12, ⟨[4], [], [], 0, [], none⟩),
  (13, ⟨[4], [], [], 0, [], none⟩)] (Tryz.f15.body.getD .skip) = some M15 := by kernel_rfl
theorem Run15 {args : List PV} {v : AV} {rs : List (Nat × List PV)} (ids : List Bool) (h : args.length ≤ 69) (hv : run Tryz.prog (retK [RV.tmp 4] ids v rs) M15 [] ⟨entry 0 args, []⟩) : Fn Tryz.prog 15 args v rs :=
 Fn_run ids (by kernel_rfl) Tryz.func15 (by decide) rfl mc15 (by kernel_rfl) (by rw [Tryz.ntmps15]; exact h) (by rw [Tryz.ntmps15]; decide) hv
end Go.Vc

namespace Go.Vc
open Go.Proofs
set_option linter.unusedSimpArgs false
set_option linter.unusedVariables false
theorem eg_nfa (gs : List (List ByteArray)) : (nfaOf gs).Eg where
 e := fun s e he => by
  rcases Nat.lt_or_ge s (base gs gs.length) with hs | hs
  ·obtain ⟨i, hi, _, k, hk, rfl⟩ := base_split _ (Nat.le_refl _) s hs
   rw [ways_at hi hk] at he
   rw [size_nfa]
   have hb := base_mono (gs := gs) hi (Nat.le_refl _)
   split at he
   ·rename_i p hp
    have hkl : k < gs[i].length := (List.getElem?_eq_some_iff.1 hp).1
    have hlet := letterN_le (signsOf gs) p
    have hsg : (nfaOf gs).signs = signsOf gs := rfl
    rw [hsg]
    unfold wayOf at he
    split at he
    ·rcases List.mem_cons.1 he with rfl | he
     ·exact ⟨.inl rfl, by simp only; omega, by simp only; omega⟩
     ·obtain ⟨s, hs2, rfl⟩ := List.mem_map.1 he
      have := List.mem_range.1 hs2
      exact ⟨.inr ⟨by simp only; omega, by simp only; omega⟩, by simp only; omega, by simp only; omega⟩
    ·split at he
     ·obtain ⟨s, hs2, rfl⟩ := List.mem_map.1 he
      have := List.mem_range.1 hs2
      exact ⟨.inr ⟨by simp only; omega, by simp only; omega⟩, by simp only; omega, by simp only; omega⟩
     ·simp only [List.mem_singleton] at he
      subst he
      exact ⟨.inr ⟨by simp only; omega, by simp only; omega⟩, by simp only; omega, by simp only; omega⟩
   ·cases he
  ·have : (nfaOf gs).ways.getD s [] = [] := by
    have h := size_nfa (gs := gs)
    unfold NF.size at h
    rw [List.getD_eq_getElem?_getD, List.getElem?_eq_none (by omega)]; rfl
   rw [this] at he
   cases he
theorem ok_nfa {gs : List (List ByteArray)} (h : GsOk gs) : (nfaOf gs).Ok where
 good := good_nfa gs
 size := h.size
 ways := fun s => by have := h.ways s; omega
 signs := h.signs
 eg := eg_nfa gs
 dn := dn_nfa gs
 done := by have := h.size; rw [size_nfa] at this; show (doneG 0 gs).length ≤ 1000; rw [doneG_len]; omega
 ris := signsOf_ris gs
 beg := by have := h.n; simp [nfaOf]; omega
def ofR (bs : List ByteArray) (most : Int) : DF := if goodB bs = true then dfaR (nfaOf (bs.map cutS)) most else zDf
def ofE (bs : List ByteArray) (most : Int) : Int := if goodB bs = true then dfaE (nfaOf (bs.map cutS)) most else 1
theorem fn9 (bs : List ByteArray) (most : Int) (hb : bs.length ≤ 30) (hs : ∀ b ∈ bs, b.size ≤ 1000) (hm : most ≤ 1000) : Fn Tryz.prog 9 [ss bs, pI most] (.pv (.tup [pDf (ofR bs most), pI (ofE bs most)])) [] := by
 refine Run9 [] (by simp) ?_
 simp only [go_sem, Nat.reduceEqDiff, reduceCtorEq, and_self, M9]
 refine runR_call (by simp only [go_sem, Nat.reduceEqDiff, reduceCtorEq, and_self]) rfl (fn13 bs hb hs) (.inl rfl) trivial ?_
 unfold ofR ofE
 cases hgd : goodB bs with
 | false =>
  simp only [go_sem, Nat.reduceEqDiff, Nat.reduceBEq, Nat.reduceAdd, Nat.reduceLT, reduceCtorEq, and_self, Int.reduceEq]
  rfl
 | true =>
  have hbr : buildR bs = nfaOf (bs.map cutS) := by unfold buildR; rw [hgd]; rfl
  have hok := ok_nfa (gsOk hgd)
  rw [hbr]
  generalize nfaOf (bs.map cutS) = n at hok
  simp only [go_sem, Nat.reduceEqDiff, Nat.reduceBEq, Nat.reduceAdd, Nat.reduceLT, reduceCtorEq, and_self]
  refine runR_call (by simp only [go_sem, Nat.reduceEqDiff, and_self]) rfl (fn14 n most hok hm) (.inl rfl) trivial ?_
  simp only [go_sem, Nat.reduceEqDiff, Nat.reduceAdd, Nat.reduceLT, and_self]
structure DF.Sm (d : DF) : Prop where
 ris : RisB d.signs
 s : d.signs.length ≤ 1000
 n : d.next.length ≤ 1000
 m : d.done.length ≤ 1000
 ns : ∀ l ∈ d.next, l.length ≤ 1000
 ds : ∀ l ∈ d.done, l.length ≤ 1000
end Go.Vc
