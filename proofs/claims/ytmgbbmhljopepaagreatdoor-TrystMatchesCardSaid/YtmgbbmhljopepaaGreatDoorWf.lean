/- A part of the proofs of the seat YtmgbbmhljopepaaGreatDoor: the contracts of functions, each proved out of its code. -/
import Derived.Test.YtmgbbmhljopepaaGreatDoorVe
import Derived.Test.YtmgbbmhljopepaaGreatDoorProg
import Derived.Test.YtmgbbmhljopepaaGreatDoorWb
import Derived.Test.YtmgbbmhljopepaaGreatDoorWd
import Derived.Lib.TrailingZeros
import Derived.Shelf.Sort.Plain
import Derived.Shelf.Slices.In.SortNone
namespace Go.Vc
open Go.Proofs
set_option maxRecDepth 100000
def B22_1 : MC := (.seq (.reg [qi 59 (.bin .lss (.t 58) (.t 57))] [] [1,2,4,5,6,7,8,9,10,11,56,57,58,59] [1,2,6,29,34,51,97,107,118,1021,1024,1027]) (.seq (.cond (.t 59) .skip (.exit 2)) (.seq (.block 3 (.seq (.reg [mi 60 58,qi 61 (.ia (.t 56) (.t 58) 1),qi 62 (.ld (.t 61) 1 false),mi 12 60,mi 13 62] [] [1,2,4,5,6,7,8,9,10,11,12,13,56,57,58] [1,2,6,29,34,51,97,107,118,1021,1024,1027]) (.seq (.seq (.reg [mi 63 13,qi 64 (.bin .eql (.t 63) (.c (.int .i64 (-1)))),mi 65 64,gi 66 65 false (.mv (.t 4)),gi 67 65 false (.mv (.t 13)),gi 68 65 false (.ia (.t 66) (.t 67) 1),gi 69 65 false (.ld (.t 68) 1 false),gi 70 65 false (.not (.t 69)),qi 71 (.pick (.t 65) (.c (.bool true)) (.t 70))] [] [1,2,4,5,6,7,8,9,10,11,12,13,56,57,58,71] [1,2,6,29,34,51,97,107,118,1021,1024,1027]) (.cond (.t 71) (.seq (.reg [mi 72 11,mi 73 12,qi 74 (.ia (.t 72) (.t 73) 1),⟨none,none,.st (.t 74) (.c (.int .i64 (-1))) 1⟩] [] [1,2,4,5,6,7,8,9,10,11,56,57,58] [1,2,6,29,34,51,97,107,118,1021,1024,1027]) (.exit 3)) .skip)) (.seq (.reg [mi 76 7,mi 77 5,mi 78 13,qi 79 (.ia (.t 77) (.t 78) 1),qi 80 (.ld (.t 79) 1 false),qi 81 (.mget (.t 76) (.t 80) true Kk.int (.pv (.sc (.int .i64 0)))),mi 75 81,qi 82 (.ext (.t 75) 0),qi 83 (.ext (.t 75) 1),mi 14 82,mi 15 83] [] [1,2,4,5,6,7,8,9,10,11,12,13,14,15,56,57,58] [1,2,6,29,34,51,97,107,118,1021,1024,1027]) (.seq (.seq (.reg [mi 84 15,qi 85 (.not (.t 84))] [] [1,2,4,5,6,7,8,9,10,11,12,13,14,56,57,58,85] [1,2,6,29,34,51,97,107,118,1021,1024,1027]) (.cond (.t 85) (.seq (.reg [mi 86 8,qi 87 (.len (.t 86) false),mi 14 87] [] [1,2,4,5,6,7,8,9,10,11,12,13,14,56,57,58] [1,2,6,29,34,51,97,107,118,1021,1024,1027]) (.seq (.reg [mi 88 7,mi 89 5,mi 90 13,qi 91 (.ia (.t 89) (.t 90) 1),qi 92 (.ld (.t 91) 1 false),mi 93 14,⟨none,none,.mset (.t 88) (.t 92) (.t 93) Kk.int⟩] [] [1,2,4,5,6,7,8,9,10,11,12,13,14,56,57,58] [1,2,6,29,34,51,97,107,118,1021,1024,1027]) (.reg [mi 94 8,mi 95 13,⟨some 96,none,.lits [.t 95] 1⟩,⟨some 97,none,.app (.t 94) (.t 96) 1 8⟩,mi 8 97] [] [1,2,4,5,6,7,8,9,10,11,12,14,56,57,58] [1,2,6,29,34,51,97,107,118,1021,1024,1027]))) .skip)) (.reg [mi 98 11,mi 99 12,mi 100 14,qi 101 (.ia (.t 98) (.t 99) 1),⟨none,none,.st (.t 101) (.t 100) 1⟩] [] [1,2,4,5,6,7,8,9,10,11,56,57,58] [1,2,6,29,34,51,97,107,118,1021,1024,1027])))))) (.reg [qi 102 (.bin .add (.t 58) (ic 1)),mi 58 102] [] [1,2,4,5,6,7,8,9,10,11,56,57,58] [1,2,6,29,34,51,97,107,118,1021,1024,1027]))))
def R22_1 : MC := (.seq (.reg [qi 103 (.fa (.t 6) 1),qi 104 (.ld (.t 103) 1 false),mi 105 11,⟨some 106,none,.lits [.t 105] 1⟩,⟨some 107,none,.app (.t 104) (.t 106) 1 24⟩,qi 108 (.fa (.t 6) 1),⟨none,none,.st (.t 108) (.t 107) 1⟩] [] [1,2,4,5,6,7,8,9,10] [1,2,6,29,34,97,107,118,1021,1024,1027]) (.reg [qi 109 (.fa (.t 6) 2),qi 110 (.ld (.t 109) 1 false),qi 111 (.fa (.t 1) 2),qi 112 (.ld (.t 111) 1 false),mi 113 10,qi 114 (.ia (.t 112) (.t 113) 1),qi 115 (.ld (.t 114) 1 false),⟨some 116,none,.call (.f 53) [.t 115]⟩,⟨some 117,none,.lits [.t 116] 1⟩,⟨some 118,none,.app (.t 110) (.t 117) 1 24⟩,qi 119 (.fa (.t 6) 2),⟨none,none,.st (.t 119) (.t 118) 1⟩] [] [1,2,4,5,6,7,8,9] [1,2,6,29,34,97,107,118,1021,1024,1027]))
def B22_0 : MC := (.seq (.seq (.reg [mi 35 9,mi 36 8,qi 37 (.len (.t 36) false),qi 38 (.bin .lss (.t 35) (.t 37))] [] [1,2,4,5,6,7,8,9,38] [1,2,6,29,34,97,107,118,1021,1024,1027]) (.cond (.t 38) .skip (.exit 0))) (.seq (.block 1 (.seq (.reg [mi 41 8,mi 42 9,qi 43 (.ia (.t 41) (.t 42) 1),qi 44 (.ld (.t 43) 1 false),mi 10 44] [] [1,2,4,5,6,7,8,9,10] [1,2,6,29,34,97,107,118,1021,1024,1027]) (.seq (.reg [qi 45 (.fa (.t 1) 1),qi 46 (.ld (.t 45) 1 false),mi 47 10,qi 48 (.ia (.t 46) (.t 47) 1),qi 49 (.ld (.t 48) 1 false),qi 50 (.len (.t 49) false),⟨some 51,none,.mks (.t 50) (.t 50) 1 8 (.sc (.int .i64 0))⟩,mi 11 51] [] [1,2,4,5,6,7,8,9,10,11] [1,2,6,29,34,51,97,107,118,1021,1024,1027]) (.seq (.seq (.reg [qi 52 (.fa (.t 1) 1),qi 53 (.ld (.t 52) 1 false),mi 54 10,qi 55 (.ia (.t 53) (.t 54) 1),qi 56 (.ld (.t 55) 1 false),qi 57 (.len (.t 56) false),qi 58 (.mv (ic 0))] [] [1,2,4,5,6,7,8,9,10,11,56,57,58] [1,2,6,29,34,51,97,107,118,1021,1024,1027]) (.block 2 (.loop B22_1))) R22_1)))) (.reg [mi 39 9,qi 40 (.bin .add (.t 39) (ic 1)),mi 9 40] [] [1,2,4,5,6,7,8,9] [1,2,6,29,34,97,107,118,1021,1024,1027])))
def R22_0 : MC := (.seq (.reg [qi 120 (.ld (.t 6) 3 true),⟨none,none,.st (.t 2) (.t 120) 3⟩,qi 3 (.mv (ic 0))] [] [2,3] [2,107,118,1027]) .ret)
def M22 : MC := (.seq (.reg [⟨some 1,none,.box (.t 0)⟩,⟨some 2,none,.alloc [.e0,.e0,.e0]⟩,qi 3 (.mv (ic 0))] [] [1,2] [1,2,107,118,1027]) (.seq (.seq (.reg [qi 16 (.ld (.t 1) 3 true),⟨some 17,none,.call (.f 23) [.t 16]⟩,qi 18 (.not (.t 17))] [] [1,2,18] [1,2,107,118,1017,1027]) (.cond (.t 18) (.seq (.reg [qi 19 (.mk [.e0,.e0,.e0] []),⟨none,none,.st (.t 2) (.t 19) 3⟩,qi 3 (.mv (ic 1))] [] [2,3] [2,107,118,1027]) .ret) .skip)) (.seq (.reg [qi 20 (.ld (.t 1) 3 true),⟨some 21,none,.call (.f 51) [.t 20]⟩,mi 4 21] [] [1,2,4] [1,2,107,118,1021,1027]) (.seq (.reg [qi 22 (.ld (.t 1) 3 true),mi 23 4,⟨some 24,none,.call (.f 52) [.t 22,.t 23]⟩,mi 5 24] [] [1,2,4,5] [1,2,107,118,1021,1024,1027]) (.seq (.reg [qi 25 (.fa (.t 1) 0),qi 26 (.ld (.t 25) 1 false),⟨some 27,none,.call (.f 46) [.t 26]⟩,qi 28 (.mk [.e0,.e0,.e0] [(0,1,(.t 27))]),⟨some 6,none,.alloc [.e0,.e0,.e0]⟩,⟨none,none,.st (.t 6) (.t 28) 3⟩] [] [1,2,4,5,6] [1,2,6,107,118,1021,1024,1027]) (.seq (.reg [⟨some 29,none,.mkm⟩,mi 30 5,qi 31 (.ia (.t 30) (ic 0) 1),qi 32 (.ld (.t 31) 1 false),⟨none,none,.mset (.t 29) (.t 32) (ic 0) Kk.int⟩,mi 33 29,mi 7 33] [] [1,2,4,5,6,7] [1,2,6,29,107,118,1021,1024,1027]) (.seq (.reg [⟨some 34,none,.own [.c (.int .i64 0)] 1⟩,mi 8 34] [] [1,2,4,5,6,7,8] [1,2,6,29,34,97,107,118,1021,1024,1027]) (.seq (.seq (.reg [qi 9 (.mv (ic 0))] [] [1,2,4,5,6,7,8,9] [1,2,6,29,34,97,107,118,1021,1024,1027]) (.block 0 (.loop B22_0))) R22_0))))))))
theorem mc22 : ofCode Tryz.prog [34] Tryz.f22.ntmps [(0, ⟨[1, 2], [1, 2, 107, 118, 1027], [], 0, [], none⟩),
  (1, ⟨[1, 2, 18], [1, 2, 107, 118, 1017, 1027], [], 0, [], none⟩),
  (2, ⟨[2, 3], [2, 107, 118, 1027], [], 0, [], none⟩),
  (3, ⟨[1, 2, 4], [1, 2, 107, 118, 1021, 1027], [], 0, [], none⟩),
  (4, ⟨[1, 2, 4, 5], [1, 2, 107, 118, 1021, 1024, 1027], [], 0, [], none⟩),
  (5, ⟨[1, 2, 4, 5, 6], [1, 2, 6, 107, 118, 1021, 1024, 1027], [], 0, [], none⟩),
  (6, ⟨[1, 2, 4, 5, 6, 7], [1, 2, 6, 29, 107, 118, 1021, 1024, 1027], [], 0, [], none⟩),
  (7, ⟨[1, 2, 4, 5, 6, 7, 8], [1, 2, 6, 29, 34, 97, 107, 118, 1021, 1024, 1027], [], 0, [], none⟩),
  (8, ⟨[1, 2, 4, 5, 6, 7, 8, 9], [1, 2, 6, 29, 34, 97, 107, 118, 1021, 1024, 1027], [], 0, [], none⟩),
  (9, ⟨[1, 2, 4, 5, 6, 7, 8, 9, 38], [1, 2, 6, 29, 34, 97, 107, 118, 1021, 1024, 1027], [], 0, [], none⟩),
  (10, ⟨[1, 2, 4, 5, 6, 7, 8, 9], [1, 2, 6, 29, 34, 97, 107, 118, 1021, 1024, 1027], [], 0, [], none⟩),
  (11, ⟨[1, 2, 4, 5, 6, 7, 8, 9, 10], [1, 2, 6, 29, 34, 97, 107, 118, 1021, 1024, 1027], [], 0, [], none⟩),
  (12, ⟨[1, 2, 4, 5, 6, 7, 8, 9, 10, 11], [1, 2, 6, 29, 34, 51, 97, 107, 118, 1021, 1024, 1027], [], 0, [], none⟩),
  (13, ⟨[1, 2, 4, 5, 6, 7, 8, 9, 10, 11, 56, 57, 58], [1, 2, 6, 29, 34, 51, 97, 107, 118, 1021, 1024, 1027], [], 0, [], none⟩),
  (14, ⟨[1, 2, 4, 5, 6, 7, 8, 9, 10, 11, 56, 57, 58, 59], [1, 2, 6, 29, 34, 51, 97, 107, 118, 1021, 1024, 1027], [], 0, [], none⟩),
  (15, ⟨[1, 2, 4, 5, 6, 7, 8, 9, 10, 11, 12, 13, 56, 57, 58], [1, 2, 6, 29, 34, 51, 97, 107, 118, 1021, 1024, 1027], [], 0, [], none⟩),
  (16, ⟨[1, 2, 4, 5, 6, 7, 8, 9, 10, 11, 12, 13, 56, 57, 58, 71], [1, 2, 6, 29, 34, 51, 97, 107, 118, 1021, 1024, 1027], [], 0, [], none⟩),
  (17, ⟨[1, 2, 4, 5, 6, 7, 8, 9, 10, 11, 56, 57, 58], [1, 2, 6, 29, 34, 51, 97, 107, 118, 1021, 1024, 1027], [], 0, [], none⟩),
  (18, ⟨[1, 2, 4, 5, 6, 7, 8, 9, 10, 11, 12, 13, 14, 15, 56, 57, 58], [1, 2, 6, 29, 34, 51, 97, 107, 118, 1021, 1024, 1027], [], 0, [], none⟩),
  (19, ⟨[1, 2, 4, 5, 6, 7, 8, 9, 10, 11, 12, 13, 14, 56, 57, 58, 85], [1, 2, 6, 29, 34, 51, 97, 107, 118, 1021, 1024, 1027], [], 0, [], none⟩),
  (20, ⟨[1, 2, 4, 5, 6, 7, 8, 9, 10, 11, 12, 13, 14, 56, 57, 58], [1, 2, 6, 29, 34, 51, 97, 107, 118, 1021, 1024, 1027], [], 0, [], none⟩),
  (21, ⟨[1, 2, 4, 5, 6, 7, 8, 9, 10, 11, 12, 13, 14, 56, 57, 58], [1, 2, 6, 29, 34, 51, 97, 107, 118, 1021, 1024, 1027], [], 0, [], none⟩),
  (22, ⟨[1, 2, 4, 5, 6, 7, 8, 9, 10, 11, 12, 14, 56, 57, 58], [1, 2, 6, 29, 34, 51, 97, 107, 118, 1021, 1024, 1027], [], 0, [], none⟩),
  (23, ⟨[1, 2, 4, 5, 6, 7, 8, 9, 10, 11, 56, 57, 58], [1, 2, 6, 29, 34, 51, 97, 107, 118, 1021, 1024, 1027], [], 0, [], none⟩),
  (24, ⟨[1, 2, 4, 5, 6, 7, 8, 9, 10, 11, 56, 57, 58], [1, 2, 6, 29, 34, 51, 97, 107, 118, 1021, 1024, 1027], [], 0, [], none⟩),
  (25, ⟨[1, 2, 4, 5, 6, 7, 8, 9, 10], [1, 2, 6, 29, 34, 97, 107, 118, 1021, 1024, 1027], [], 0, [], none⟩),
  (26, ⟨[1, 2, 4, 5, 6, 7, 8, 9], [1, 2, 6, 29, 34, 97, 107, 118, 1021, 1024, 1027], [(0, 3587), (1, 3586), (2, 4076), (3, 4072), (4, 4080), (5, 4064), (6, 4032), (7, 0), (8, 0), (9, 0), (10, 3072), (11, 0)], 1535, [], none⟩),
  (27, ⟨[2, 3], [2, 107, 118, 1027], [], 0, [], none⟩)] (Tryz.f22.body.getD .skip) = some M22 := by kernel_rfl
theorem Run22 {args : List PV} {v : AV} {rs : List (Nat × List PV)} (ids : List Bool) (h : args.length ≤ 121) (hv : run Tryz.prog (retK [RV.cell 2 3 true, RV.tmp 3] ids v rs) M22 [] ⟨entry 0 args, []⟩) : Fn Tryz.prog 22 args v rs :=
 Fn_run ids (by kernel_rfl) Tryz.func22 (by decide) rfl mc22 (by kernel_rfl) (by rw [Tryz.ntmps22]; exact h) (by rw [Tryz.ntmps22]; decide) hv
end Go.Vc

namespace Go.Vc
set_option linter.unusedSimpArgs false
set_option linter.unusedVariables false
def wordN (p : Nat → Bool) : Nat → Nat
 | 0 => 0
 | n + 1 => 2 ^ n * (if p n = true then 1 else 0) + wordN p n
theorem wordN_lt (p : Nat → Bool) : ∀ n, wordN p n < 2 ^ n
 | 0 => by simp [wordN]
 | n + 1 => by
  have := wordN_lt p n
  rw [wordN, Nat.pow_succ]
  split <;> omega
theorem wordN_bit (p : Nat → Bool) : ∀ n j, (wordN p n).testBit j = (decide (j < n) && p j)
 | 0, j => by simp [wordN]
 | n + 1, j => by
  rw [wordN, Nat.testBit_two_pow_mul_add _ (wordN_lt p n)]
  split
  ·rename_i h
   rw [wordN_bit p n j]; simp [h, show j < n + 1 by omega]
  ·rename_i h
   rcases Nat.lt_or_ge n j with h1 | h1
   ·rw [show decide (j < n + 1) = false by simp; omega, Bool.false_and]
    obtain ⟨d, hd⟩ : ∃ d, j - n = d + 1 := ⟨j - n - 1, by omega⟩
    rw [hd]
    split <;> simp [Nat.testBit_succ]
   ·obtain rfl : j = n := by omega
    rw [Nat.sub_self]
    cases p j <;> simp
theorem wordN_ext {p q : Nat → Bool} {n : Nat} (h : ∀ j, j < n → p j = q j) : wordN p n = wordN q n := Nat.eq_of_testBit_eq fun j => by
 rw [wordN_bit, wordN_bit]
 by_cases hj : j < n
 ·simp [hj, h j hj]
 ·simp [hj]
theorem wordN_inj {p q : Nat → Bool} {n : Nat} (h : wordN p n = wordN q n) : ∀ j, j < n → p j = q j := fun j hj => by
 have e : (wordN p n).testBit j = (wordN q n).testBit j := by rw [h]
 rw [wordN_bit, wordN_bit] at e
 simpa [hj] using e
theorem wordN_or (p q : Nat → Bool) (n : Nat) : wordN p n ||| wordN q n = wordN (fun j => p j || q j) n := Nat.eq_of_testBit_eq fun j => by
 rw [Nat.testBit_or, wordN_bit, wordN_bit, wordN_bit]
 cases decide (j < n) <;> simp
theorem wordN_one {n m : Nat} (h : m < n) : wordN (fun j => decide (j = m)) n = 2 ^ m := Nat.eq_of_testBit_eq fun j => by
 rw [wordN_bit, Nat.testBit_two_pow]
 by_cases hj : j = m
 ·subst hj; simp [h]
 ·simp [hj, Ne.symm hj]
theorem wordN_zero (n : Nat) : wordN (fun _ => false) n = 0 := Nat.eq_of_testBit_eq fun j => by rw [wordN_bit]; simp
def sumB (l : List Nat) : Nat := (l.map fun b => 2 ^ b).sum
theorem sumB_word (p : Nat → Bool) : ∀ n, sumB ((List.range n).filter p) = wordN p n
 | 0 => rfl
 | n + 1 => by
  rw [List.range_succ, List.filter_append, wordN, ← sumB_word p n]
  unfold sumB
  rw [List.map_append, List.sum_append]
  by_cases h : p n = true <;> simp [h, Nat.add_comm]
theorem sumB_mul {b : Nat} : ∀ {l : List Nat}, (∀ x ∈ l, b < x) → ∃ k, sumB l = 2 ^ b * (2 * k)
 | [], _ => ⟨0, rfl⟩
 | x :: l, h => by
  obtain ⟨k, hk⟩ := sumB_mul (l := l) fun y hy => h y (List.mem_cons_of_mem _ hy)
  obtain ⟨d, hd⟩ : ∃ d, x = b + 1 + d := ⟨x - b - 1, by have := h x (by simp); omega⟩
  refine ⟨2 ^ d + k, ?_⟩
  have : sumB (x :: l) = 2 ^ x + sumB l := by simp [sumB]
  rw [this, hk, hd, Nat.pow_add, Nat.pow_succ]
  rw [Nat.mul_add, Nat.mul_add, ← Nat.mul_assoc, ← Nat.mul_assoc]
theorem sumB_cons {b : Nat} {l : List Nat} (h : (b :: l).Pairwise (· < ·)) : ∃ k, sumB (b :: l) = 2 ^ b * (2 * k + 1) ∧ sumB l = 2 ^ b * (2 * k) := by
 obtain ⟨k, hk⟩ := sumB_mul (b := b) (l := l) fun x hx => (List.pairwise_cons.1 h).1 x hx
 refine ⟨k, ?_, hk⟩
 have : sumB (b :: l) = 2 ^ b + sumB l := by simp [sumB]
 rw [this, hk, Nat.mul_add, Nat.mul_one, Nat.add_comm]
theorem clear_low (b k : Nat) : (2 ^ b * (2 * k + 1)) &&& (2 ^ b * (2 * k + 1) - 1) = 2 ^ b * (2 * k) := by
 have hp : 0 < 2 ^ b := Nat.two_pow_pos b
 have e : 2 ^ b * (2 * k + 1) - 1 = 2 ^ b * (2 * k) + (2 ^ b - 1) := by rw [Nat.mul_add]; omega
 rw [e]
 refine Nat.eq_of_testBit_eq fun j => ?_
 rw [Nat.testBit_and, Nat.testBit_two_pow_mul_add _ (show 2 ^ b - 1 < 2 ^ b by omega), Nat.testBit_two_pow_mul, Nat.testBit_two_pow_mul]
 by_cases hj : j < b
 ·simp [hj, show ¬ b ≤ j by omega]
 ·simp only [hj, if_false, show b ≤ j by omega, decide_true, Bool.true_and]
  rcases Nat.eq_zero_or_pos (j - b) with h0 | h0
  ·rw [h0]; simp
  ·obtain ⟨d, hd⟩ : ∃ d, j - b = d + 1 := ⟨j - b - 1, by omega⟩
   rw [hd, Nat.testBit_succ, Nat.testBit_succ, show (2 * k + 1) / 2 = k by omega, show 2 * k / 2 = k by omega, Bool.and_self]
theorem ctz_low {b k : Nat} (h : 2 ^ b * (2 * k + 1) < 2 ^ 64) : Lib.ctz 64 (2 ^ b * (2 * k + 1)) = b := by
 have h0 : 2 ^ b * (2 * k + 1) ≠ 0 := by
  have := Nat.two_pow_pos b
  intro e
  rcases Nat.mul_eq_zero.1 e with h1 | h1 <;> omega
 have h1 := (Lib.lowest_bit 64 _ h0 h).1
 rw [Lib.and_neg 64 b k h] at h1
 exact (Nat.pow_right_inj (by omega : 1 < 2)).1 h1.symm
theorem bits_step {B : List Nat} (hB : B.Pairwise (· < ·)) (hs : sumB B < 2 ^ 64) {m : Nat} (hm : m < B.length) :
  Lib.ctz 64 (sumB (B.drop m)) = B[m] ∧ sumB (B.drop m) &&& (sumB (B.drop m) - 1) = sumB (B.drop (m + 1)) ∧ 0 < sumB (B.drop m) ∧ sumB (B.drop m) < 2 ^ 64 := by
 have hd : B.drop m = B[m] :: B.drop (m + 1) := List.drop_eq_getElem_cons hm
 have hle : sumB (B.drop m) ≤ sumB B := by
  have e : sumB B = sumB (B.take m) + sumB (B.drop m) := by
   unfold sumB
   rw [← List.sum_append, ← List.map_append, List.take_append_drop]
  omega
 have hp : (B[m] :: B.drop (m + 1)).Pairwise (· < ·) := by rw [← hd]; exact hB.sublist (List.drop_sublist _ _)
 obtain ⟨k, h1, h2⟩ := sumB_cons hp
 rw [← hd] at h1
 refine ⟨?_, ?_, ?_, by omega⟩
 ·rw [h1]; exact ctz_low (by rw [← h1]; omega)
 ·rw [h1, clear_low, h2]
 ·rw [h1]
  exact Nat.mul_pos (Nat.two_pow_pos _) (by omega)
theorem sumB_end {B : List Nat} {m : Nat} (hm : B.length ≤ m) : sumB (B.drop m) = 0 := by rw [List.drop_of_length_le hm]; rfl
def wd (p : Nat → Bool) (k : Nat) : Nat := wordN (fun j => p (64 * k + j)) 64
theorem wd_lt (p : Nat → Bool) (k : Nat) : wd p k < 18446744073709551616 := wordN_lt _ 64
theorem wd_or (p q : Nat → Bool) (k : Nat) : wd p k ||| wd q k = wd (fun j => p j || q j) k := wordN_or _ _ 64
theorem wd_inj {p q : Nat → Bool} (h : ∀ k, k < 3 → wd p k = wd q k) : ∀ j, j < 192 → p j = q j := fun j hj => by
 have := wordN_inj (h (j / 64) (by omega)) (j % 64) (by omega)
 simpa [show 64 * (j / 64) + j % 64 = j by omega] using this
theorem wd_zero (k : Nat) : wd (fun _ => false) k = 0 := wordN_zero 64
theorem wd_add (p : Nat → Bool) {i k : Nat} (hk : i / 64 = k) : wd p k ||| 2 ^ (i % 64) = wd (fun j => p j || decide (j = i)) k := by
 rw [← wordN_one (n := 64) (m := i % 64) (by omega)]
 unfold wd
 rw [wordN_or]
 refine wordN_ext fun j hj => ?_
 have : (j = i % 64) ↔ (64 * k + j = i) := by omega
 simp [this]
theorem wd_same (p : Nat → Bool) {i k : Nat} (hk : i / 64 ≠ k) : wd (fun j => p j || decide (j = i)) k = wd p k := wordN_ext fun j hj => by
 have : ¬ 64 * k + j = i := by omega
 simp [this]
def wbits (p : Nat → Bool) (k : Nat) : List Nat := (List.range 64).filter fun j => p (64 * k + j)
theorem wbits_ris (p : Nat → Bool) (k : Nat) : (wbits p k).Pairwise (· < ·) := List.pairwise_lt_range.filter _
theorem wbits_lt {p : Nat → Bool} {k b : Nat} (h : b ∈ wbits p k) : b < 64 := List.mem_range.1 (List.mem_filter.1 h).1
theorem wbits_sum (p : Nat → Bool) (k : Nat) : sumB (wbits p k) = wd p k := sumB_word _ 64
def elemsB (p : Nat → Bool) (k : Nat) : List Nat := (List.range (64 * k)).filter p
theorem elemsB_succ (p : Nat → Bool) (k : Nat) : elemsB p (k + 1) = elemsB p k ++ (wbits p k).map fun b => 64 * k + b := by
 unfold elemsB wbits
 rw [show 64 * (k + 1) = 64 * k + 64 by omega, List.range_add, List.filter_append, List.filter_map]
 rfl
end Go.Vc

namespace Go.Vc
open Go.Proofs
set_option maxRecDepth 100000
def B69_0 : MC := (.seq (.reg [⟨some 10,none,.nxtm (.t 9)⟩,qi 11 (.ext (.t 10) 0)] [] [3,9,11] [7,9,17,1019,200000]) (.seq (.cond (.t 11) .skip (.exit 0)) (.block 1 (.seq (.reg [qi 12 (.ent (.t 9)),qi 13 (.ext (.t 12) 0),mi 4 13] [] [3,4,9] [7,9,17,1019,200000]) (.reg [mi 14 3,mi 15 4,⟨some 16,none,.lits [.t 15] 1⟩,⟨some 17,none,.app (.t 14) (.t 16) 1 8⟩,mi 3 17] [] [3,9] [7,9,17,1019,200000])))))
def R69_0 : MC := (.seq (.reg [mi 18 3,⟨some 19,none,.calls (.f 80) [.t 18]⟩] [] [3] [7,17,1019,200000]) (.seq (.reg [mi 20 3,mi 2 20] [] [2] [7,17,1019,200000]) .ret))
def M69 : MC := (.seq (.reg [qi 2 (.mv .nil)] [] [0] [200000]) (.seq (.reg [mi 5 0,qi 6 (.mlen (.t 5)),⟨some 7,none,.mks (ic 0) (.t 6) 1 8 (.sc (.int .i64 0))⟩,mi 3 7] [] [0,3] [7,17,1019,200000]) (.seq (.seq (.reg [mi 8 0,⟨some 9,none,.rngm (.t 8)⟩] [] [3,9] [7,9,17,1019,200000]) (.block 0 (.loop B69_0))) R69_0)))
theorem mc69 : ofCode Tryz.prog [19] Tryz.f69.ntmps [(0, ⟨[0], [200000], [], 0, [], none⟩),
  (1, ⟨[0, 3], [7, 17, 1019, 200000], [], 0, [], none⟩),
  (2, ⟨[3, 9], [7, 9, 17, 1019, 200000], [], 0, [], none⟩),
  (3, ⟨[3, 9, 11], [7, 9, 17, 1019, 200000], [], 0, [], none⟩),
  (4, ⟨[3, 4, 9], [7, 9, 17, 1019, 200000], [], 0, [], none⟩),
  (5, ⟨[3, 9], [7, 9, 17, 1019, 200000], [], 0, [], none⟩),
  (6, ⟨[3], [7, 17, 1019, 200000], [], 0, [], none⟩),
  (7, ⟨[2], [7, 17, 1019, 200000], [], 0, [], none⟩)] (Tryz.f69.body.getD .skip) = some M69 := by kernel_rfl
theorem RunS69 {args : List AV} {st st' : List (Nat × Row)} {v : AV} (h : args.length ≤ 21) (hk : (st'.map (·.1)).Nodup) (hv : run Tryz.prog (retS [RV.tmp 2] v st') M69 [] ⟨entryA 0 args, st⟩) : FnS Tryz.prog 69 args st v st' :=
 FnS_run (by kernel_rfl) Tryz.func69 (by decide) rfl mc69 (by kernel_rfl) (by rw [Tryz.ntmps69]; exact h) (by rw [Tryz.ntmps69]; decide) hk hv
def B76_1 : MC := (.seq (.seq (.reg [mi 29 5,mi 30 4,qi 31 (.len (.t 30) false),qi 32 (.bin .lss (.t 29) (.t 31))] [] [0,3,4,5,32] [200000]) (.cond (.t 32) .skip (.exit 2))) (.seq (.block 3 (.seq (.reg [mi 35 4,mi 36 5,qi 37 (.ia (.t 35) (.t 36) 1),qi 38 (.ld (.t 37) 1 false),mi 39 4,mi 40 5,qi 41 (.bin .sub (.t 40) (ic 1)),qi 42 (.ia (.t 39) (.t 41) 1),qi 43 (.ld (.t 42) 1 false),qi 44 (.bin .neq (.t 38) (.t 43))] [] [0,3,4,5,44] [200000]) (.cond (.t 44) (.seq (.reg [mi 45 0,mi 46 3,mi 47 4,mi 48 5,qi 49 (.ia (.t 47) (.t 48) 1),qi 50 (.ld (.t 49) 1 false),qi 51 (.ia (.t 45) (.t 46) 1),⟨none,none,.st (.t 51) (.t 50) 1⟩] [] [0,3,4,5] [200000]) (.reg [mi 52 3,qi 53 (.bin .add (.t 52) (ic 1)),mi 3 53] [] [0,3,4,5] [200000])) .skip))) (.reg [mi 33 5,qi 34 (.bin .add (.t 33) (ic 1)),mi 5 34] [] [0,3,4,5] [200000])))
def R76_1 : MC := (.seq (.reg [mi 54 0,mi 55 3,qi 56 (.slc (.t 54) (some (.t 55)) none 1 false),⟨none,none,.clr (.t 56) 1 (.sc (.string ⟨#[]⟩))⟩] [] [0,3] [200000]) (.seq (.reg [mi 57 0,mi 58 3,qi 59 (.slc (.t 57) none (some (.t 58)) 1 false),mi 2 59] [] [2] [200000]) .ret))
def B76_0 : MC := (.seq (.seq (.reg [mi 10 3,mi 11 0,qi 12 (.len (.t 11) false),qi 13 (.bin .lss (.t 10) (.t 12))] [] [0,3,13] [200000]) (.cond (.t 13) .skip (.exit 0))) (.seq (.block 1 (.seq (.reg [mi 16 0,mi 17 3,qi 18 (.ia (.t 16) (.t 17) 1),qi 19 (.ld (.t 18) 1 false),mi 20 0,mi 21 3,qi 22 (.bin .sub (.t 21) (ic 1)),qi 23 (.ia (.t 20) (.t 22) 1),qi 24 (.ld (.t 23) 1 false),qi 25 (.bin .eql (.t 19) (.t 24))] [] [0,3,25] [200000]) (.cond (.t 25) (.seq (.reg [mi 26 0,mi 27 3,qi 28 (.slc (.t 26) (some (.t 27)) none 1 false),mi 4 28] [] [0,3,4] [200000]) (.seq (.seq (.reg [qi 5 (.mv (ic 1))] [] [0,3,4,5] [200000]) (.block 2 (.loop B76_1))) R76_1)) .skip))) (.reg [mi 14 3,qi 15 (.bin .add (.t 14) (ic 1)),mi 3 15] [] [0,3] [200000])))
def R76_0 : MC := (.seq (.reg [mi 60 0,mi 2 60] [] [2] [200000]) .ret)
def M76 : MC := (.seq (.reg [qi 2 (.mv .nil)] [] [0] [200000]) (.seq (.seq (.reg [mi 6 0,qi 7 (.len (.t 6) false),qi 8 (.bin .lss (.t 7) (ic 2))] [] [0,8] [200000]) (.cond (.t 8) (.seq (.reg [mi 9 0,mi 2 9] [] [2] [200000]) .ret) .skip)) (.seq (.seq (.reg [qi 3 (.mv (ic 1))] [] [0,3] [200000]) (.block 0 (.loop B76_0))) R76_0)))
theorem mc76 : ofCode Tryz.prog [] Tryz.f76.ntmps [(0, ⟨[0], [200000], [], 0, [], none⟩),
  (1, ⟨[0, 8], [200000], [], 0, [], none⟩),
  (2, ⟨[2], [200000], [], 0, [], none⟩),
  (3, ⟨[0, 3], [200000], [], 0, [], none⟩),
  (4, ⟨[0, 3, 13], [200000], [], 0, [], none⟩),
  (5, ⟨[0, 3], [200000], [], 0, [], none⟩),
  (6, ⟨[0, 3, 25], [200000], [(0, 525), (1, 526), (2, 524), (3, 520), (4, 912), (5, 992), (6, 960), (7, 896), (8, 768), (9, 512)], 1023, [], none⟩),
  (7, ⟨[0, 3, 4], [200000], [], 0, [], none⟩),
  (8, ⟨[0, 3, 4, 5], [200000], [], 0, [], none⟩),
  (9, ⟨[0, 3, 4, 5, 32], [200000], [], 0, [], none⟩),
  (10, ⟨[0, 3, 4, 5], [200000], [], 0, [], none⟩),
  (11, ⟨[0, 3, 4, 5, 44], [200000], [(0, 525), (1, 526), (2, 524), (3, 520), (4, 912), (5, 992), (6, 960), (7, 896), (8, 768), (9, 512)], 1023, [], none⟩),
  (12, ⟨[0, 3, 4, 5], [200000], [], 0, [], none⟩),
  (13, ⟨[0, 3, 4, 5], [200000], [], 0, [], none⟩),
  (14, ⟨[0, 3], [200000], [], 0, [], none⟩),
  (15, ⟨[2], [200000], [], 0, [], none⟩),
  (16, ⟨[2], [200000], [], 0, [], none⟩)] (Tryz.f76.body.getD .skip) = some M76 := by kernel_rfl
theorem RunS76 {args : List AV} {st st' : List (Nat × Row)} {v : AV} (h : args.length ≤ 61) (hk : (st'.map (·.1)).Nodup) (hv : run Tryz.prog (retS [RV.tmp 2] v st') M76 [] ⟨entryA 0 args, st⟩) : FnS Tryz.prog 76 args st v st' :=
 FnS_run (by kernel_rfl) Tryz.func76 (by decide) rfl mc76 (by kernel_rfl) (by rw [Tryz.ntmps76]; exact h) (by rw [Tryz.ntmps76]; decide) hk hv
def B40_1 : MC := (.seq (.reg [qi 18 (.bin .lss (.t 17) (.t 16))] [] [3,8,9,10,15,16,17,18] [30,1015,1034,1036,2003]) (.seq (.cond (.t 18) .skip (.exit 2)) (.seq (.block 3 (.seq (.reg [qi 19 (.ia (.t 15) (.t 17) 1),qi 20 (.ld (.t 19) 1 false),mi 7 20] [] [3,7,8,9,10,15,16,17] [30,1015,1034,1036,2003]) (.seq (.reg [mi 21 7,qi 22 (.bin .neq (.t 21) (.c (.string ⟨#[42]⟩))),mi 23 22,gi 24 23 true (.mv (.t 7)),gi 25 23 true (.bin .neq (.t 24) (.c (.string ⟨#[42,42]⟩))),qi 26 (.pick (.t 23) (.t 25) (.c (.bool false)))] [] [3,7,8,9,10,15,16,17,26] [30,1015,1034,1036,2003]) (.cond (.t 26) (.reg [mi 27 3,mi 28 7,⟨some 29,none,.lits [.t 28] 1⟩,⟨some 30,none,.app (.t 27) (.t 29) 1 16⟩,mi 3 30] [] [3,8,9,10,15,16,17] [30,1015,1034,1036,2003]) .skip)))) (.reg [qi 31 (.bin .add (.t 17) (ic 1)),mi 17 31] [] [3,8,9,10,15,16,17] [30,1015,1034,1036,2003]))))
def B40_0 : MC := (.seq (.reg [qi 11 (.bin .lss (.t 10) (.t 9))] [] [3,8,9,10,11] [30,1034,1036,2003]) (.seq (.cond (.t 11) .skip (.exit 0)) (.seq (.block 1 (.seq (.reg [qi 12 (.ia (.t 8) (.t 10) 1),qi 13 (.ld (.t 12) 1 false),mi 5 13] [] [3,5,8,9,10] [30,1034,1036,2003]) (.seq (.reg [mi 14 5,⟨some 15,none,.call (.f 41) [.t 14]⟩,qi 16 (.len (.t 15) false),qi 17 (.mv (ic 0))] [] [3,8,9,10,15,16,17] [30,1015,1034,1036,2003]) (.block 2 (.loop B40_1))))) (.reg [qi 32 (.bin .add (.t 10) (ic 1)),mi 10 32] [] [3,8,9,10] [30,1034,1036,2003]))))
def R40_0 : MC := (.seq (.reg [mi 33 3,⟨some 34,none,.calls (.f 75) [.t 33]⟩] [] [3] [30,1034,1036,2003]) (.seq (.reg [mi 35 3,⟨some 36,none,.calls (.f 76) [.t 35]⟩,mi 2 36] [(2003,2003,0)] [2] [30,1034,1036]) .ret))
def M40 : MC := (.seq (.reg [qi 2 (.mv .nil)] [] [0] []) (.seq (.reg [qi 3 (.mv .nil)] [(3,2003,1)] [0,3] [30,1034,1036,2003]) (.seq (.seq (.reg [mi 8 0,qi 9 (.len (.t 8) false),qi 10 (.mv (ic 0))] [] [3,8,9,10] [30,1034,1036,2003]) (.block 0 (.loop B40_0))) R40_0)))
theorem mc40 : ofCode Tryz.prog [34, 36] Tryz.f40.ntmps [(0, ⟨[0], [], [], 0, [], none⟩),
  (1, ⟨[0, 3], [30, 1034, 1036, 2003], [], 0, [(3, 2003, 1)], none⟩),
  (2, ⟨[3, 8, 9, 10], [30, 1034, 1036, 2003], [], 0, [], none⟩),
  (3, ⟨[3, 8, 9, 10, 11], [30, 1034, 1036, 2003], [], 0, [], none⟩),
  (4, ⟨[3, 5, 8, 9, 10], [30, 1034, 1036, 2003], [], 0, [], none⟩),
  (5, ⟨[3, 8, 9, 10, 15, 16, 17], [30, 1015, 1034, 1036, 2003], [], 0, [], none⟩),
  (6, ⟨[3, 8, 9, 10, 15, 16, 17, 18], [30, 1015, 1034, 1036, 2003], [], 0, [], none⟩),
  (7, ⟨[3, 7, 8, 9, 10, 15, 16, 17], [30, 1015, 1034, 1036, 2003], [], 0, [], none⟩),
  (8, ⟨[3, 7, 8, 9, 10, 15, 16, 17, 26], [30, 1015, 1034, 1036, 2003], [], 0, [], none⟩),
  (9, ⟨[3, 8, 9, 10, 15, 16, 17], [30, 1015, 1034, 1036, 2003], [], 0, [], none⟩),
  (10, ⟨[3, 8, 9, 10, 15, 16, 17], [30, 1015, 1034, 1036, 2003], [], 0, [], none⟩),
  (11, ⟨[3, 8, 9, 10], [30, 1034, 1036, 2003], [], 0, [], none⟩),
  (12, ⟨[3], [30, 1034, 1036, 2003], [], 0, [], none⟩),
  (13, ⟨[2], [30, 1034, 1036], [], 0, [(2003, 2003, 0)], none⟩)] (Tryz.f40.body.getD .skip) = some M40 := by kernel_rfl
theorem Run40 {args : List PV} {v : AV} {rs : List (Nat × List PV)} (ids : List Bool) (h : args.length ≤ 37) (hv : run Tryz.prog (retK [RV.tmp 2] ids v rs) M40 [] ⟨entry 0 args, []⟩) : Fn Tryz.prog 40 args v rs :=
 Fn_run ids (by kernel_rfl) Tryz.func40 (by decide) rfl mc40 (by kernel_rfl) (by rw [Tryz.ntmps40]; exact h) (by rw [Tryz.ntmps40]; decide) hv
end Go.Vc

namespace Go.Vc
open Go.Proofs Go.Shelf Go.RowKit Go.Sort
set_option linter.unusedSimpArgs false
set_option linter.unusedVariables false
def ren189 : Ren := ⟨fun n => if n = 189 then 80 else if n = 125 then 105 else if n = 257 then 106 else if n = 128 then 127 else if n = 129 then 128 else if n = 294 then 129 else if n = 295 then 130 else if n = 296 then 131 else if n = 297 then 132 else if n = 298 then 133 else if n = 299 then 134 else if n = 216 then 135 else if n = 300 then 136 else if n = 301 then 137 else if n = 328 then 156 else if n = 329 then 152 else if n = 330 then 153 else if n = 331 then 157 else if n = 332 then 158 else if n = 215 then 159 else if n = 343 then 175 else n,
 fun t => if t = 28 then 31 else if t = 46 then 130 else if t = 51 then 161 else if t = 53 then 56 else if t = 183 then 155 else if t = 182 then 154 else if t = 131 then 87 else if t = 218 then 178 else if t = 222 then 182 else if t = 228 then 195 else if t = 229 then 196 else t,
 fun g => g⟩
def ren190 : Ren := ⟨fun n => if n = 190 then 75 else if n = 125 then 105 else if n = 258 then 104 else if n = 128 then 127 else if n = 129 then 128 else if n = 302 then 119 else if n = 303 then 120 else if n = 304 then 121 else if n = 305 then 122 else if n = 306 then 123 else if n = 307 then 124 else if n = 308 then 108 else if n = 309 then 125 else if n = 310 then 126 else if n = 333 then 151 else if n = 329 then 152 else if n = 330 then 153 else if n = 334 then 154 else if n = 335 then 155 else if n = 336 then 139 else if n = 344 then 174 else n,
 fun t => if t = 31 then 22 else if t = 46 then 130 else if t = 51 then 161 else if t = 53 then 56 else if t = 183 then 155 else if t = 182 then 154 else if t = 131 then 87 else if t = 218 then 178 else if t = 222 then 182 else if t = 228 then 195 else if t = 229 then 196 else t,
 fun g => g⟩
theorem lays189 : Lays.n189 Tryz.prog ren189 where
 mixed := by kernel_rfl
 f125 := by kernel_rfl
 f128 := by kernel_rfl
 f129 := by kernel_rfl
 f189 := by kernel_rfl
 f215 := by kernel_rfl
 f216 := by kernel_rfl
 f257 := by kernel_rfl
 f294 := by kernel_rfl
 f295 := by kernel_rfl
 f296 := by kernel_rfl
 f297 := by kernel_rfl
 f298 := by kernel_rfl
 f299 := by kernel_rfl
 f300 := by kernel_rfl
 f301 := by kernel_rfl
 f328 := by kernel_rfl
 f329 := by kernel_rfl
 f330 := by kernel_rfl
 f331 := by kernel_rfl
 f332 := by kernel_rfl
 f343 := by kernel_rfl
 t0 := by kernel_rfl
 a0 := fun w => by kernel_rfl
 z0 := fun w => by kernel_rfl
 v0 := fun w => by kernel_rfl
 t3 := by kernel_rfl
 a3 := fun w => by kernel_rfl
 z3 := fun w => by kernel_rfl
 v3 := fun w => by kernel_rfl
 t4 := by kernel_rfl
 a4 := fun w => by kernel_rfl
 z4 := fun w => by kernel_rfl
 v4 := fun w => by kernel_rfl
 t5 := by kernel_rfl
 a5 := fun w => by kernel_rfl
 z5 := fun w => by kernel_rfl
 v5 := fun w => by kernel_rfl
 t9 := by kernel_rfl
 a9 := fun w => by kernel_rfl
 z9 := fun w => by kernel_rfl
 v9 := fun w => by kernel_rfl
 t28 := by kernel_rfl
 a28 := fun w => by kernel_rfl
 z28 := fun w => by kernel_rfl
 v28 := fun w => by kernel_rfl
 t46 := by kernel_rfl
 a46 := fun w => by kernel_rfl
 z46 := fun w => by kernel_rfl
 v46 := fun w => by kernel_rfl
 t51 := by kernel_rfl
 a51 := fun w => by kernel_rfl
 z51 := fun w => by kernel_rfl
 v51 := fun w => by kernel_rfl
 t53 := by kernel_rfl
 a53 := fun w => by kernel_rfl
 z53 := fun w => by kernel_rfl
 v53 := fun w => by kernel_rfl
 t131 := by kernel_rfl
 a131 := fun w => by kernel_rfl
 z131 := fun w => by kernel_rfl
 v131 := fun w => by kernel_rfl
 t182 := by kernel_rfl
 a182 := fun w => by kernel_rfl
 z182 := fun w => by kernel_rfl
 v182 := fun w => by kernel_rfl
 t183 := by kernel_rfl
 a183 := fun w => by kernel_rfl
 z183 := fun w => by kernel_rfl
 v183 := fun w => by kernel_rfl
 t218 := by kernel_rfl
 a218 := fun w => by kernel_rfl
 z218 := fun w => by kernel_rfl
 v218 := fun w => by kernel_rfl
 t222 := by kernel_rfl
 a222 := fun w => by kernel_rfl
 z222 := fun w => by kernel_rfl
 v222 := fun w => by kernel_rfl
 t228 := by kernel_rfl
 a228 := fun w => by kernel_rfl
 z228 := fun w => by kernel_rfl
 v228 := fun w => by kernel_rfl
 t229 := by kernel_rfl
 a229 := fun w => by kernel_rfl
 z229 := fun w => by kernel_rfl
 v229 := fun w => by kernel_rfl
theorem lays190 : Lays.n190 Tryz.prog ren190 where
 mixed := by kernel_rfl
 f125 := by kernel_rfl
 f128 := by kernel_rfl
 f129 := by kernel_rfl
 f190 := by kernel_rfl
 f258 := by kernel_rfl
 f302 := by kernel_rfl
 f303 := by kernel_rfl
 f304 := by kernel_rfl
 f305 := by kernel_rfl
 f306 := by kernel_rfl
 f307 := by kernel_rfl
 f308 := by kernel_rfl
 f309 := by kernel_rfl
 f310 := by kernel_rfl
 f329 := by kernel_rfl
 f330 := by kernel_rfl
 f333 := by kernel_rfl
 f334 := by kernel_rfl
 f335 := by kernel_rfl
 f336 := by kernel_rfl
 f344 := by kernel_rfl
 t0 := by kernel_rfl
 a0 := fun w => by kernel_rfl
 z0 := fun w => by kernel_rfl
 v0 := fun w => by kernel_rfl
 t3 := by kernel_rfl
 a3 := fun w => by kernel_rfl
 z3 := fun w => by kernel_rfl
 v3 := fun w => by kernel_rfl
 t4 := by kernel_rfl
 a4 := fun w => by kernel_rfl
 z4 := fun w => by kernel_rfl
 v4 := fun w => by kernel_rfl
 t5 := by kernel_rfl
 a5 := fun w => by kernel_rfl
 z5 := fun w => by kernel_rfl
 v5 := fun w => by kernel_rfl
 t9 := by kernel_rfl
 a9 := fun w => by kernel_rfl
 z9 := fun w => by kernel_rfl
 v9 := fun w => by kernel_rfl
 t31 := by kernel_rfl
 a31 := fun w => by kernel_rfl
 z31 := fun w => by kernel_rfl
 v31 := fun w => by kernel_rfl
 t46 := by kernel_rfl
 a46 := fun w => by kernel_rfl
 z46 := fun w => by kernel_rfl
 v46 := fun w => by kernel_rfl
 t51 := by kernel_rfl
 a51 := fun w => by kernel_rfl
 z51 := fun w => by kernel_rfl
 v51 := fun w => by kernel_rfl
 t53 := by kernel_rfl
 a53 := fun w => by kernel_rfl
 z53 := fun w => by kernel_rfl
 v53 := fun w => by kernel_rfl
 t131 := by kernel_rfl
 a131 := fun w => by kernel_rfl
 z131 := fun w => by kernel_rfl
 v131 := fun w => by kernel_rfl
 t182 := by kernel_rfl
 a182 := fun w => by kernel_rfl
 z182 := fun w => by kernel_rfl
 v182 := fun w => by kernel_rfl
 t183 := by kernel_rfl
 a183 := fun w => by kernel_rfl
 z183 := fun w => by kernel_rfl
 v183 := fun w => by kernel_rfl
 t218 := by kernel_rfl
 a218 := fun w => by kernel_rfl
 z218 := fun w => by kernel_rfl
 v218 := fun w => by kernel_rfl
 t222 := by kernel_rfl
 a222 := fun w => by kernel_rfl
 z222 := fun w => by kernel_rfl
 v222 := fun w => by kernel_rfl
 t228 := by kernel_rfl
 a228 := fun w => by kernel_rfl
 z228 := fun w => by kernel_rfl
 v228 := fun w => by kernel_rfl
 t229 := by kernel_rfl
 a229 := fun w => by kernel_rfl
 z229 := fun w => by kernel_rfl
 v229 := fun w => by kernel_rfl
def srtI (l : List Int) : List Int := l.mergeSort fun a b => decide (a ≤ b)
theorem fnS80 (d : List Int) (hd : d.length < 1000000) (nm : Nat) : FnS Tryz.prog 80 [.row nm 0 d.length] [(nm, .sl 1 (d.map fun n => pI n))] (.tup []) [(nm, .sl 1 ((srtI d).map fun n => pI n))] :=
 fnS_sort1 (pv := fun n => pI n) (enc := Value.int .i64) (enters_of (fn := Tryz.f80) Tryz.func80 (by decide) rfl) (fun _ => rfl) (fun _ => rfl) srtI (fun d => by simp [srtI]) (by simp [srtI])
  (fun blk off cap zs w h1 h2 h3 => Any.slices_Sort_int lays189 blk off cap zs w h1 h2 h3) (fun p cap w => Any.slices_Sort_int_none lays189 p cap w) d hd nm
theorem map_srt (l : List ByteArray) : l.map pS = (l.map octs).map (fun x => PV.sc (encStr x)) := by
 rw [List.map_map]; rfl
theorem fnS75 (d : List ByteArray) (hd : d.length < 1000000) (nm : Nat) : FnS Tryz.prog 75 [.row nm 0 d.length] [(nm, .sl 1 (d.map pS))] (.tup []) [(nm, .sl 1 ((srtB d).map pS))] := by
 have := fnS_sort1 (P := Tryz.prog) (f := 75) (pv := fun x => PV.sc (encStr x)) (enc := encStr) (enters_of (fn := Tryz.f75) Tryz.func75 (by decide) rfl) (fun _ => rfl) (fun _ => rfl) srtL (fun d => by simp [srtL]) (by simp [srtL])
  (fun blk off cap zs w h1 h2 h3 => Any.slices_Sort_string lays190 blk off cap zs w h1 h2 h3) (fun p cap w => Any.slices_Sort_string_none lays190 p cap w) (d.map octs) (by simpa using hd) nm
 rw [List.length_map, ← map_srt] at this
 rw [show (srtB d).map pS = (srtL (d.map octs)).map (fun x => PV.sc (encStr x)) from by
  unfold srtB
  rw [List.map_map]; rfl]
 exact this
abbrev enN (k : Nat) : PV × PV := (pI (k : Int), .agg [])
theorem pick_perm {met got : List Nat} (h : got.Perm (List.range met.length)) : (got.map fun i => met.getD i 0).Perm met := by
 refine (h.map _).trans ?_
 rw [show (List.range met.length).map (fun i => met.getD i 0) = met from ?_]
 refine List.ext_getElem (by simp) fun i h1 h2 => ?_
 simp [List.getD_eq_getElem?_getD, h2]
theorem enN_get {met : List Nat} {i : Nat} (h : i < met.length) : (met.map enN).getD i default = enN (met.getD i 0) := by
 simp [List.getD_eq_getElem?_getD, h]
theorem fnS69 (met l : List Nat) (hm : met.Nodup) (hl : l.Pairwise (· < ·)) (hml : ∀ y, y ∈ met ↔ y ∈ l) (hlen : met.length ≤ 1000) :
  FnS Tryz.prog 69 [.mp 200000] [(200000, .mp (met.map enN))] (.pv (pNs l)) [(200000, .mp (met.map enN))] := by
 refine RunS69 (by simp) (by simp) ?_
 simp only [go_sem, M69]
 refine ⟨⟨by omega, by omega⟩, by decide, ?_⟩
 refine run_loop (T := List Nat × Option Nat × List Nat) (fun t => ⟨[(3, .row 7 0 t.2.2.length), (9, .it 9)], [(7, .sl 1 ((toI (t.2.2.map fun i => met.getD i 0)).map fun n => pI n)), (9, .mit 200000 met.length t.1 t.2.1), (200000, .mp (met.map enN))]⟩)
  (fun t => (t.2.2 ++ t.1).Perm (List.range met.length)) (fun t => t.1.length) ⟨List.range met.length, none, []⟩ ?_ ?_ ?_
 ·rfl
 ·simp
 rintro ⟨rem, cur, got⟩ hp
 simp only at hp
 have hgl : got.length + rem.length = met.length := by
  have := hp.length_eq
  simpa using this
 simp only [go_sem, B69_0, R69_0]
 refine ⟨fun h => ?_, fun i hi => ?_⟩
 ·subst h
  rw [List.append_nil] at hp
  have hpp := pick_perm hp
  have hS := fnS80 (toI (got.map fun i => met.getD i 0)) (by simp [toI]; simp at hgl; omega) 200001
  rw [show (toI (got.map fun i => met.getD i 0)).length = got.length by simp [toI]] at hS
  have hsr : srtI (toI (got.map fun i => met.getD i 0)) = toI l := sort_ris (hpp.nodup_iff.2 hm) hl fun y => (hpp.mem_iff).trans (hml y)
  rw [hsr] at hS
  have hll : l.length = got.length := by
   have h1 := ((List.perm_ext_iff_of_nodup hm (hl.imp fun hab => Nat.ne_of_lt hab)).2 hml).length_eq
   simp at hgl
   omega
  have tk : ((toI l).map fun n => pI n).take got.length = (toI l).map fun n => pI n := List.take_of_length_le (by simp [toI, hll])
  refine runR_calls (fun n => if n = 200001 then 7 else n) (by simp only [go_sem]) (by simp only [go_sem] <;> rfl) hS rfl (by intro e he; simp only [List.mem_cons, List.not_mem_nil, or_false] at he; rcases he with rfl <;> simp only [go_sem]) (by simp) (by simp) (by simp) (by intro e he h9; simp only [List.mem_cons, List.not_mem_nil, or_false] at he; rcases he with rfl <;> simp) ?_
  simp only [go_sem, tk]
 ·have hin : i < met.length := by
   have := hp.mem_iff.1 (List.mem_append_right got hi)
   simpa using this
  rw [enN_get hin]
  have hre := List.length_erase_of_mem hi
  have hpos := List.length_pos_of_mem hi
  have tk : ((toI (got.map fun i => met.getD i 0)).map fun n => pI n).take got.length = (toI (got.map fun i => met.getD i 0)).map fun n => pI n := List.take_of_length_le (by simp [toI])
  refine ⟨⟨rfl, rfl⟩, ⟨wf_ints [((met.getD i 0 : Nat) : Int)], by omega, by omega⟩, ⟨rem.erase i, some i, got ++ [i]⟩, ?_, ?_, by simp only; omega⟩
  ·rw [tk, List.map_append, toI_app, List.map_append, List.length_append]; rfl
  ·simp only
   refine List.Perm.trans ?_ hp
   rw [List.append_assoc]
   exact List.Perm.append_left _ (List.perm_cons_erase hi).symm
end Go.Vc

namespace Go.Vc
open Go.Proofs
set_option linter.unusedSimpArgs false
set_option linter.unusedVariables false
theorem keepB_not {d : List ByteArray} {j : Nat} (h : 1 ≤ j) : keepB d j = false ↔ d.getD j ⟨#[]⟩ = d.getD (j - 1) ⟨#[]⟩ := by
 simp [keepB]; omega
theorem keepB_yes {d : List ByteArray} {j : Nat} (h : 1 ≤ j) : keepB d j = true ↔ d.getD j ⟨#[]⟩ ≠ d.getD (j - 1) ⟨#[]⟩ := by
 simp [keepB]; omega
abbrev compR (d : List ByteArray) : List PV := (cupB d d.length).map pS ++ List.replicate (d.length - (cupB d d.length).length) (pS ⟨#[]⟩)
theorem fnS76 (d : List ByteArray) (hd : d.length ≤ 100000) :
  FnS Tryz.prog 76 [.row 200000 0 d.length] [(200000, .sl 1 (d.map pS))] (.row 200000 0 (cupB d d.length).length) [(200000, .sl 1 (compR d))] := by
 have all : (∀ j, j < d.length → keepB d j = true) → (cupB d d.length).length = d.length ∧ compR d = d.map pS := fun h => by
  have e := cupB_all d.length (Nat.le_refl _) h
  rw [List.take_length] at e
  unfold compR
  rw [e]
  exact ⟨rfl, by simp⟩
 refine RunS76 (by simp) (by simp) ?_
 simp only [go_sem, M76]
 refine ⟨fun h => ?_, fun h => ?_⟩
 ·obtain ⟨e1, e2⟩ := all (fun j hj => by
   have : j = 0 := by omega
   subst this; rfl)
  rw [e1, e2]
  exact ⟨rfl, rfl⟩
 refine run_loop (T := Nat) (fun k => ⟨[(0, .row 200000 0 d.length), (3, .pv (pI k))], [(200000, .sl 1 (d.map pS))]⟩) (fun k => 1 ≤ k ∧ k ≤ d.length ∧ ∀ j, j < k → keepB d j = true) (fun k => d.length - k) 1 rfl ⟨by omega, by omega, fun j hj => by
  have : j = 0 := by omega
  subst this; rfl⟩ ?_
 rintro k ⟨h1, h2, h3⟩
 by_cases hlt : k < d.length
 ·have e1 : ((k : Int) - 1).toNat = k - 1 := by omega
  simp only [go_sem, B76_0, R76_0, show (k : Int) < (d.length : Int) by omega, getD_map hlt, e1, getD_map (show k - 1 < d.length by omega)]
  have gk : ∀ j (h : j < d.length), d.getD j ⟨#[]⟩ = d[j] := fun j h => by simp [List.getD_eq_getElem?_getD, h]
  refine ⟨hlt, ⟨by omega, by omega⟩, ⟨by omega, by omega⟩, by omega, fun heq => ⟨⟨by omega, by omega⟩, ?_⟩, fun hne => ⟨⟨by omega, by omega⟩, k + 1, rfl, ⟨by omega, by omega, fun j hj => ?_⟩, by omega⟩⟩
  ·have hkn : keepB d k = false := (keepB_not h1).2 (by rw [gk k hlt, gk (k - 1) (by omega)]; exact heq)
   have hck : cupB d (k + 1) = cupB d k := by rw [cupB_succ, hkn]; rfl
   have hcl : (cupB d k).length = k := by rw [cupB_all k h2 h3]; simp; omega
   refine run_loop (T := Nat × List ByteArray) (fun t => ⟨[(0, .row 200000 0 d.length), (3, .pv (pI (cupB d (k + t.1)).length)), (4, .row 200000 k (d.length - k)), (5, .pv (pI t.1))], [(200000, .sl 1 (t.2.map pS))]⟩)
    (fun t => 1 ≤ t.1 ∧ k + t.1 ≤ d.length ∧ t.2.length = d.length ∧ (cupB d (k + t.1)).length < k + t.1 ∧ t.2.take (cupB d (k + t.1)).length = cupB d (k + t.1) ∧ ∀ j, k + t.1 ≤ j + 1 → t.2.getD j ⟨#[]⟩ = d.getD j ⟨#[]⟩)
    (fun t => d.length - t.1) (1, d) (by simp only; rw [hck, hcl]; rfl) ⟨by simp, by simp only; omega, rfl, by simp only; rw [hck, hcl]; omega, by simp only; rw [hck, hcl]; exact (cupB_all k h2 h3).symm, fun _ _ => rfl⟩ ?_
   rintro ⟨q, L⟩ ⟨q1, q2, q3, q4, q5, q6⟩
   simp only at q1 q2 q3 q4 q5 q6
   have gl : ∀ j (h : j < L.length), L.getD j ⟨#[]⟩ = L[j] := fun j h => by simp [List.getD_eq_getElem?_getD, h]
   by_cases hql : k + q < d.length
   ·have e3 : ((q : Int) - 1).toNat = q - 1 := by omega
    have hcL : (cupB d (k + q)).length < L.length := by omega
    have hj1 : L[k + q]'(by omega) = d[k + q] := by rw [← gl, ← gk]; exact q6 _ (by omega)
    have hj0 : L[k + (q - 1)]'(by omega) = d[k + (q - 1)]'(by omega) := by rw [← gl, ← gk]; exact q6 _ (by omega)
    have hsc := cupB_succ d (k + q)
    simp only [go_sem, B76_1, show (q : Int) < ((d.length - k : Nat) : Int) by omega, q3, e3, getD_map (show k + q < L.length by omega), getD_map (show k + (q - 1) < L.length by omega), getD_map hcL]
    refine ⟨hql, ⟨by omega, by omega⟩, ⟨by omega, by omega⟩, by omega, fun hne => ⟨hql, by omega, by omega, ⟨by omega, by omega⟩, ⟨by omega, by omega⟩, ⟨q + 1, L.set (cupB d (k + q)).length (L[k + q]'(by omega))⟩, ?_, ⟨by simp only; omega, by simp only; omega, by simp [q3], ?_, ?_, fun j hj => ?_⟩, by simp only; omega⟩, fun heq2 => ⟨⟨by omega, by omega⟩, ⟨q + 1, L⟩, ?_, ⟨by simp only; omega, by simp only; omega, q3, ?_, ?_, fun j hj => ?_⟩, by simp only; omega⟩⟩
    ·have hk : keepB d (k + q) = true := (keepB_yes (by omega)).2 (by rw [gk _ hql, show k + q - 1 = k + (q - 1) by omega, gk _ (by omega), ← hj1, ← hj0]; exact hne)
     rw [if_pos hk] at hsc
     simp only
     rw [show k + (q + 1) = k + q + 1 by omega, hsc, List.length_append, List.map_set]; rfl
    ·have hk : keepB d (k + q) = true := (keepB_yes (by omega)).2 (by rw [gk _ hql, show k + q - 1 = k + (q - 1) by omega, gk _ (by omega), ← hj1, ← hj0]; exact hne)
     rw [if_pos hk] at hsc
     simp only
     rw [show k + (q + 1) = k + q + 1 by omega, hsc, List.length_append, List.length_singleton]; omega
    ·have hk : keepB d (k + q) = true := (keepB_yes (by omega)).2 (by rw [gk _ hql, show k + q - 1 = k + (q - 1) by omega, gk _ (by omega), ← hj1, ← hj0]; exact hne)
     rw [if_pos hk] at hsc
     simp only
     rw [show k + (q + 1) = k + q + 1 by omega, hsc, List.length_append, List.length_singleton, List.take_succ_eq_append_getElem (by simp; omega), List.take_set_of_le (Nat.le_refl _), q5, List.getElem_set_self, gk _ hql, hj1]
    ·simp only at hj ⊢
     rw [← q6 j (by omega), List.getD_eq_getElem?_getD, List.getElem?_set_ne (by omega), ← List.getD_eq_getElem?_getD]
    ·have hk : keepB d (k + q) = false := (keepB_not (by omega)).2 (by rw [gk _ hql, show k + q - 1 = k + (q - 1) by omega, gk _ (by omega), ← hj1, ← hj0]; exact heq2)
     rw [hk] at hsc
     simp only [Bool.false_eq_true, if_false] at hsc
     simp only
     rw [show k + (q + 1) = k + q + 1 by omega, hsc]; rfl
    ·have hk : keepB d (k + q) = false := (keepB_not (by omega)).2 (by rw [gk _ hql, show k + q - 1 = k + (q - 1) by omega, gk _ (by omega), ← hj1, ← hj0]; exact heq2)
     rw [hk] at hsc
     simp only [Bool.false_eq_true, if_false] at hsc
     simp only
     rw [show k + (q + 1) = k + q + 1 by omega, hsc]; omega
    ·have hk : keepB d (k + q) = false := (keepB_not (by omega)).2 (by rw [gk _ hql, show k + q - 1 = k + (q - 1) by omega, gk _ (by omega), ← hj1, ← hj0]; exact heq2)
     rw [hk] at hsc
     simp only [Bool.false_eq_true, if_false] at hsc
     simp only
     rw [show k + (q + 1) = k + q + 1 by omega, hsc]; exact q5
    ·simp only at hj ⊢
     exact q6 j (by omega)
   ·have hkq : k + q = d.length := by omega
    rw [hkq] at q4 q5
    simp only [go_sem, B76_1, R76_1, show ¬ (q : Int) < ((d.length - k : Nat) : Int) by omega, q3, hkq]
    refine ⟨⟨by omega, by omega⟩, by omega, by omega, by omega, rfl, ?_⟩
    have e : (L.map pS).take (cupB d d.length).length = (cupB d d.length).map pS := by rw [← List.map_take, q5]
    unfold laidAt compR
    rw [e, List.drop_of_length_le (by simp; omega), List.append_nil]
  ·by_cases hj2 : j < k
   ·exact h3 j hj2
   ·have : j = k := by omega
    subst this
    exact (keepB_yes h1).2 (by rw [gk j hlt, gk (j - 1) (by omega)]; exact hne)
 ·simp only [go_sem, B76_0, R76_0, show ¬ (k : Int) < (d.length : Int) by omega]
  obtain ⟨e1, e2⟩ := all (fun j hj => h3 j (by omega))
  rw [e1, e2]
  exact ⟨rfl, rfl⟩
end Go.Vc

namespace Go.Vc
open Go.Proofs
set_option linter.unusedSimpArgs false
set_option linter.unusedVariables false
theorem parts_le (s : ByteArray) (hs : s.size ≤ 1000) : (partsB s).length ≤ 1001 := by
 unfold partsB
 split
 ·have l1 := cutS_count s
  have d1 := dots_le s
  omega
 ·simp
def sgK (bs : List ByteArray) (i : Nat) (k : Nat) : List ByteArray := ((bs.take i).map partsB).flatMap realB ++ realB ((partsB (bs.getD i ⟨#[]⟩)).take k)
theorem sgK_zero (bs : List ByteArray) (i : Nat) : sgK bs i 0 = ((bs.take i).map partsB).flatMap realB := by simp [sgK, realB]
theorem sgK_succ {bs : List ByteArray} {i k : Nat} {ps : List ByteArray} (he : partsB (bs.getD i ⟨#[]⟩) = ps) (h : k < ps.length) : sgK bs i (k + 1) = sgK bs i k ++ (if ps[k] ≠ sAny ∧ ps[k] ≠ sAll then [ps[k]] else []) := by
 unfold sgK
 rw [he, realK_succ h, List.append_assoc]
theorem sgK_end {bs : List ByteArray} {i : Nat} (h : i < bs.length) : sgK bs i (partsB (bs.getD i ⟨#[]⟩)).length = sgK bs (i + 1) 0 := by
 rw [sgK_zero]
 unfold sgK
 rw [List.take_length, List.take_succ_eq_append_getElem h, List.map_append, List.flatMap_append]
 simp [List.getD_eq_getElem?_getD, h]
theorem sgK_len {bs : List ByteArray} (hs : ∀ b ∈ bs, b.size ≤ 1000) : ∀ {i k : Nat}, i < bs.length → k ≤ (partsB (bs.getD i ⟨#[]⟩)).length → (sgK bs i k).length ≤ 1001 * i + k := by
 intro i k hi hk
 have h1 : ∀ j, j ≤ bs.length → (((bs.take j).map partsB).flatMap realB).length ≤ 1001 * j := by
  intro j
  induction j with
  | zero => intro _; simp
  | succ j ih =>
   intro hj
   rw [List.take_succ_eq_append_getElem (by omega), List.map_append, List.flatMap_append, List.length_append]
   have := ih (by omega)
   have h3 : (realB (partsB bs[j])).length ≤ (partsB bs[j]).length := List.length_filter_le _ _
   have h4 := parts_le bs[j] (hs _ (List.getElem_mem _))
   simp only [List.map_cons, List.map_nil, List.flatMap_cons, List.flatMap_nil, List.append_nil]
   omega
 unfold sgK
 rw [List.length_append]
 have := h1 i (by omega)
 have h3 : (realB ((partsB (bs.getD i ⟨#[]⟩)).take k)).length ≤ ((partsB (bs.getD i ⟨#[]⟩)).take k).length := List.length_filter_le _ _
 rw [List.length_take] at h3
 omega
theorem fn40 (bs : List ByteArray) (hb : bs.length ≤ 30) (hs : ∀ b ∈ bs, b.size ≤ 1000) : Fn Tryz.prog 40 [ss bs] (.pv (ss (signsOf (bs.map partsB)))) [] := by
 refine Run40 [] (by simp) ?_
 simp only [go_sem, M40]
 refine run_loop (T := Nat) (fun i => ⟨[(3, .row 2003 0 (sgK bs i 0).length), (8, .pv (ss bs)), (9, .pv (pI bs.length)), (10, .pv (pI i))], [(2003, .sl 1 ((sgK bs i 0).map pS))]⟩) (fun i => i ≤ bs.length) (fun i => bs.length - i) 0 (by simp [sgK_zero]) (Nat.zero_le _) ?_
 intro i hi
 by_cases hlt : i < bs.length
 ·simp only [go_sem, B40_0, show (i : Int) < (bs.length : Int) by omega, wf_ss, getD_map hlt]
  refine runR_call (by simp only [go_sem]) rfl (fn41 bs[i] (hs _ (List.getElem_mem hlt))) (.inl rfl) trivial ?_
  have hgi : bs.getD i ⟨#[]⟩ = bs[i] := by simp [List.getD_eq_getElem?_getD, hlt]
  obtain ⟨ps, hps⟩ : ∃ ps, ps = partsB bs[i] := ⟨_, rfl⟩
  have hpl := parts_le bs[i] (hs _ (List.getElem_mem hlt))
  rw [← hps] at hpl ⊢
  simp only [go_sem]
  refine run_loop (T := Nat) (fun k => ⟨[(3, .row 2003 0 (sgK bs i k).length), (8, .pv (ss bs)), (9, .pv (pI bs.length)), (10, .pv (pI i)), (15, .pv (ss ps)), (16, .pv (pI ps.length)), (17, .pv (pI k))], [(2003, .sl 1 ((sgK bs i k).map pS))]⟩) (fun k => k ≤ ps.length) (fun k => ps.length - k) 0 rfl (Nat.zero_le _) ?_
  intro k hk
  have hkl := sgK_len hs hlt (show k ≤ (partsB (bs.getD i ⟨#[]⟩)).length by rw [hgi, ← hps]; exact hk)
  have tk : ((sgK bs i k).map pS).take (sgK bs i k).length = (sgK bs i k).map pS := List.take_of_length_le (by simp)
  by_cases hkk : k < ps.length
  ·have hsc := sgK_succ (bs := bs) (i := i) (by rw [hgi, hps]) hkk
   by_cases h1 : ps[k] = sAny
   ·rw [if_neg (by simp [h1]), List.append_nil] at hsc
    simp only [go_sem, B40_1, show (k : Int) < (ps.length : Int) by omega, wf_ss, getD_map hkk, h1]
    exact ⟨⟨by omega, by omega⟩, k + 1, by rw [hsc]; rfl, hkk, by omega⟩
   ·by_cases h2 : ps[k] = sAll
    ·rw [if_neg (by simp [h2]), List.append_nil] at hsc
     simp only [go_sem, B40_1, show (k : Int) < (ps.length : Int) by omega, wf_ss, getD_map hkk, h2]
     exact ⟨⟨by omega, by omega⟩, k + 1, by rw [hsc]; rfl, hkk, by omega⟩
    ·rw [if_pos ⟨h1, h2⟩] at hsc
     simp only [go_sem, B40_1, show (k : Int) < (ps.length : Int) by omega, wf_ss, getD_map hkk, h1, h2, tk]
     exact ⟨⟨wf_ss [ps[k]], by omega, by omega⟩, ⟨by omega, by omega⟩, k + 1, by rw [hsc, List.map_append, List.length_append]; rfl, hkk, by omega⟩
  ·have hke : k = ps.length := by omega
   subst hke
   have he := sgK_end hlt
   rw [hgi, ← hps] at he
   simp only [go_sem, B40_1, show ¬ (ps.length : Int) < (ps.length : Int) by omega]
   exact ⟨⟨by omega, by omega⟩, i + 1, by rw [he]; rfl, hlt, by omega⟩
 ·have hie : i = bs.length := by omega
  subst hie
  have hlen : (sgK bs bs.length 0).length ≤ 40000 := by
   rw [sgK_zero, List.take_length]
   by_cases h0 : bs.length = 0
   ·rw [List.eq_nil_of_length_eq_zero h0]; simp
   ·have h1 := sgK_len (bs := bs) hs (i := bs.length - 1) (k := (partsB (bs.getD (bs.length - 1) ⟨#[]⟩)).length) (by omega) (Nat.le_refl _)
    rw [sgK_end (by omega), show bs.length - 1 + 1 = bs.length by omega, sgK_zero, List.take_length] at h1
    have h2 := parts_le (bs.getD (bs.length - 1) ⟨#[]⟩) (by
     rw [show bs.getD (bs.length - 1) ⟨#[]⟩ = bs[bs.length - 1]'(by omega) by simp [List.getD_eq_getElem?_getD, show bs.length - 1 < bs.length by omega]]
     exact hs _ (List.getElem_mem _))
    omega
  have hfin : cupB (srtB (sgK bs bs.length 0)) (srtB (sgK bs bs.length 0)).length = signsOf (bs.map partsB) := by
   rw [srtB_len, cup_srt, sgK_zero, List.take_length]; rfl
  simp only [go_sem, B40_0, R40_0, show ¬ (bs.length : Int) < (bs.length : Int) by omega]
  have hS := fnS75 (sgK bs bs.length 0) (by omega) 200001
  have hC := fnS76 (srtB (sgK bs bs.length 0)) (by rw [srtB_len]; omega)
  unfold compR at hC
  rw [hfin, srtB_len] at hC
  refine runR_calls (fun n => if n = 200001 then 2003 else n) (by simp only [go_sem]) (by simp only [go_sem] <;> rfl) hS rfl (by intro e he; simp only [List.mem_cons, List.not_mem_nil, or_false] at he; rcases he with rfl <;> simp only [go_sem]) (by simp) (by simp) (by simp) (by intro e he h9; simp only [List.mem_cons, List.not_mem_nil, or_false] at he; rcases he with rfl <;> simp) ?_
  simp only [go_sem]
  refine runR_calls (fun n => if n = 200000 then 2003 else n) (by simp only [go_sem]) (by simp only [go_sem] <;> rfl) hC rfl (by intro e he; simp only [List.mem_cons, List.not_mem_nil, or_false] at he; rcases he with rfl <;> simp only [go_sem]) (by simp) (by simp) (by simp) (by intro e he h9; simp only [List.mem_cons, List.not_mem_nil, or_false] at he; rcases he with rfl <;> simp) ?_
  simp only [go_sem]
  rw [List.take_left' (by simp)]
end Go.Vc

namespace Go.Vc
open Go.Proofs
set_option maxRecDepth 100000
def B13_0 : MC := (.seq (.reg [qi 18 (.bin .lss (.t 17) (.t 16))] [] [0,2,15,16,17,18] [2,42,57,62,68,75,1027]) (.seq (.cond (.t 18) .skip (.exit 0)) (.seq (.block 1 (.seq (.reg [qi 19 (.ia (.t 15) (.t 17) 1),qi 20 (.ld (.t 19) 1 false),mi 5 20] [] [0,2,5,15,16,17] [2,42,57,62,68,75,1027]) (.seq (.reg [mi 21 5,⟨some 22,none,.call (.f 39) [.t 21]⟩,qi 23 (.not (.t 22))] [] [0,2,15,16,17,23] [2,42,57,62,68,75,1022,1027]) (.cond (.t 23) (.seq (.reg [qi 24 (.mk [.e0,.e0,.e0,.e0] []),⟨none,none,.st (.t 2) (.t 24) 4⟩,qi 3 (.mv (ic 1))] [] [2,3] [2,42,57,62,68,75,1027]) .ret) .skip)))) (.reg [qi 25 (.bin .add (.t 17) (ic 1)),mi 17 25] [] [0,2,15,16,17] [2,42,57,62,68,75,1027]))))
def B13_2 : MC := (.seq (.reg [qi 48 (.bin .lss (.t 47) (.t 46))] [] [2,6,7,29,30,31,45,46,47,48] [2,6,42,57,62,68,75,1027,1045]) (.seq (.cond (.t 48) .skip (.exit 4)) (.seq (.block 5 (.seq (.reg [qi 49 (.ia (.t 45) (.t 47) 1),qi 50 (.ld (.t 49) 1 false),mi 10 50] [] [2,6,7,10,29,30,31,45,46,47] [2,6,42,57,62,68,75,1027,1045]) (.seq (.reg [qi 51 (.fa (.t 6) 1),qi 52 (.ld (.t 51) 1 false),qi 53 (.ld (.t 6) 4 true),mi 54 10,⟨some 55,none,.call (.f 42) [.t 53,.t 54]⟩,⟨some 56,none,.lits [.t 55] 1⟩,⟨some 57,none,.app (.t 52) (.t 56) 1 24⟩,qi 58 (.fa (.t 6) 1),⟨none,none,.st (.t 58) (.t 57) 1⟩] [] [2,6,7,29,30,31,45,46,47] [2,6,42,57,62,68,75,1027,1045]) (.reg [qi 59 (.fa (.t 6) 2),qi 60 (.ld (.t 59) 1 false),⟨some 61,none,.lits [.nil] 1⟩,⟨some 62,none,.app (.t 60) (.t 61) 1 24⟩,qi 63 (.fa (.t 6) 2),⟨none,none,.st (.t 63) (.t 62) 1⟩] [] [2,6,7,29,30,31,45,46,47] [2,6,42,57,62,68,75,1027,1045])))) (.reg [qi 64 (.bin .add (.t 47) (ic 1)),mi 47 64] [] [2,6,7,29,30,31,45,46,47] [2,6,42,57,62,68,75,1027,1045]))))
def R13_2 : MC := (.seq (.reg [qi 65 (.fa (.t 6) 1),qi 66 (.ld (.t 65) 1 false),⟨some 67,none,.lits [.nil] 1⟩,⟨some 68,none,.app (.t 66) (.t 67) 1 24⟩,qi 69 (.fa (.t 6) 1),⟨none,none,.st (.t 69) (.t 68) 1⟩] [] [2,6,7,29,30,31] [2,6,42,57,62,68,75,1027]) (.reg [qi 70 (.fa (.t 6) 2),qi 71 (.ld (.t 70) 1 false),mi 72 7,⟨some 73,none,.lits [.t 72] 1⟩,⟨some 74,none,.lits [.t 73] 1⟩,⟨some 75,none,.app (.t 71) (.t 74) 1 24⟩,qi 76 (.fa (.t 6) 2),⟨none,none,.st (.t 76) (.t 75) 1⟩] [] [2,6,29,30,31] [2,6,42,57,62,68,75,1027]))
def B13_1 : MC := (.seq (.reg [qi 32 (.bin .lss (.t 31) (.t 30))] [] [2,6,29,30,31,32] [2,6,42,57,62,68,75,1027]) (.seq (.cond (.t 32) .skip (.exit 2)) (.seq (.block 3 (.seq (.reg [mi 33 31,qi 34 (.ia (.t 29) (.t 31) 1),qi 35 (.ld (.t 34) 1 false),mi 7 33,mi 8 35] [] [2,6,7,8,29,30,31] [2,6,42,57,62,68,75,1027]) (.seq (.reg [qi 36 (.fa (.t 6) 3),qi 37 (.ld (.t 36) 1 false),qi 38 (.fa (.t 6) 1),qi 39 (.ld (.t 38) 1 false),qi 40 (.len (.t 39) false),⟨some 41,none,.lits [.t 40] 1⟩,⟨some 42,none,.app (.t 37) (.t 41) 1 8⟩,qi 43 (.fa (.t 6) 3),⟨none,none,.st (.t 43) (.t 42) 1⟩] [] [2,6,7,8,29,30,31] [2,6,42,57,62,68,75,1027]) (.seq (.seq (.reg [mi 44 8,⟨some 45,none,.call (.f 41) [.t 44]⟩,qi 46 (.len (.t 45) false),qi 47 (.mv (ic 0))] [] [2,6,7,29,30,31,45,46,47] [2,6,42,57,62,68,75,1027,1045]) (.block 4 (.loop B13_2))) R13_2)))) (.reg [qi 77 (.bin .add (.t 31) (ic 1)),mi 31 77] [] [2,6,29,30,31] [2,6,42,57,62,68,75,1027]))))
def R13_1 : MC := (.seq (.reg [qi 78 (.ld (.t 6) 4 true),⟨none,none,.st (.t 2) (.t 78) 4⟩,qi 3 (.mv (ic 0))] [] [2,3] [2,42,57,62,68,75,1027]) .ret)
def R13_0 : MC := (.seq (.reg [mi 26 0,⟨some 27,none,.call (.f 40) [.t 26]⟩,qi 28 (.mk [.e0,.e0,.e0,.e0] [(0,1,(.t 27))]),⟨some 6,none,.alloc [.e0,.e0,.e0,.e0]⟩,⟨none,none,.st (.t 6) (.t 28) 4⟩] [] [0,2,6] [2,6,42,57,62,68,75,1027]) (.seq (.seq (.reg [mi 29 0,qi 30 (.len (.t 29) false),qi 31 (.mv (ic 0))] [] [2,6,29,30,31] [2,6,42,57,62,68,75,1027]) (.block 2 (.loop B13_1))) R13_1))
def M13 : MC := (.seq (.reg [⟨some 2,none,.alloc [.e0,.e0,.e0,.e0]⟩,qi 3 (.mv (ic 0))] [] [0,2] [2,42,57,62,68,75,1027]) (.seq (.seq (.reg [mi 11 0,qi 12 (.len (.t 11) false),qi 13 (.bin .gtr (.t 12) (ic 20))] [] [0,2,13] [2,42,57,62,68,75,1027]) (.cond (.t 13) (.seq (.reg [qi 14 (.mk [.e0,.e0,.e0,.e0] []),⟨none,none,.st (.t 2) (.t 14) 4⟩,qi 3 (.mv (ic 1))] [] [2,3] [2,42,57,62,68,75,1027]) .ret) .skip)) (.seq (.seq (.reg [mi 15 0,qi 16 (.len (.t 15) false),qi 17 (.mv (ic 0))] [] [0,2,15,16,17] [2,42,57,62,68,75,1027]) (.block 0 (.loop B13_0))) R13_0)))
theorem mc13 : ofCode Tryz.prog [] Tryz.f13.ntmps [(0, ⟨[0, 2], [2, 42, 57, 62, 68, 75, 1027], [], 0, [], none⟩),
  (1, ⟨[0, 2, 13], [2, 42, 57, 62, 68, 75, 1027], [], 0, [], none⟩),
  (2, ⟨[2, 3], [2, 42, 57, 62, 68, 75, 1027], [], 0, [], none⟩),
  (3, ⟨[0, 2, 15, 16, 17], [2, 42, 57, 62, 68, 75, 1027], [], 0, [], none⟩),
  (4, ⟨[0, 2, 15, 16, 17, 18], [2, 42, 57, 62, 68, 75, 1027], [], 0, [], none⟩),
  (5, ⟨[0, 2, 5, 15, 16, 17], [2, 42, 57, 62, 68, 75, 1027], [], 0, [], none⟩),
  (6, ⟨[0, 2, 15, 16, 17, 23], [2, 42, 57, 62, 68, 75, 1022, 1027], [], 0, [], none⟩),
  (7, ⟨[2, 3], [2, 42, 57, 62, 68, 75, 1027], [], 0, [], none⟩),
  (8, ⟨[0, 2, 15, 16, 17], [2, 42, 57, 62, 68, 75, 1027], [], 0, [], none⟩),
  (9, ⟨[0, 2, 6], [2, 6, 42, 57, 62, 68, 75, 1027], [], 0, [], none⟩),
  (10, ⟨[2, 6, 29, 30, 31], [2, 6, 42, 57, 62, 68, 75, 1027], [], 0, [], none⟩),
  (11, ⟨[2, 6, 29, 30, 31, 32], [2, 6, 42, 57, 62, 68, 75, 1027], [], 0, [], none⟩),
  (12, ⟨[2, 6, 7, 8, 29, 30, 31], [2, 6, 42, 57, 62, 68, 75, 1027], [], 0, [], none⟩),
  (13, ⟨[2, 6, 7, 8, 29, 30, 31], [2, 6, 42, 57, 62, 68, 75, 1027], [], 0, [], none⟩),
  (14, ⟨[2, 6, 7, 29, 30, 31, 45, 46, 47], [2, 6, 42, 57, 62, 68, 75, 1027, 1045], [], 0, [], none⟩),
  (15, ⟨[2, 6, 7, 29, 30, 31, 45, 46, 47, 48], [2, 6, 42, 57, 62, 68, 75, 1027, 1045], [], 0, [], none⟩),
  (16, ⟨[2, 6, 7, 10, 29, 30, 31, 45, 46, 47], [2, 6, 42, 57, 62, 68, 75, 1027, 1045], [], 0, [], none⟩),
  (17, ⟨[2, 6, 7, 29, 30, 31, 45, 46, 47], [2, 6, 42, 57, 62, 68, 75, 1027, 1045], [(0, 451), (1, 450), (2, 500), (3, 504), (4, 0), (5, 0), (6, 0), (7, 384), (8, 0)], 191, [], none⟩),
  (18, ⟨[2, 6, 7, 29, 30, 31, 45, 46, 47], [2, 6, 42, 57, 62, 68, 75, 1027, 1045], [], 0, [], none⟩),
  (19, ⟨[2, 6, 7, 29, 30, 31, 45, 46, 47], [2, 6, 42, 57, 62, 68, 75, 1027, 1045], [], 0, [], none⟩),
  (20, ⟨[2, 6, 7, 29, 30, 31], [2, 6, 42, 57, 62, 68, 75, 1027], [], 0, [], none⟩),
  (21, ⟨[2, 6, 29, 30, 31], [2, 6, 42, 57, 62, 68, 75, 1027], [], 0, [], none⟩),
  (22, ⟨[2, 6, 29, 30, 31], [2, 6, 42, 57, 62, 68, 75, 1027], [], 0, [], none⟩),
  (23, ⟨[2, 3], [2, 42, 57, 62, 68, 75, 1027], [], 0, [], none⟩)] (Tryz.f13.body.getD .skip) = some M13 := by kernel_rfl
theorem Run13 {args : List PV} {v : AV} {rs : List (Nat × List PV)} (ids : List Bool) (h : args.length ≤ 79) (hv : run Tryz.prog (retK [RV.cell 2 4 true, RV.tmp 3] ids v rs) M13 [] ⟨entry 0 args, []⟩) : Fn Tryz.prog 13 args v rs :=
 Fn_run ids (by kernel_rfl) Tryz.func13 (by decide) rfl mc13 (by kernel_rfl) (by rw [Tryz.ntmps13]; exact h) (by rw [Tryz.ntmps13]; decide) hv
end Go.Vc
