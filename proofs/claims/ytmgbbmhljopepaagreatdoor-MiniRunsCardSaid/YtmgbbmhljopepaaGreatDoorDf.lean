/- A part of the proofs of the seat YtmgbbmhljopepaaGreatDoor: the contracts of functions, each proved out of its code. -/
import Derived.Test.YtmgbbmhljopepaaGreatDoorNa
import Derived.Test.YtmgbbmhljopepaaGreatDoorVh
import Derived.Test.YtmgbbmhljopepaaGreatDoorProg
import Derived.Test.YtmgbbmhljopepaaGreatDoorDe
import Derived.Test.YtmgbbmhljopepaaGreatDoorVf
import Derived.Lib.TrailingZeros
import Derived.Shelf.Spec.TrailingZeros
namespace Go.Vc
set_option linter.unusedSimpArgs false
set_option linter.unusedVariables false
def wordN (p : Nat → Bool) : Nat → Nat
 | 0 => 0
 | n + 1 => 2 ^ n * (if p n = true then 1 else 0) + wordN p n
theorem wordN_lt (p : Nat → Bool) : ∀ n, wordN p n < 2 ^ n
 | 0 => by simp [wordN]
 | n + 1 => by
  have := wordN_lt p n
  rw [wordN, Nat.pow_succ]
  split <;> omega
theorem wordN_bit (p : Nat → Bool) : ∀ n j, (wordN p n).testBit j = (decide (j < n) && p j)
 | 0, j => by simp [wordN]
 | n + 1, j => by
  rw [wordN, Nat.testBit_two_pow_mul_add _ (wordN_lt p n)]
  split
  ·rename_i h
   rw [wordN_bit p n j]; simp [h, show j < n + 1 by omega]
  ·rename_i h
   rcases Nat.lt_or_ge n j with h1 | h1
   ·rw [show decide (j < n + 1) = false by simp; omega, Bool.false_and]
    obtain ⟨d, hd⟩ : ∃ d, j - n = d + 1 := ⟨j - n - 1, by omega⟩
    rw [hd]
    split <;> simp [Nat.testBit_succ]
   ·obtain rfl : j = n := by omega
    rw [Nat.sub_self]
    cases p j <;> simp
theorem wordN_ext {p q : Nat → Bool} {n : Nat} (h : ∀ j, j < n → p j = q j) : wordN p n = wordN q n := Nat.eq_of_testBit_eq fun j => by
 rw [wordN_bit, wordN_bit]
 by_cases hj : j < n
 ·simp [hj, h j hj]
 ·simp [hj]
theorem wordN_inj {p q : Nat → Bool} {n : Nat} (h : wordN p n = wordN q n) : ∀ j, j < n → p j = q j := fun j hj => by
 have e : (wordN p n).testBit j = (wordN q n).testBit j := by rw [h]
 rw [wordN_bit, wordN_bit] at e
 simpa [hj] using e
theorem wordN_or (p q : Nat → Bool) (n : Nat) : wordN p n ||| wordN q n = wordN (fun j => p j || q j) n := Nat.eq_of_testBit_eq fun j => by
 rw [Nat.testBit_or, wordN_bit, wordN_bit, wordN_bit]
 cases decide (j < n) <;> simp
theorem wordN_one {n m : Nat} (h : m < n) : wordN (fun j => decide (j = m)) n = 2 ^ m := Nat.eq_of_testBit_eq fun j => by
 rw [wordN_bit, Nat.testBit_two_pow]
 by_cases hj : j = m
 ·subst hj; simp [h]
 ·simp [hj, Ne.symm hj]
theorem wordN_zero (n : Nat) : wordN (fun _ => false) n = 0 := Nat.eq_of_testBit_eq fun j => by rw [wordN_bit]; simp
def sumB (l : List Nat) : Nat := (l.map fun b => 2 ^ b).sum
theorem sumB_word (p : Nat → Bool) : ∀ n, sumB ((List.range n).filter p) = wordN p n
 | 0 => rfl
 | n + 1 => by
  rw [List.range_succ, List.filter_append, wordN, ← sumB_word p n]
  unfold sumB
  rw [List.map_append, List.sum_append]
  by_cases h : p n = true <;> simp [h, Nat.add_comm]
theorem sumB_mul {b : Nat} : ∀ {l : List Nat}, (∀ x ∈ l, b < x) → ∃ k, sumB l = 2 ^ b * (2 * k)
 | [], _ => ⟨0, rfl⟩
 | x :: l, h => by
  obtain ⟨k, hk⟩ := sumB_mul (l := l) fun y hy => h y (List.mem_cons_of_mem _ hy)
  obtain ⟨d, hd⟩ : ∃ d, x = b + 1 + d := ⟨x - b - 1, by have := h x (by simp); omega⟩
  refine ⟨2 ^ d + k, ?_⟩
  have : sumB (x :: l) = 2 ^ x + sumB l := by simp [sumB]
  rw [this, hk, hd, Nat.pow_add, Nat.pow_succ]
  rw [Nat.mul_add, Nat.mul_add, ← Nat.mul_assoc, ← Nat.mul_assoc]
theorem sumB_cons {b : Nat} {l : List Nat} (h : (b :: l).Pairwise (· < ·)) : ∃ k, sumB (b :: l) = 2 ^ b * (2 * k + 1) ∧ sumB l = 2 ^ b * (2 * k) := by
 obtain ⟨k, hk⟩ := sumB_mul (b := b) (l := l) fun x hx => (List.pairwise_cons.1 h).1 x hx
 refine ⟨k, ?_, hk⟩
 have : sumB (b :: l) = 2 ^ b + sumB l := by simp [sumB]
 rw [this, hk, Nat.mul_add, Nat.mul_one, Nat.add_comm]
theorem clear_low (b k : Nat) : (2 ^ b * (2 * k + 1)) &&& (2 ^ b * (2 * k + 1) - 1) = 2 ^ b * (2 * k) := by
 have hp : 0 < 2 ^ b := Nat.two_pow_pos b
 have e : 2 ^ b * (2 * k + 1) - 1 = 2 ^ b * (2 * k) + (2 ^ b - 1) := by rw [Nat.mul_add]; omega
 rw [e]
 refine Nat.eq_of_testBit_eq fun j => ?_
 rw [Nat.testBit_and, Nat.testBit_two_pow_mul_add _ (show 2 ^ b - 1 < 2 ^ b by omega), Nat.testBit_two_pow_mul, Nat.testBit_two_pow_mul]
 by_cases hj : j < b
 ·simp [hj, show ¬ b ≤ j by omega]
 ·simp only [hj, if_false, show b ≤ j by omega, decide_true, Bool.true_and]
  rcases Nat.eq_zero_or_pos (j - b) with h0 | h0
  ·rw [h0]; simp
  ·obtain ⟨d, hd⟩ : ∃ d, j - b = d + 1 := ⟨j - b - 1, by omega⟩
   rw [hd, Nat.testBit_succ, Nat.testBit_succ, show (2 * k + 1) / 2 = k by omega, show 2 * k / 2 = k by omega, Bool.and_self]
theorem ctz_low {b k : Nat} (h : 2 ^ b * (2 * k + 1) < 2 ^ 64) : Lib.ctz 64 (2 ^ b * (2 * k + 1)) = b := by
 have h0 : 2 ^ b * (2 * k + 1) ≠ 0 := by
  have := Nat.two_pow_pos b
  intro e
  rcases Nat.mul_eq_zero.1 e with h1 | h1 <;> omega
 have h1 := (Lib.lowest_bit 64 _ h0 h).1
 rw [Lib.and_neg 64 b k h] at h1
 exact (Nat.pow_right_inj (by omega : 1 < 2)).1 h1.symm
theorem bits_step {B : List Nat} (hB : B.Pairwise (· < ·)) (hs : sumB B < 2 ^ 64) {m : Nat} (hm : m < B.length) :
  Lib.ctz 64 (sumB (B.drop m)) = B[m] ∧ sumB (B.drop m) &&& (sumB (B.drop m) - 1) = sumB (B.drop (m + 1)) ∧ 0 < sumB (B.drop m) ∧ sumB (B.drop m) < 2 ^ 64 := by
 have hd : B.drop m = B[m] :: B.drop (m + 1) := List.drop_eq_getElem_cons hm
 have hle : sumB (B.drop m) ≤ sumB B := by
  have e : sumB B = sumB (B.take m) + sumB (B.drop m) := by
   unfold sumB
   rw [← List.sum_append, ← List.map_append, List.take_append_drop]
  omega
 have hp : (B[m] :: B.drop (m + 1)).Pairwise (· < ·) := by rw [← hd]; exact hB.sublist (List.drop_sublist _ _)
 obtain ⟨k, h1, h2⟩ := sumB_cons hp
 rw [← hd] at h1
 refine ⟨?_, ?_, ?_, by omega⟩
 ·rw [h1]; exact ctz_low (by rw [← h1]; omega)
 ·rw [h1, clear_low, h2]
 ·rw [h1]
  exact Nat.mul_pos (Nat.two_pow_pos _) (by omega)
theorem sumB_end {B : List Nat} {m : Nat} (hm : B.length ≤ m) : sumB (B.drop m) = 0 := by rw [List.drop_of_length_le hm]; rfl
def wd (p : Nat → Bool) (k : Nat) : Nat := wordN (fun j => p (64 * k + j)) 64
theorem wd_lt (p : Nat → Bool) (k : Nat) : wd p k < 18446744073709551616 := wordN_lt _ 64
theorem wd_or (p q : Nat → Bool) (k : Nat) : wd p k ||| wd q k = wd (fun j => p j || q j) k := wordN_or _ _ 64
theorem wd_inj {p q : Nat → Bool} (h : ∀ k, k < 3 → wd p k = wd q k) : ∀ j, j < 192 → p j = q j := fun j hj => by
 have := wordN_inj (h (j / 64) (by omega)) (j % 64) (by omega)
 simpa [show 64 * (j / 64) + j % 64 = j by omega] using this
theorem wd_zero (k : Nat) : wd (fun _ => false) k = 0 := wordN_zero 64
theorem wd_add (p : Nat → Bool) {i k : Nat} (hk : i / 64 = k) : wd p k ||| 2 ^ (i % 64) = wd (fun j => p j || decide (j = i)) k := by
 rw [← wordN_one (n := 64) (m := i % 64) (by omega)]
 unfold wd
 rw [wordN_or]
 refine wordN_ext fun j hj => ?_
 have : (j = i % 64) ↔ (64 * k + j = i) := by omega
 simp [this]
theorem wd_same (p : Nat → Bool) {i k : Nat} (hk : i / 64 ≠ k) : wd (fun j => p j || decide (j = i)) k = wd p k := wordN_ext fun j hj => by
 have : ¬ 64 * k + j = i := by omega
 simp [this]
def wbits (p : Nat → Bool) (k : Nat) : List Nat := (List.range 64).filter fun j => p (64 * k + j)
theorem wbits_ris (p : Nat → Bool) (k : Nat) : (wbits p k).Pairwise (· < ·) := List.pairwise_lt_range.filter _
theorem wbits_lt {p : Nat → Bool} {k b : Nat} (h : b ∈ wbits p k) : b < 64 := List.mem_range.1 (List.mem_filter.1 h).1
theorem wbits_sum (p : Nat → Bool) (k : Nat) : sumB (wbits p k) = wd p k := sumB_word _ 64
def elemsB (p : Nat → Bool) (k : Nat) : List Nat := (List.range (64 * k)).filter p
theorem elemsB_succ (p : Nat → Bool) (k : Nat) : elemsB p (k + 1) = elemsB p k ++ (wbits p k).map fun b => 64 * k + b := by
 unfold elemsB wbits
 rw [show 64 * (k + 1) = 64 * k + 64 by omega, List.range_add, List.filter_append, List.filter_map]
 rfl
end Go.Vc

namespace Go.Vc
open Go.Proofs
set_option maxRecDepth 100000
def B44_0 : MC := (.seq (.reg [⟨some 9, none, .q (.bin .lss (.t 8) (.t 7))⟩] [] [2, 3, 6, 7, 8, 9] [2, 3]) (.seq (.cond (.t 9) .skip (.exit 0)) (.seq (.block 1 (.seq (.reg [⟨some 10, none,
 .q (.ia (.t 6) (.t 8) 1)⟩, ⟨some 11, none, .q (.ld (.t 10) 1 false)⟩, ⟨some 5, none, .q (.mv (.t 11))⟩] [] [2, 3, 5, 6, 7, 8] [2, 3]) (.reg [⟨some 12, none, .q (.mv (.t 5))⟩,
 ⟨some 13, none, .q (.bin .quo (.t 12) (.c (.int .i64 64)))⟩, ⟨some 14, none, .q (.iaa (.t 3) (.t 13) 3 1)⟩, ⟨some 15, none, .q (.ld (.t 14) 1 false)⟩, ⟨some 16, none,
 .q (.mv (.t 5))⟩, ⟨some 17, none, .q (.bin .rem (.t 16) (.c (.int .i64 64)))⟩, ⟨some 18, none, .q (.shf true (.c (.int .u64 1)) (.t 17))⟩, ⟨some 19, none, .q (.bin .or (.t 15)
 (.t 18))⟩, ⟨some 20, none, .q (.iaa (.t 3) (.t 13) 3 1)⟩, ⟨none, none, .st (.t 20) (.t 19) 1⟩] [] [2, 3, 6, 7, 8] [2, 3]))) (.reg [⟨some 21, none, .q (.bin .add (.t 8)
 (.c (.int .i64 1)))⟩, ⟨some 8, none, .q (.mv (.t 21))⟩] [] [2, 3, 6, 7, 8] [2, 3]))))
def R44_0 : MC := (.seq (.reg [⟨some 22, none, .q (.ld (.t 3) 3 true)⟩, ⟨none, none, .st (.t 2) (.t 22) 3⟩] [] [2] [2]) .ret)
def M44 : MC := (.seq (.reg [⟨some 2, none, .alloc [.pv (.sc (.int .u64 0)), .pv (.sc (.int .u64 0)), .pv (.sc (.int .u64 0))]⟩] [] [0, 2] [2]) (.seq (.reg [⟨some 3, none,
 .alloc [.pv (.sc (.int .u64 0)), .pv (.sc (.int .u64 0)), .pv (.sc (.int .u64 0))]⟩] [] [0, 2, 3] [2, 3]) (.seq (.seq (.reg [⟨some 6, none, .q (.mv (.t 0))⟩, ⟨some 7, none,
 .q (.len (.t 6) false)⟩, ⟨some 8, none, .q (.mv (.c (.int .i64 0)))⟩] [] [2, 3, 6, 7, 8] [2, 3]) (.block 0 (.loop B44_0))) R44_0)))
theorem mc44 : ofCode Tryz.prog [] Tryz.f44.ntmps [(0, ⟨[0, 2], [2], [], 0, [], none⟩),
  (1, ⟨[0, 2, 3], [2, 3], [], 0, [], none⟩),
  (2, ⟨[2, 3, 6, 7, 8], [2, 3], [], 0, [], none⟩),
  (3, ⟨[2, 3, 6, 7, 8, 9], [2, 3], [], 0, [], none⟩),
  (4, ⟨[2, 3, 5, 6, 7, 8], [2, 3], [], 0, [], none⟩),
  (5, ⟨[2, 3, 6, 7, 8], [2, 3], [(0, 911), (1, 910), (2, 908), (3, 904), (4, 1008), (5, 992), (6, 960), (7, 896), (8, 768), (9, 0)], 511, [], none⟩),
  (6, ⟨[2, 3, 6, 7, 8], [2, 3], [], 0, [], none⟩),
  (7, ⟨[2], [2], [], 0, [], none⟩)] (Tryz.f44.body.getD .skip) = some M44 := by kernel_rfl
theorem Run44 {args : List PV} {v : AV} {rs : List (Nat × List PV)} (ids : List Bool) (h : args.length ≤ 23) (hv : run Tryz.prog (retK [RV.cell 2 3 true] ids v rs) M44 [] ⟨entry 0 args, []⟩) : Fn Tryz.prog 44 args v rs :=
 Fn_run ids (by kernel_rfl) Tryz.func44 (by decide) rfl mc44 (by kernel_rfl) (by rw [Tryz.ntmps44]; exact h) (by rw [Tryz.ntmps44]; decide) hv
def B48_0 : MC := (.seq (.reg [⟨some 7, none, .q (.bin .lss (.t 6) (.c (.int .i64 3)))⟩] [] [2, 3, 4, 6, 7] [2, 3, 4]) (.seq (.cond (.t 7) .skip (.exit 0)) (.seq (.block 1 (.seq (.reg [⟨some 8,
 none, .q (.mv (.t 6))⟩, ⟨some 5, none, .q (.mv (.t 8))⟩] [] [2, 3, 4, 5, 6] [2, 3, 4]) (.reg [⟨some 9, none, .q (.mv (.t 5))⟩, ⟨some 10, none, .q (.iaa (.t 2) (.t 9) 3 1)⟩, ⟨some 11,
 none, .q (.ld (.t 10) 1 false)⟩, ⟨some 12, none, .q (.mv (.t 5))⟩, ⟨some 13, none, .q (.iaa (.t 3) (.t 12) 3 1)⟩, ⟨some 14, none, .q (.ld (.t 13) 1 false)⟩, ⟨some 15, none,
 .q (.bin .or (.t 11) (.t 14))⟩, ⟨some 16, none, .q (.iaa (.t 2) (.t 9) 3 1)⟩, ⟨none, none, .st (.t 16) (.t 15) 1⟩] [] [2, 3, 4, 6] [2, 3, 4]))) (.reg [⟨some 17, none, .q (.bin .add (.t 6)
 (.c (.int .i64 1)))⟩, ⟨some 6, none, .q (.mv (.t 17))⟩] [] [2, 3, 4, 6] [2, 3, 4]))))
def R48_0 : MC := (.seq (.reg [⟨some 18, none, .q (.ld (.t 2) 3 true)⟩, ⟨none, none, .st (.t 4) (.t 18) 3⟩] [] [4] [4]) .ret)
def M48 : MC := (.seq (.reg [⟨some 2, none, .box (.t 0)⟩, ⟨some 3, none, .box (.t 1)⟩, ⟨some 4, none, .alloc [.pv (.sc (.int .u64 0)), .pv (.sc (.int .u64 0)),
 .pv (.sc (.int .u64 0))]⟩] [] [2, 3, 4] [2, 3, 4]) (.seq (.seq (.reg [⟨some 6, none, .q (.mv (.c (.int .i64 0)))⟩] [] [2, 3, 4, 6] [2, 3, 4]) (.block 0 (.loop B48_0))) R48_0))
theorem mc48 : ofCode Tryz.prog [] Tryz.f48.ntmps [(0, ⟨[2, 3, 4], [2, 3, 4], [], 0, [], none⟩),
  (1, ⟨[2, 3, 4, 6], [2, 3, 4], [], 0, [], none⟩),
  (2, ⟨[2, 3, 4, 6, 7], [2, 3, 4], [], 0, [], none⟩),
  (3, ⟨[2, 3, 4, 5, 6], [2, 3, 4], [], 0, [], none⟩),
  (4, ⟨[2, 3, 4, 6], [2, 3, 4], [(0, 455), (1, 454), (2, 452), (3, 504), (4, 496), (5, 480), (6, 448), (7, 384), (8, 0)], 255, [], none⟩),
  (5, ⟨[2, 3, 4, 6], [2, 3, 4], [], 0, [], none⟩),
  (6, ⟨[4], [4], [], 0, [], none⟩)] (Tryz.f48.body.getD .skip) = some M48 := by kernel_rfl
theorem Run48 {args : List PV} {v : AV} {rs : List (Nat × List PV)} (ids : List Bool) (h : args.length ≤ 19) (hv : run Tryz.prog (retK [RV.cell 4 3 true] ids v rs) M48 [] ⟨entry 0 args, []⟩) : Fn Tryz.prog 48 args v rs :=
 Fn_run ids (by kernel_rfl) Tryz.func48 (by decide) rfl mc48 (by kernel_rfl) (by rw [Tryz.ntmps48]; exact h) (by rw [Tryz.ntmps48]; decide) hv
def B47_1 : MC := (.seq (.seq (.reg [⟨some 11, none, .q (.mv (.t 5))⟩, ⟨some 12, none, .q (.bin .neq (.t 11) (.c (.int .u64 0)))⟩] [] [3, 4, 5, 6, 7, 12] [24, 2003]) (.cond (.t 12)
 .skip (.exit 2))) (.seq (.block 3 (.reg [⟨some 17, none, .q (.mv (.t 3))⟩, ⟨some 18, none, .q (.mv (.t 4))⟩, ⟨some 19, none, .q (.bin .mul (.c (.int .i64 64)) (.t 18))⟩, ⟨some 20,
 none, .q (.mv (.t 5))⟩, ⟨some 21, none, .call (.f 79) [.t 20]⟩, ⟨some 22, none, .q (.bin .add (.t 19) (.t 21))⟩, ⟨some 23, none, .lits [.t 22] 1⟩, ⟨some 24, none, .app (.t 17)
 (.t 23) 1 8⟩, ⟨some 3, none, .q (.mv (.t 24))⟩] [] [3, 4, 5, 6, 7] [24, 2003])) (.reg [⟨some 13, none, .q (.mv (.t 5))⟩, ⟨some 14, none, .q (.mv (.t 5))⟩, ⟨some 15, none,
 .q (.bin .sub (.t 14) (.c (.int .u64 1)))⟩, ⟨some 16, none, .q (.bin .and (.t 13) (.t 15))⟩, ⟨some 5, none, .q (.mv (.t 16))⟩] [] [3, 4, 5, 6, 7] [24, 2003])))
def B47_0 : MC := (.seq (.reg [⟨some 8, none, .q (.bin .lss (.t 7) (.c (.int .i64 3)))⟩] [] [3, 6, 7, 8] [24, 2003]) (.seq (.cond (.t 8) .skip (.exit 0)) (.seq (.block 1 (.seq (.reg [⟨some 9,
 none, .q (.mv (.t 7))⟩, ⟨some 10, none, .q (.idxa (.t 6) (.t 7) 3)⟩, ⟨some 4, none, .q (.mv (.t 9))⟩, ⟨some 5, none, .q (.mv (.t 10))⟩] [] [3, 4, 5, 6, 7] [24, 2003])
 (.block 2 (.loop B47_1)))) (.reg [⟨some 25, none, .q (.bin .add (.t 7) (.c (.int .i64 1)))⟩, ⟨some 7, none, .q (.mv (.t 25))⟩] [] [3, 6, 7] [24, 2003]))))
def R47_0 : MC := (.seq (.reg [⟨some 26, none, .q (.mv (.t 3))⟩, ⟨some 2, none, .q (.mv (.t 26))⟩] [] [2] [24, 2003]) .ret)
def M47 : MC := (.seq (.reg [⟨some 1, none, .box (.t 0)⟩, ⟨some 2, none, .q (.mv .nil)⟩] [] [1] [1]) (.seq (.reg [⟨some 3, none, .q (.mv .nil)⟩] [(3, 2003, 1)] [1, 3] [1, 24, 2003])
 (.seq (.seq (.reg [⟨some 6, none, .q (.ld (.t 1) 3 true)⟩, ⟨some 7, none, .q (.mv (.c (.int .i64 0)))⟩] [] [3, 6, 7] [24, 2003]) (.block 0 (.loop B47_0))) R47_0)))
theorem mc47 : ofCode Tryz.prog [] Tryz.f47.ntmps [(0, ⟨[1], [1], [], 0, [], none⟩),
  (1, ⟨[1, 3], [1, 24, 2003], [], 0, [(3, 2003, 1)], none⟩),
  (2, ⟨[3, 6, 7], [24, 2003], [], 0, [], none⟩),
  (3, ⟨[3, 6, 7, 8], [24, 2003], [], 0, [], none⟩),
  (4, ⟨[3, 4, 5, 6, 7], [24, 2003], [], 0, [], none⟩),
  (5, ⟨[3, 4, 5, 6, 7, 12], [24, 2003], [], 0, [], none⟩),
  (6, ⟨[3, 4, 5, 6, 7], [24, 2003], [], 0, [], none⟩),
  (7, ⟨[3, 4, 5, 6, 7], [24, 2003], [], 0, [], none⟩),
  (8, ⟨[3, 6, 7], [24, 2003], [], 0, [], none⟩),
  (9, ⟨[2], [24, 2003], [], 0, [], none⟩)] (Tryz.f47.body.getD .skip) = some M47 := by kernel_rfl
theorem Run47 {args : List PV} {v : AV} {rs : List (Nat × List PV)} (ids : List Bool) (h : args.length ≤ 27) (hv : run Tryz.prog (retK [RV.tmp 2] ids v rs) M47 [] ⟨entry 0 args, []⟩) : Fn Tryz.prog 47 args v rs :=
 Fn_run ids (by kernel_rfl) Tryz.func47 (by decide) rfl mc47 (by kernel_rfl) (by rw [Tryz.ntmps47]; exact h) (by rw [Tryz.ntmps47]; decide) hv
end Go.Vc

namespace Go.Vc
open Go.Proofs Go.Shelf Go.RowKit
set_option linter.unusedSimpArgs false
set_option linter.unusedVariables false
def ren29 : Ren := ⟨fun n => if n = 29 then 79 else n,
 fun t => if t = 22 then 56 else if t = 25 then 130 else if t = 54 then 143 else t,
 fun g => if g = 1 then 0 else g⟩
theorem lays29 : Lays7.n29 Tryz.prog ren29 where
 mixed := by kernel_rfl
 f29 := by kernel_rfl
 t0 := by kernel_rfl
 a0 := fun w => by kernel_rfl
 z0 := fun w => by kernel_rfl
 v0 := fun w => by kernel_rfl
 i0 := by kernel_rfl
 t3 := by kernel_rfl
 a3 := fun w => by kernel_rfl
 z3 := fun w => by kernel_rfl
 v3 := fun w => by kernel_rfl
 i3 := by kernel_rfl
 t4 := by kernel_rfl
 a4 := fun w => by kernel_rfl
 z4 := fun w => by kernel_rfl
 v4 := fun w => by kernel_rfl
 i4 := by kernel_rfl
 t5 := by kernel_rfl
 a5 := fun w => by kernel_rfl
 z5 := fun w => by kernel_rfl
 v5 := fun w => by kernel_rfl
 i5 := by kernel_rfl
 t22 := by kernel_rfl
 a22 := fun w => by kernel_rfl
 z22 := fun w => by kernel_rfl
 v22 := fun w => by kernel_rfl
 i22 := by kernel_rfl
 t25 := by kernel_rfl
 a25 := fun w => by kernel_rfl
 z25 := fun w => by kernel_rfl
 v25 := fun w => by kernel_rfl
 i25 := by kernel_rfl
 t54 := by kernel_rfl
 a54 := fun w => by kernel_rfl
 z54 := fun w => by kernel_rfl
 g1 := by kernel_rfl
theorem fn79 (x : Nat) (hx : x < 18446744073709551616) : Fn Tryz.prog 79 [pU (x : Int)] (.pv (pI (Lib.ctz 64 x : Nat))) [] := by
 refine ⟨enters_of (fn := Tryz.f79) Tryz.func79 (by decide) rfl, fun w F vs hF htb hv => ?_⟩
 simp only [PRels, PRel] at hv
 obtain ⟨u, r, rfl, rfl, rfl⟩ := hv
 have hg : Tryz.prog.globalNamed "math/bits.deBruijn64tab" = some 0 := by kernel_rfl
 have ht := (htb ("math/bits.deBruijn64tab", .u8, Lib.deBruijn64tab.map fun n : Nat => (n : Int)) (by simp [tabList]) 0 hg).2.2
 have := Any7.bits_TrailingZeros64 lays29 x hx w (fun _ j hj => by
  have h1 := ht.cell hg j (by simpa using hj)
  rw [show (ren29.g 1) = 0 from rfl, h1]
  simp [List.getD_eq_getElem?_getD, hj])
 refine this.mono fun en w' ⟨e1, e2⟩ => ?_
 subst e1; subst e2
 refine ⟨_, ⟨w', F, fun _ => default⟩, rfl, rfl, ⟨Below.refl _ _, by simp [VRel, PRel], fun i s xs h => by simp at h, fun i j hi => by simp at hi, fun i hi => by simp at hi, fun b => by simp⟩⟩
abbrev pSet (p : Nat → Bool) : PV := .agg [pU (wd p 0 : Nat), pU (wd p 1 : Nat), pU (wd p 2 : Nat)]
def inN (l : List Nat) (j : Nat) : Bool := l.any fun x => decide (x = j)
theorem ofInt_u64 {a : Nat} (ha : a < 18446744073709551616) : (BitVec.ofInt 64 (a : Int)).toNat = a := by
 rw [BitVec.ofInt_natCast, BitVec.toNat_ofNat]; exact Nat.mod_eq_of_lt (by omega)
theorem bitI_or {a b : Nat} (ha : a < 18446744073709551616) (hb : b < 18446744073709551616) : bitI .or .u64 (a : Int) (b : Int) = ((a ||| b : Nat) : Int) := by
 have hx : a ||| b < 2 ^ 64 := Nat.or_lt_two_pow (by omega) (by omega)
 show IntKind.u64.wrap ((BitVec.ofInt 64 (a : Int) ||| BitVec.ofInt 64 (b : Int)).toNat : Int) = _
 rw [BitVec.toNat_or, ofInt_u64 ha, ofInt_u64 hb, IntKind.wrap_u64]
 omega
theorem bitI_and {a b : Nat} (ha : a < 18446744073709551616) (hb : b < 18446744073709551616) : bitI .and .u64 (a : Int) (b : Int) = ((a &&& b : Nat) : Int) := by
 have hx : a &&& b < 2 ^ 64 := Nat.and_lt_two_pow _ (by omega)
 show IntKind.u64.wrap ((BitVec.ofInt 64 (a : Int) &&& BitVec.ofInt 64 (b : Int)).toNat : Int) = _
 rw [BitVec.toNat_and, ofInt_u64 ha, ofInt_u64 hb, IntKind.wrap_u64]
 omega
abbrev wBox (p : Nat → Bool) : List AV := [.pv (pU (wd p 0 : Nat)), .pv (pU (wd p 1 : Nat)), .pv (pU (wd p 2 : Nat))]
theorem inN_take {l : List Nat} {i : Nat} (h : i < l.length) (j : Nat) : inN (l.take (i + 1)) j = (inN (l.take i) j || decide (j = l[i])) := by
 unfold inN
 rw [List.take_succ_eq_append_getElem h, List.any_append]
 simp [eq_comm]
theorem wBox_zero : wBox (inN []) = [.pv (pU 0), .pv (pU 0), .pv (pU 0)] := by
 have : inN [] = fun _ => false := funext fun j => by simp [inN]
 unfold wBox
 rw [this, wd_zero, wd_zero, wd_zero]; rfl
theorem fn44 (l : List Nat) (hl : ∀ x ∈ l, x < 192) (hn : l.length ≤ 100000) : Fn Tryz.prog 44 [pNs l] (.pv (pSet (inN l))) [] := by
 refine Run44 [] (by simp) ?_
 simp only [go_sem, Nat.reduceEqDiff, Nat.reduceBEq, reduceCtorEq, and_self, M44]
 refine run_loopN (T := Nat) [2, 3, 6, 7, 8] [2, 3] (fun i => ⟨[(2, .ptr 2 0), (3, .ptr 3 0), (6, .pv (pNs l)), (7, .pv (pI l.length)), (8, .pv (pI i))], [(2, .box [.pv (pU 0), .pv (pU 0), .pv (pU 0)]), (3, .box (wBox (inN (l.take i))))]⟩)
  (fun i => i ≤ l.length) (fun i => l.length - i) 0 ?_ (Nat.zero_le _) ?_
 ·rw [List.take_zero, wBox_zero]
  simp only [go_sem, Nat.reduceEqDiff, Int.cast_ofNat_Int]
  simp [toI]
 intro i hi
 by_cases hlt : i < l.length
 ·have hx := hl _ (List.getElem_mem hlt)
  have hiI : (toI l)[i]'(by simp [toI]; exact hlt) = (l[i] : Int) := by simp [toI]
  have hin := inN_take hlt
  generalize l[i] = x at hx hiI hin
  have hps : inN (l.take (i + 1)) = fun j => inN (l.take i) j || decide (j = x) := funext hin
  have hpow : 2 ^ (x % 64) < 18446744073709551616 := Nat.lt_of_le_of_lt (Nat.pow_le_pow_right (by omega) (show x % 64 ≤ 63 by omega)) (by omega)
  have hr : (x : Int).tmod 64 = ((x % 64 : Nat) : Int) := by rw [Int.tmod_eq_emod_of_nonneg (by omega)]; omega
  have hsh : (1 : Int) * 2 ^ (x % 64) = ((2 ^ (x % 64) : Nat) : Int) := by rw [Int.one_mul]; exact (Int.natCast_pow 2 (x % 64)).symm
  rcases (show x / 64 = 0 ∨ x / 64 = 1 ∨ x / 64 = 2 by omega) with h64 | h64 | h64
  ·have hq : (x : Int).tdiv 64 = 0 := by rw [Int.tdiv_eq_ediv_of_nonneg (by omega)]; omega
   simp only [go_sem, Nat.reduceEqDiff, Nat.reduceAdd, Nat.reduceLeDiff, Int.reduceToNat, Int.reduceLE, Int.reduceLT, Int.reduceNeg, and_self, Int.cast_ofNat_Int, Int.reduceNe, B44_0, show (i : Int) < (l.length : Int) by omega, show (toI l).length = l.length by simp [toI], wf_ints, getD_map (show i < (toI l).length by simp [toI]; exact hlt), hiI, hq, hr, hsh, bitI_or (wd_lt _ _) hpow, wd_add _ h64]
   refine ⟨⟨by omega, by omega⟩, ⟨by omega, by omega⟩, i + 1, ?_, hlt, by omega⟩
   have e1 := wd_same (inN (l.take i)) (i := x) (k := 1) (by omega)
   have e2 := wd_same (inN (l.take i)) (i := x) (k := 2) (by omega)
   rw [hps]
   unfold wBox
   rw [e1, e2]; rfl
  ·have hq : (x : Int).tdiv 64 = 1 := by rw [Int.tdiv_eq_ediv_of_nonneg (by omega)]; omega
   simp only [go_sem, Nat.reduceEqDiff, Nat.reduceAdd, Nat.reduceLeDiff, Int.reduceToNat, Int.reduceLE, Int.reduceLT, Int.reduceNeg, and_self, Int.cast_ofNat_Int, Int.reduceNe, B44_0, show (i : Int) < (l.length : Int) by omega, show (toI l).length = l.length by simp [toI], wf_ints, getD_map (show i < (toI l).length by simp [toI]; exact hlt), hiI, hq, hr, hsh, bitI_or (wd_lt _ _) hpow, wd_add _ h64]
   refine ⟨⟨by omega, by omega⟩, ⟨by omega, by omega⟩, i + 1, ?_, hlt, by omega⟩
   have e1 := wd_same (inN (l.take i)) (i := x) (k := 0) (by omega)
   have e2 := wd_same (inN (l.take i)) (i := x) (k := 2) (by omega)
   rw [hps]
   unfold wBox
   rw [e1, e2]; rfl
  ·have hq : (x : Int).tdiv 64 = 2 := by rw [Int.tdiv_eq_ediv_of_nonneg (by omega)]; omega
   simp only [go_sem, Nat.reduceEqDiff, Nat.reduceAdd, Int.reduceToNat, Int.reduceLE, Int.reduceLT, Int.reduceNeg, and_self, Int.cast_ofNat_Int, Int.reduceNe, B44_0, show (i : Int) < (l.length : Int) by omega, show (toI l).length = l.length by simp [toI], wf_ints, getD_map (show i < (toI l).length by simp [toI]; exact hlt), hiI, hq, hr, hsh, bitI_or (wd_lt _ _) hpow, wd_add _ h64]
   refine ⟨⟨by omega, by omega⟩, ⟨by omega, by omega⟩, i + 1, ?_, hlt, by omega⟩
   have e1 := wd_same (inN (l.take i)) (i := x) (k := 0) (by omega)
   have e2 := wd_same (inN (l.take i)) (i := x) (k := 1) (by omega)
   rw [hps]
   unfold wBox
   rw [e1, e2]; rfl
 ·have hie : i = l.length := by omega
  subst hie
  rw [List.take_length]
  simp only [go_sem, Nat.reduceEqDiff, Nat.reduceAdd, Nat.reduceLT, Int.reduceNeg, and_self, Int.cast_ofNat_Int, B44_0, R44_0, show ¬ (l.length : Int) < (l.length : Int) by omega]
theorem fn48 (p q : Nat → Bool) : Fn Tryz.prog 48 [pSet p, pSet q] (.pv (pSet fun j => p j || q j)) [] := by
 refine Run48 [] (by simp) ?_
 simp only [go_sem, Nat.reduceEqDiff, Nat.reduceBEq, reduceCtorEq, and_self, M48]
 have o := fun k => bitI_or (wd_lt p k) (wd_lt q k)
 have w := fun k => wd_or p q k
 generalize (fun j => p j || q j) = r at w
 refine run_loopN (T := Nat) [2, 3, 4, 6] [2, 3, 4] (fun i => ⟨[(2, .ptr 2 0), (3, .ptr 3 0), (4, .ptr 4 0), (6, .pv (pI i))], [(2, .box [.pv (pU (wd (if 0 < i then r else p) 0 : Nat)), .pv (pU (wd (if 1 < i then r else p) 1 : Nat)), .pv (pU (wd (if 2 < i then r else p) 2 : Nat))]), (3, .box (wBox q)), (4, .box [.pv (pU 0), .pv (pU 0), .pv (pU 0)])]⟩)
  (fun i => i ≤ 3) (fun i => 3 - i) 0 ?_ (by omega) ?_
 ·simp only [go_sem, Nat.reduceEqDiff, Nat.reduceLT, Int.cast_ofNat_Int]
 intro i hi
 rcases (show i = 0 ∨ i = 1 ∨ i = 2 ∨ i = 3 by omega) with rfl | rfl | rfl | rfl
 ·simp only [go_sem, Nat.reduceEqDiff, Nat.reduceAdd, Nat.reduceSub, Nat.reduceLeDiff, Nat.reduceLT, Int.reduceToNat, Int.reduceLE, Int.reduceLT, Int.reduceNeg, and_self, Int.cast_ofNat_Int, Int.reduceAdd, B48_0, o, w]
  exact ⟨1, rfl, by omega, by omega⟩
 ·simp only [go_sem, Nat.reduceEqDiff, Nat.reduceAdd, Nat.reduceSub, Nat.reduceLeDiff, Nat.reduceLT, Int.reduceToNat, Int.reduceLE, Int.reduceLT, Int.reduceNeg, and_self, Int.cast_ofNat_Int, Int.reduceAdd, B48_0, o, w]
  exact ⟨2, rfl, by omega, by omega⟩
 ·simp only [go_sem, Nat.reduceEqDiff, Nat.reduceAdd, Nat.reduceSub, Nat.reduceLT, Int.reduceToNat, Int.reduceLE, Int.reduceLT, Int.reduceNeg, and_self, Int.cast_ofNat_Int, Int.reduceAdd, B48_0, o, w]
  exact ⟨3, rfl, by omega, by omega⟩
 ·simp only [go_sem, Nat.reduceEqDiff, Nat.reduceAdd, Nat.reduceSub, Nat.reduceLeDiff, Nat.reduceLT, Int.reduceToNat, Int.reduceLE, Int.reduceLT, Int.reduceNeg, and_self, Int.cast_ofNat_Int, Int.reduceAdd, B48_0, R48_0]
theorem fn47 (p : Nat → Bool) : Fn Tryz.prog 47 [pSet p] (.pv (pNs (elemsB p 3))) [] := by
 refine Fn.row (n := (elemsB p 3).length) (s := 1) ?_ (by simp [toI])
 refine Run47 [true] (by simp) ?_
 simp only [go_sem, Nat.reduceEqDiff, Nat.reduceBEq, Nat.reduceAdd, Nat.reduceLT, reduceCtorEq, and_self, M47]
 refine run_loopN (T := Nat) [3, 6, 7] [2003] (fun i => ⟨[(3, .row 2003 0 (elemsB p i).length), (6, .pv (pSet p)), (7, .pv (pI i))], [(2003, .sl 1 ((toI (elemsB p i)).map fun n => pI n))]⟩)
  (fun i => i ≤ 3) (fun i => 3 - i) 0 ?_ (by omega) ?_
 ·simp only [go_sem, Nat.reduceEqDiff, Int.cast_ofNat_Int]
  rfl
 intro i hi
 have hel : (elemsB p i).length ≤ 64 * i := by
  have := List.length_filter_le p (List.range (64 * i))
  unfold elemsB; simpa using this
 by_cases hlt : i < 3
 ·have hix : ([pU (wd p 0 : Nat), pU (wd p 1 : Nat), pU (wd p 2 : Nat)] : List PV).getD i default = pU (wd p i : Nat) := by
   rcases (show i = 0 ∨ i = 1 ∨ i = 2 by omega) with rfl | rfl | rfl <;> rfl
  have hris := wbits_ris p i
  have hsum := wbits_sum p i
  have hbl : (wbits p i).length ≤ 64 := by
   have := List.length_filter_le (fun j => p (64 * i + j)) (List.range 64)
   unfold wbits; simpa using this
  have hsc := elemsB_succ p i
  have hwl := wd_lt p i
  have hBlt : ∀ b ∈ wbits p i, b < 64 := fun b hb => wbits_lt hb
  simp only [go_sem, Nat.reduceEqDiff, Nat.reduceAdd, and_self, Int.cast_ofNat_Int, B47_0, show (i : Int) < 3 by omega, hix]
  rw [← hsum]
  rw [← hsum] at hwl
  generalize wbits p i = B at hris hbl hsc hwl hBlt
  refine run_loopN (T := Nat) [3, 4, 5, 6, 7] [2003] (fun m => ⟨[(3, .row 2003 0 ((elemsB p i).length + m)), (4, .pv (pI i)), (5, .pv (pU (sumB (B.drop m) : Nat))), (6, .pv (pSet p)), (7, .pv (pI i))], [(2003, .sl 1 ((toI (elemsB p i ++ (B.take m).map fun b => 64 * i + b)).map fun n => pI n))]⟩)
   (fun m => m ≤ B.length) (fun m => B.length - m) 0 ?_ (Nat.zero_le _) ?_
  ·simp only [go_sem, Nat.reduceEqDiff]
  intro m hm
  have tk : List.take ((elemsB p i).length + m) ((toI (elemsB p i ++ (B.take m).map fun b => 64 * i + b)).map fun n => pI n) = (toI (elemsB p i ++ (B.take m).map fun b => 64 * i + b)).map fun n => pI n :=
   List.take_of_length_le (by simp [toI]; omega)
  by_cases hml : m < B.length
  ·obtain ⟨b1, b2, b3, b4⟩ := bits_step hris (by omega) hml
   have hbm := hBlt _ (List.getElem_mem hml)
   have hs1 : ((sumB (B.drop m) : Nat) : Int) - 1 = ((sumB (B.drop m) - 1 : Nat) : Int) := by omega
   simp only [go_sem, Nat.reduceEqDiff, reduceCtorEq, Int.reduceNeg, and_self, B47_1, show ¬ ((sumB (B.drop m) : Nat) : Int) = 0 by omega]
   refine ⟨⟨by omega, by omega⟩, ?_⟩
   refine runR_callf (by simp only [go_sem, Nat.reduceEqDiff, and_self]) (by simp only [go_sem, Nat.reduceEqDiff] <;> rfl) (fn79 (sumB (B.drop m)) (by omega)) ⟨rfl, trivial⟩ trivial ?_
   simp only [go_sem, Nat.reduceEqDiff, Nat.reduceLeDiff, Nat.reduceLT, Int.reduceNeg, and_self, b1, tk, hs1, bitI_and (show sumB (B.drop m) < 18446744073709551616 by omega) (show sumB (B.drop m) - 1 < 18446744073709551616 by omega), b2]
   refine ⟨⟨by omega, by omega⟩, ⟨wf_ints [64 * (i : Int) + (B[m] : Int)], by omega, by omega⟩, by omega, m + 1, ?_, hml, by omega⟩
   rw [List.take_succ_eq_append_getElem hml, List.map_append, ← List.append_assoc, toI_app _ ([B[m]].map _), List.map_append]
   simp [toI]
   omega
  ·have hme : m = B.length := by omega
   subst hme
   simp only [go_sem, Nat.reduceEqDiff, reduceCtorEq, Int.reduceNeg, and_self, Int.cast_ofNat_Int, B47_1, sumB_end (Nat.le_refl B.length)]
   refine ⟨⟨by omega, by omega⟩, i + 1, ?_, hlt, by omega⟩
   rw [hsc]
   simp [toI]
 ·obtain rfl : i = 3 := by omega
  simp only [go_sem, Nat.reduceEqDiff, Nat.reduceAdd, Nat.reduceSub, Int.reduceToNat, Int.reduceLE, Int.reduceLT, and_self, Int.cast_ofNat_Int, B47_0, R47_0]
  simp
end Go.Vc
