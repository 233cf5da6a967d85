/- A part of the proofs of the seat YtmgbbmhljopepaaGreatDoor: the layer that turns the code of a function into what is to be shown (verification conditions), proved sound. -/
import Derived.Test.YtmgbbmhljopepaaGreatDoorVf
namespace Go.Vc
set_option linter.unusedSimpArgs false
abbrev pS (s : ByteArray) : PV := .sc (.string s)
abbrev pI (n : Int) : PV := .sc (.int .i64 n)
abbrev pU (n : Int) : PV := .sc (.int .u64 n)
abbrev pB (b : Bool) : PV := .sc (.bool b)
theorem take_snoc {α : Type} [Inhabited α] {l : List α} {i : Nat} (h : i < l.length) : l.take (i + 1) = l.take i ++ [l[i]] := by
 rw [List.take_add_one, List.getElem?_eq_getElem h]; rfl
theorem getD_map {α : Type} {f : α → PV} {l : List α} {i : Nat} (h : i < l.length) : (l.map f).getD i default = f l[i] := by simp [List.getD_eq_getElem?_getD, h]
theorem take_len_map {α β : Type} (f : α → β) (l : List α) : List.take l.length (l.map f) = l.map f := List.take_of_length_le (by simp)
theorem wf_map {α : Type} {f : α → PV} {s : Nat} (h : ∀ a, (f a).cells.length = s ∧ ∀ c ∈ (f a).cells, c.one = true) (l : List α) : WfL s (l.map f) := fun p hp => by
 obtain ⟨a, _, rfl⟩ := List.mem_map.1 hp
 exact h a
abbrev us (l : List Int) : PV := .lst (l.map pU)
theorem bl_irrefl : ∀ x : List UInt8, Op.bytesLess x x = false
 | [] => rfl
 | a :: x => by simp [Op.bytesLess, bl_irrefl x]
theorem bl_asymm : ∀ {x y : List UInt8}, Op.bytesLess x y = true → Op.bytesLess y x = false
 | _, [], h => by simp [Op.bytesLess] at h
 | [], _ :: _, _ => rfl
 | a :: x, b :: y, h => by
  simp only [Op.bytesLess, Bool.or_eq_true, decide_eq_true_eq, Bool.and_eq_true, beq_iff_eq] at h
  simp only [Op.bytesLess, Bool.or_eq_false_iff, decide_eq_false_iff_not, Bool.and_eq_false_iff]
  rcases h with h | ⟨h1, h2⟩
  ·refine ⟨fun h' => ?_, .inl ?_⟩
   ·have g1 : a.toNat < b.toNat := h
    have g2 : b.toNat < a.toNat := h'
    omega
   ·rw [beq_eq_false_iff_ne]
    intro e; subst e
    have g1 : b.toNat < b.toNat := h
    omega
  ·subst h1
   refine ⟨fun h' => ?_, .inr (bl_asymm h2)⟩
   have g1 : a.toNat < a.toNat := h'
   omega
theorem bl_total : ∀ {x y : List UInt8}, Op.bytesLess x y = false → x ≠ y → Op.bytesLess y x = true
 | [], [], _, h => absurd rfl h
 | _ :: _, [], _, _ => rfl
 | [], _ :: _, h, _ => by simp [Op.bytesLess] at h
 | a :: x, b :: y, h, hn => by
  simp only [Op.bytesLess, Bool.or_eq_false_iff, decide_eq_false_iff_not, Bool.and_eq_false_iff] at h
  simp only [Op.bytesLess, Bool.or_eq_true, decide_eq_true_eq, Bool.and_eq_true, beq_iff_eq]
  by_cases hba : b < a
  ·exact .inl hba
  ·right
   have hab : a = b := by
    apply UInt8.toNat_inj.1
    have g1 : ¬ a.toNat < b.toNat := h.1
    have g2 : ¬ b.toNat < a.toNat := hba
    omega
   subst hab
   refine ⟨rfl, ?_⟩
   rcases h.2 with h2 | h2
   ·simp at h2
   ·exact bl_total h2 (fun e => hn (by rw [e]))
theorem bl_trans : ∀ {x y z : List UInt8}, Op.bytesLess x y = true → Op.bytesLess y z = true → Op.bytesLess x z = true
 | _, [], _, h, _ => by simp [Op.bytesLess] at h
 | _, _ :: _, [], _, h => by simp [Op.bytesLess] at h
 | [], _ :: _, _ :: _, _, _ => rfl
 | a :: x, b :: y, c :: z, h, k => by
  simp only [Op.bytesLess, Bool.or_eq_true, decide_eq_true_eq, Bool.and_eq_true, beq_iff_eq] at h k ⊢
  rcases h with h | ⟨h1, h2⟩ <;> rcases k with k | ⟨k1, k2⟩
  ·left
   have g1 : a.toNat < b.toNat := h
   have g2 : b.toNat < c.toNat := k
   exact (show a.toNat < c.toNat by omega)
  ·subst k1; exact .inl h
  ·subst h1; exact .inl k
  ·subst h1; subst k1; exact .inr ⟨rfl, bl_trans h2 k2⟩
end Go.Vc

namespace Go.Vc
theorem args3 {a b c : Bool × List Sh} {qs : List PV} (h : ArgsOk [a, b, c] qs) : ∃ p q r, qs = [p, q, r] ∧ ArgOk a p ∧ ArgOk b q ∧ ArgOk c r := by
 simp only [ArgsOk] at h
 obtain ⟨p, _, rfl, h1, q, _, rfl, h2, r, _, rfl, h3, rfl⟩ := h
 exact ⟨p, q, r, rfl, h1, h2, h3⟩
theorem map_of {α : Type} {f : α → PV} : ∀ {xs : List PV}, (∀ x ∈ xs, ∃ a, x = f a) → ∃ l : List α, xs = l.map f
 | [], _ => ⟨[], rfl⟩
 | x :: xs, h => by
  obtain ⟨a, rfl⟩ := h x (by simp)
  obtain ⟨l, rfl⟩ := map_of (xs := xs) (fun y hy => h y (by simp [hy]))
  exact ⟨a :: l, rfl⟩
theorem str_of {p : PV} (h : ArgOk (false, [.str]) p) : ∃ s : ByteArray, p = pS s ∧ s.size ≤ 9223372036854775807 := by
 have h1 := OkShs_one h
 simp only [OkSh] at h1
 obtain ⟨s, rfl, hs⟩ := h1
 exact ⟨s, rfl, by simpa [maxLen] using hs⟩
theorem ints_of {k : IntKind} {p : PV} (h : OkSh (.lst false [.int k]) p) : ∃ l : List Int, p = .lst (l.map fun n => .sc (.int k n)) ∧ l.length ≤ 9223372036854775807 ∧ ∀ x ∈ l, (Lit.int k x).wf = true := by
 simp only [OkSh] at h
 obtain ⟨xs, rfl, hl, hx⟩ := h
 obtain ⟨l, rfl⟩ := map_of (f := fun n : Int => PV.sc (.int k n)) (fun x hx' => by
  have := (hx x hx').2 trivial
  simp only [OkShs, OkSh] at this
  obtain ⟨_, _, e, ⟨n, rfl, _⟩, rfl⟩ := this
  injection e with e1 _
  exact ⟨n, e1⟩)
 refine ⟨l, rfl, by simpa [maxLen] using hl, fun x hx' => ?_⟩
 have := (hx _ (List.mem_map_of_mem hx')).2 trivial
 simp only [OkShs, OkSh] at this
 obtain ⟨_, _, e, ⟨n, rfl, hn⟩, rfl⟩ := this
 injection e with e1 _
 injection e1 with e1
 injection e1 with _ e1
 rw [e1]
 exact hn
end Go.Vc
