/- A part of the proofs of the seat YtmgbbmhljopepaaGreatDoor: the layer that turns the code of a function into what is to be shown (verification conditions), proved sound. -/
import Derived.Test.YtmgbbmhljopepaaGreatDoorVf
namespace Go.Vc
set_option linter.unusedSimpArgs false

/-! ## What every program's contracts lean on -/
abbrev pS (s : ByteArray) : PV := .sc (.string s)
abbrev pI (n : Int) : PV := .sc (.int .i64 n)
abbrev pU (n : Int) : PV := .sc (.int .u64 n)
abbrev pB (b : Bool) : PV := .sc (.bool b)
theorem take_snoc {α : Type} [Inhabited α] {l : List α} {i : Nat} (h : i < l.length) : l.take (i + 1) = l.take i ++ [l[i]] := by
  rw [List.take_add_one, List.getElem?_eq_getElem h]; rfl
theorem getD_map {α : Type} {f : α → PV} {l : List α} {i : Nat} (h : i < l.length) : (l.map f).getD i default = f l[i] := by simp [List.getD_eq_getElem?_getD, h]
theorem wf_map {α : Type} {f : α → PV} {s : Nat} (h : ∀ a, (f a).cells.length = s ∧ ∀ c ∈ (f a).cells, c.one = true) (l : List α) : WfL s (l.map f) := fun p hp => by
  obtain ⟨a, _, rfl⟩ := List.mem_map.1 hp
  exact h a
abbrev us (l : List Int) : PV := .lst (l.map pU)
/-! an order of octets -/
theorem bl_irrefl : ∀ x : List UInt8, Op.bytesLess x x = false
  | [] => rfl
  | a :: x => by simp [Op.bytesLess, bl_irrefl x]
theorem bl_asymm : ∀ {x y : List UInt8}, Op.bytesLess x y = true → Op.bytesLess y x = false
  | _, [], h => by simp [Op.bytesLess] at h
  | [], _ :: _, _ => rfl
  | a :: x, b :: y, h => by
    simp only [Op.bytesLess, Bool.or_eq_true, decide_eq_true_eq, Bool.and_eq_true, beq_iff_eq] at h
    simp only [Op.bytesLess, Bool.or_eq_false_iff, decide_eq_false_iff_not, Bool.and_eq_false_iff]
    rcases h with h | ⟨h1, h2⟩
    · refine ⟨fun h' => ?_, .inl ?_⟩
      · have g1 : a.toNat < b.toNat := h
        have g2 : b.toNat < a.toNat := h'
        omega
      · rw [beq_eq_false_iff_ne]
        intro e; subst e
        have g1 : b.toNat < b.toNat := h
        omega
    · subst h1
      refine ⟨fun h' => ?_, .inr (bl_asymm h2)⟩
      have g1 : a.toNat < a.toNat := h'
      omega
theorem bl_total : ∀ {x y : List UInt8}, Op.bytesLess x y = false → x ≠ y → Op.bytesLess y x = true
  | [], [], _, h => absurd rfl h
  | _ :: _, [], _, _ => rfl
  | [], _ :: _, h, _ => by simp [Op.bytesLess] at h
  | a :: x, b :: y, h, hn => by
    simp only [Op.bytesLess, Bool.or_eq_false_iff, decide_eq_false_iff_not, Bool.and_eq_false_iff] at h
    simp only [Op.bytesLess, Bool.or_eq_true, decide_eq_true_eq, Bool.and_eq_true, beq_iff_eq]
    by_cases hba : b < a
    · exact .inl hba
    · right
      have hab : a = b := by
        apply UInt8.toNat_inj.1
        have g1 : ¬ a.toNat < b.toNat := h.1
        have g2 : ¬ b.toNat < a.toNat := hba
        omega
      subst hab
      refine ⟨rfl, ?_⟩
      rcases h.2 with h2 | h2
      · simp at h2
      · exact bl_total h2 (fun e => hn (by rw [e]))
theorem bl_trans : ∀ {x y z : List UInt8}, Op.bytesLess x y = true → Op.bytesLess y z = true → Op.bytesLess x z = true
  | _, [], _, h, _ => by simp [Op.bytesLess] at h
  | _, _ :: _, [], _, h => by simp [Op.bytesLess] at h
  | [], _ :: _, _ :: _, _, _ => rfl
  | a :: x, b :: y, c :: z, h, k => by
    simp only [Op.bytesLess, Bool.or_eq_true, decide_eq_true_eq, Bool.and_eq_true, beq_iff_eq] at h k ⊢
    rcases h with h | ⟨h1, h2⟩ <;> rcases k with k | ⟨k1, k2⟩
    · left
      have g1 : a.toNat < b.toNat := h
      have g2 : b.toNat < c.toNat := k
      exact (show a.toNat < c.toNat by omega)
    · subst k1; exact .inl h
    · subst h1; exact .inl k
    · subst h1; subst k1; exact .inr ⟨rfl, bl_trans h2 k2⟩
end Go.Vc

namespace Go.Vc

/-! ## Arguments of a law, out of their shapes -/
theorem args2 {a b : Bool × List Sh} {qs : List PV} (h : ArgsOk [a, b] qs) : ∃ p q, qs = [p, q] ∧ ArgOk a p ∧ ArgOk b q := by
  simp only [ArgsOk] at h
  obtain ⟨p, _, rfl, h1, q, _, rfl, h2, rfl⟩ := h
  exact ⟨p, q, rfl, h1, h2⟩
theorem str_of {p : PV} (h : ArgOk (false, [.str]) p) : ∃ s : ByteArray, p = pS s ∧ s.size ≤ 9223372036854775807 := by
  have h1 := OkShs_one h
  simp only [OkSh] at h1
  obtain ⟨s, rfl, hs⟩ := h1
  exact ⟨s, rfl, by simpa [maxLen] using hs⟩
end Go.Vc
