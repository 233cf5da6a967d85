/- A part of the proofs of the seat YtokkhebhjijnhaaDoor: the layer that turns the code of a function into what is to be shown (verification conditions), proved sound. -/
import Derived.Test.YtokkhebhjijnhaaDoorVf
namespace Go.Vc
set_option linter.unusedSimpArgs false

/-! ## What every program's contracts lean on -/
abbrev pS (s : ByteArray) : PV := .sc (.string s)
abbrev pI (n : Int) : PV := .sc (.int .i64 n)
abbrev pU (n : Int) : PV := .sc (.int .u64 n)
abbrev pB (b : Bool) : PV := .sc (.bool b)
abbrev p8 (n : Int) : PV := .sc (.int .u8 n)
theorem take_snoc {α : Type} [Inhabited α] {l : List α} {i : Nat} (h : i < l.length) : l.take (i + 1) = l.take i ++ [l[i]] := by
  rw [List.take_add_one, List.getElem?_eq_getElem h]; rfl
theorem getD_get {α : Type} [Inhabited α] {l : List α} {i : Nat} (h : i < l.length) : l.getD i default = l[i] := by simp [List.getD_eq_getElem?_getD, h]
theorem getD_map {α : Type} {f : α → PV} {l : List α} {i : Nat} (h : i < l.length) : (l.map f).getD i default = f l[i] := by simp [List.getD_eq_getElem?_getD, h]
theorem take_len_map {α β : Type} (f : α → β) (l : List α) : List.take l.length (l.map f) = l.map f := List.take_of_length_le (by simp)
theorem filt_snoc {α : Type} [Inhabited α] {q : α → Bool} {l : List α} {i : Nat} (h : i < l.length) : (l.take (i + 1)).filter q = (l.take i).filter q ++ if q l[i] = true then [l[i]] else [] := by
  rw [take_snoc h, List.filter_append]
  cases hq : q l[i] <;> simp [hq]
theorem filt_le {α : Type} {q : α → Bool} {l : List α} {i : Nat} : ((l.take i).filter q).length ≤ l.length := Nat.le_trans (List.length_filter_le _ _) (by simp; omega)
theorem flats_map {α : Type} (f : α → PV) (h : ∀ a, (f a).flat = true) : ∀ l : List α, PV.flats (l.map f) = true
  | [] => rfl
  | a :: l => by simp only [List.map_cons, PV.flats, h, flats_map f h l, Bool.and_self]
theorem wf_map {α : Type} {f : α → PV} {s : Nat} (h : ∀ a, (f a).cells.length = s ∧ ∀ c ∈ (f a).cells, c.one = true) (l : List α) : WfL s (l.map f) := fun p hp => by
  obtain ⟨a, _, rfl⟩ := List.mem_map.1 hp
  exact h a
abbrev us (l : List Int) : PV := .lst (l.map pU)
theorem wf_us (l : List Int) : WfL 1 (l.map pU) := wf_map (f := pU) (s := 1) (fun a => ⟨rfl, fun c hc => by simp only [PV.cells, List.mem_cons, List.not_mem_nil, or_false] at hc; subst hc; rfl⟩) l
theorem any_no {α : Type} {q : α → Bool} {l : List α} (h : ∀ j (hj : j < l.length), q l[j] = false) : l.any q = false := by
  rw [List.any_eq_false]
  intro x hx
  obtain ⟨j, hj, rfl⟩ := List.mem_iff_getElem.1 hx
  simp [h j hj]
/-- the first place, or -1 -/
def idxA {α : Type} (q : α → Bool) (l : List α) : Int := if l.any q then (l.findIdx q : Int) else -1
theorem idxA_yes {α : Type} {q : α → Bool} {l : List α} {i : Nat} (h : i < l.length) (h1 : q l[i] = true) (h2 : ∀ j (hj : j < l.length), j < i → q l[j] = false) : idxA q l = i := by
  have h3 : l.any q = true := List.any_eq_true.2 ⟨_, List.getElem_mem h, h1⟩
  have h4 : l.findIdx q = i := (List.findIdx_eq h).2 ⟨h1, fun j hji => h2 j (by omega) hji⟩
  simp [idxA, h3, h4]
theorem idxA_no {α : Type} {q : α → Bool} {l : List α} (h : ∀ j (hj : j < l.length), q l[j] = false) : idxA q l = -1 := by simp [idxA, any_no h]
theorem idxA_lt {α : Type} (q : α → Bool) (l : List α) : (idxA q l = -1 ∧ ∀ x ∈ l, q x = false) ∨ ∃ n, ∃ h : n < l.length, idxA q l = n ∧ q l[n] = true ∧ ∀ j (hj : j < l.length), j < n → q l[j] = false := by
  cases ha : l.any q with
  | false =>
    rw [List.any_eq_false] at ha
    exact .inl ⟨by simp [idxA]; simpa using ha, fun x hx => by simpa using ha x hx⟩
  | true =>
    obtain ⟨x, hx, hq⟩ := List.any_eq_true.1 ha
    have hlt : l.findIdx q < l.length := List.findIdx_lt_length_of_exists ⟨x, hx, hq⟩
    refine .inr ⟨_, hlt, by simp [idxA, ha], List.findIdx_getElem (w := hlt), fun j hj hjn => ?_⟩
    have := List.not_of_lt_findIdx hjn
    simpa using this
/-! an order of octets -/
theorem bl_irrefl : ∀ x : List UInt8, Op.bytesLess x x = false
  | [] => rfl
  | a :: x => by simp [Op.bytesLess, bl_irrefl x]
theorem bl_asymm : ∀ {x y : List UInt8}, Op.bytesLess x y = true → Op.bytesLess y x = false
  | _, [], h => by simp [Op.bytesLess] at h
  | [], _ :: _, _ => rfl
  | a :: x, b :: y, h => by
    simp only [Op.bytesLess, Bool.or_eq_true, decide_eq_true_eq, Bool.and_eq_true, beq_iff_eq] at h
    simp only [Op.bytesLess, Bool.or_eq_false_iff, decide_eq_false_iff_not, Bool.and_eq_false_iff]
    rcases h with h | ⟨h1, h2⟩
    · refine ⟨fun h' => ?_, .inl ?_⟩
      · have g1 : a.toNat < b.toNat := h
        have g2 : b.toNat < a.toNat := h'
        omega
      · rw [beq_eq_false_iff_ne]
        intro e; subst e
        have g1 : b.toNat < b.toNat := h
        omega
    · subst h1
      refine ⟨fun h' => ?_, .inr (bl_asymm h2)⟩
      have g1 : a.toNat < a.toNat := h'
      omega
theorem bl_total : ∀ {x y : List UInt8}, Op.bytesLess x y = false → x ≠ y → Op.bytesLess y x = true
  | [], [], _, h => absurd rfl h
  | _ :: _, [], _, _ => rfl
  | [], _ :: _, h, _ => by simp [Op.bytesLess] at h
  | a :: x, b :: y, h, hn => by
    simp only [Op.bytesLess, Bool.or_eq_false_iff, decide_eq_false_iff_not, Bool.and_eq_false_iff] at h
    simp only [Op.bytesLess, Bool.or_eq_true, decide_eq_true_eq, Bool.and_eq_true, beq_iff_eq]
    by_cases hba : b < a
    · exact .inl hba
    · right
      have hab : a = b := by
        apply UInt8.toNat_inj.1
        have g1 : ¬ a.toNat < b.toNat := h.1
        have g2 : ¬ b.toNat < a.toNat := hba
        omega
      subst hab
      refine ⟨rfl, ?_⟩
      rcases h.2 with h2 | h2
      · simp at h2
      · exact bl_total h2 (fun e => hn (by rw [e]))
theorem bl_trans : ∀ {x y z : List UInt8}, Op.bytesLess x y = true → Op.bytesLess y z = true → Op.bytesLess x z = true
  | _, [], _, h, _ => by simp [Op.bytesLess] at h
  | _, _ :: _, [], _, h => by simp [Op.bytesLess] at h
  | [], _ :: _, _ :: _, _, _ => rfl
  | a :: x, b :: y, c :: z, h, k => by
    simp only [Op.bytesLess, Bool.or_eq_true, decide_eq_true_eq, Bool.and_eq_true, beq_iff_eq] at h k ⊢
    rcases h with h | ⟨h1, h2⟩ <;> rcases k with k | ⟨k1, k2⟩
    · left
      have g1 : a.toNat < b.toNat := h
      have g2 : b.toNat < c.toNat := k
      exact (show a.toNat < c.toNat by omega)
    · subst k1; exact .inl h
    · subst h1; exact .inl k
    · subst h1; subst k1; exact .inr ⟨rfl, bl_trans h2 k2⟩
end Go.Vc

namespace Go.Vc

/-! ## Arguments of a law, out of their shapes -/
theorem args1 {a : Bool × List Sh} {qs : List PV} (h : ArgsOk [a] qs) : ∃ p, qs = [p] ∧ ArgOk a p := by
  simp only [ArgsOk] at h
  obtain ⟨p, r, rfl, h1, rfl⟩ := h
  exact ⟨p, rfl, h1⟩
theorem args2 {a b : Bool × List Sh} {qs : List PV} (h : ArgsOk [a, b] qs) : ∃ p q, qs = [p, q] ∧ ArgOk a p ∧ ArgOk b q := by
  simp only [ArgsOk] at h
  obtain ⟨p, _, rfl, h1, q, _, rfl, h2, rfl⟩ := h
  exact ⟨p, q, rfl, h1, h2⟩
theorem args3 {a b c : Bool × List Sh} {qs : List PV} (h : ArgsOk [a, b, c] qs) : ∃ p q r, qs = [p, q, r] ∧ ArgOk a p ∧ ArgOk b q ∧ ArgOk c r := by
  simp only [ArgsOk] at h
  obtain ⟨p, _, rfl, h1, q, _, rfl, h2, r, _, rfl, h3, rfl⟩ := h
  exact ⟨p, q, r, rfl, h1, h2, h3⟩
theorem map_of {α : Type} {f : α → PV} : ∀ {xs : List PV}, (∀ x ∈ xs, ∃ a, x = f a) → ∃ l : List α, xs = l.map f
  | [], _ => ⟨[], rfl⟩
  | x :: xs, h => by
    obtain ⟨a, rfl⟩ := h x (by simp)
    obtain ⟨l, rfl⟩ := map_of (xs := xs) (fun y hy => h y (by simp [hy]))
    exact ⟨a :: l, rfl⟩
theorem int_of {k : IntKind} {p : PV} (h : ArgOk (false, [.int k]) p) : ∃ n, p = .sc (.int k n) ∧ (Lit.int k n).wf = true := by
  have h1 := OkShs_one h
  simpa only [OkSh] using h1
theorem bool_of {p : PV} (h : ArgOk (false, [.bool]) p) : ∃ b : Bool, p = pB b := by
  have h1 := OkShs_one h
  simpa only [OkSh] using h1
theorem str_of {p : PV} (h : ArgOk (false, [.str]) p) : ∃ s : ByteArray, p = pS s ∧ s.size ≤ 9223372036854775807 := by
  have h1 := OkShs_one h
  simp only [OkSh] at h1
  obtain ⟨s, rfl, hs⟩ := h1
  exact ⟨s, rfl, by simpa [maxLen] using hs⟩
theorem ints_of {k : IntKind} {p : PV} (h : OkSh (.lst false [.int k]) p) : ∃ l : List Int, p = .lst (l.map fun n => .sc (.int k n)) ∧ l.length ≤ 9223372036854775807 ∧ ∀ x ∈ l, (Lit.int k x).wf = true := by
  simp only [OkSh] at h
  obtain ⟨xs, rfl, hl, hx⟩ := h
  obtain ⟨l, rfl⟩ := map_of (f := fun n : Int => PV.sc (.int k n)) (fun x hx' => by
    have := (hx x hx').2 trivial
    simp only [OkShs, OkSh] at this
    obtain ⟨_, _, e, ⟨n, rfl, _⟩, rfl⟩ := this
    injection e with e1 _
    exact ⟨n, e1⟩)
  refine ⟨l, rfl, by simpa [maxLen] using hl, fun x hx' => ?_⟩
  have := (hx _ (List.mem_map_of_mem hx')).2 trivial
  simp only [OkShs, OkSh] at this
  obtain ⟨_, _, e, ⟨n, rfl, hn⟩, rfl⟩ := this
  injection e with e1 _
  injection e1 with e1
  injection e1 with _ e1
  rw [e1]
  exact hn
end Go.Vc
