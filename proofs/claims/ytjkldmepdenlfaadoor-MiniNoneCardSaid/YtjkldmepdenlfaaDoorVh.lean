/- A part of the proofs of the seat YtjkldmepdenlfaaDoor: the layer that turns the code of a function into what is to be shown (verification conditions), proved sound. -/
import Derived.Test.YtjkldmepdenlfaaDoorVf
namespace Go.Vc
set_option linter.unusedSimpArgs false

/-! ## What every program's contracts lean on -/
abbrev pS (s : ByteArray) : PV := .sc (.string s)
abbrev pI (n : Int) : PV := .sc (.int .i64 n)
abbrev pU (n : Int) : PV := .sc (.int .u64 n)
abbrev pB (b : Bool) : PV := .sc (.bool b)
abbrev p8 (n : Int) : PV := .sc (.int .u8 n)
theorem take_snoc {α : Type} [Inhabited α] {l : List α} {i : Nat} (h : i < l.length) : l.take (i + 1) = l.take i ++ [l[i]] := by
  rw [List.take_add_one, List.getElem?_eq_getElem h]; rfl
theorem getD_map {α : Type} {f : α → PV} {l : List α} {i : Nat} (h : i < l.length) : (l.map f).getD i default = f l[i] := by simp [List.getD_eq_getElem?_getD, h]
theorem wf_map {α : Type} {f : α → PV} {s : Nat} (h : ∀ a, (f a).cells.length = s ∧ ∀ c ∈ (f a).cells, c.one = true) (l : List α) : WfL s (l.map f) := fun p hp => by
  obtain ⟨a, _, rfl⟩ := List.mem_map.1 hp
  exact h a
abbrev us (l : List Int) : PV := .lst (l.map pU)
/-! an order of octets -/
end Go.Vc

namespace Go.Vc

/-! ## Arguments of a law, out of their shapes -/
theorem args1 {a : Bool × List Sh} {qs : List PV} (h : ArgsOk [a] qs) : ∃ p, qs = [p] ∧ ArgOk a p := by
  simp only [ArgsOk] at h
  obtain ⟨p, r, rfl, h1, rfl⟩ := h
  exact ⟨p, rfl, h1⟩
theorem map_of {α : Type} {f : α → PV} : ∀ {xs : List PV}, (∀ x ∈ xs, ∃ a, x = f a) → ∃ l : List α, xs = l.map f
  | [], _ => ⟨[], rfl⟩
  | x :: xs, h => by
    obtain ⟨a, rfl⟩ := h x (by simp)
    obtain ⟨l, rfl⟩ := map_of (xs := xs) (fun y hy => h y (by simp [hy]))
    exact ⟨a :: l, rfl⟩
theorem ints_of {k : IntKind} {p : PV} (h : OkSh (.lst false [.int k]) p) : ∃ l : List Int, p = .lst (l.map fun n => .sc (.int k n)) ∧ l.length ≤ 9223372036854775807 ∧ ∀ x ∈ l, (Lit.int k x).wf = true := by
  simp only [OkSh] at h
  obtain ⟨xs, rfl, hl, hx⟩ := h
  obtain ⟨l, rfl⟩ := map_of (f := fun n : Int => PV.sc (.int k n)) (fun x hx' => by
    have := (hx x hx').2 trivial
    simp only [OkShs, OkSh] at this
    obtain ⟨_, _, e, ⟨n, rfl, _⟩, rfl⟩ := this
    injection e with e1 _
    exact ⟨n, e1⟩)
  refine ⟨l, rfl, by simpa [maxLen] using hl, fun x hx' => ?_⟩
  have := (hx _ (List.mem_map_of_mem hx')).2 trivial
  simp only [OkShs, OkSh] at this
  obtain ⟨_, _, e, ⟨n, rfl, hn⟩, rfl⟩ := this
  injection e with e1 _
  injection e1 with e1
  injection e1 with _ e1
  rw [e1]
  exact hn
end Go.Vc
