/- A part of the proofs of the seat Ytcjhccdbgphboaa: the contracts of functions, each proved out of its code. -/
import Derived.Test.YtcjhccdbgphboaaJe
import Derived.Test.YtcjhccdbgphboaaVf
import Derived.Test.YtcjhccdbgphboaaRows
namespace Go.Vc
open Go.Proofs

theorem kn_of {ss : List PV} (h : OkShs [.int .i64, .int .u64, .int .i64] ss) : ∃ k : Kp, PV.agg ss = k.pv := by
  simp only [OkShs, OkSh] at h
  obtain ⟨_, _, rfl, ⟨a, rfl, _⟩, _, _, rfl, ⟨b, rfl, _⟩, _, _, rfl, ⟨c, rfl, _⟩, rfl⟩ := h
  exact ⟨⟨a, b, c⟩, rfl⟩
theorem kp_of {p : PV} (h : ArgOk (true, [.int .i64, .int .u64, .int .i64]) p) : ∃ k : Kp, p = k.pv := by
  obtain ⟨ss, rfl, h⟩ := h
  exact kn_of h
theorem jn_of {p : PV} (h : ArgOk (true, [.str, .int .i64, .int .i64, .int .i64]) p) : ∃ j : Jn, p = j.pv := by
  obtain ⟨ss, rfl, h⟩ := h
  simp only [OkShs, OkSh] at h
  obtain ⟨_, _, rfl, ⟨s, rfl, _⟩, _, _, rfl, ⟨a, rfl, _⟩, _, _, rfl, ⟨b, rfl, _⟩, _, _, rfl, ⟨c, rfl, _⟩, rfl⟩ := h
  exact ⟨⟨s, a, b, c⟩, rfl⟩
theorem map_of {α : Type} {f : α → PV} : ∀ {xs : List PV}, (∀ x ∈ xs, ∃ a, x = f a) → ∃ l : List α, xs = l.map f
  | [], _ => ⟨[], rfl⟩
  | x :: xs, h => by
    obtain ⟨a, rfl⟩ := h x (by simp)
    obtain ⟨l, rfl⟩ := map_of (xs := xs) (fun y hy => h y (by simp [hy]))
    exact ⟨a :: l, rfl⟩
theorem ks_of {p : PV} (h : ArgOk (false, [.lst true [.int .i64, .int .u64, .int .i64]]) p) : ∃ l : List Kp, p = ks l ∧ l.length ≤ 9223372036854775807 := by
  have h1 := OkShs_one h
  simp only [OkSh] at h1
  obtain ⟨xs, rfl, hl, hx⟩ := h1
  obtain ⟨l, rfl⟩ := map_of (f := Kp.pv) (fun x hx' => by obtain ⟨qs, rfl, hq⟩ := (hx x hx').1 trivial; exact kn_of hq)
  refine ⟨l, rfl, ?_⟩
  simpa [maxLen] using hl
theorem int_of {k : IntKind} {p : PV} (h : ArgOk (false, [.int k]) p) : ∃ n, p = .sc (.int k n) ∧ (Lit.int k n).wf = true := by
  have h1 := OkShs_one h
  simpa only [OkSh] using h1
theorem u8_of {p : PV} (h : ArgOk (false, [.int .u8]) p) : ∃ n : Nat, p = .sc (.int .u8 n) ∧ n ≤ 255 := by
  obtain ⟨n, rfl, hn⟩ := int_of h
  have := Go.bounds_u8 hn
  obtain ⟨m, rfl⟩ := Int.eq_ofNat_of_zero_le this.1
  exact ⟨m, rfl, by omega⟩
theorem bool_of {p : PV} (h : ArgOk (false, [.bool]) p) : ∃ b : Bool, p = pB b := by
  have h1 := OkShs_one h
  simpa only [OkSh] using h1
theorem bs_of {p : PV} (h : ArgOk (false, [.lst false [.int .u8]]) p) : ∃ l : List Int, p = .lst (l.map fun n => .sc (.int .u8 n)) ∧ ∀ x ∈ l, 0 ≤ x ∧ x ≤ 255 := by
  have h1 := OkShs_one h
  simp only [OkSh] at h1
  obtain ⟨xs, rfl, _, hx⟩ := h1
  obtain ⟨l, rfl⟩ := map_of (f := fun n : Int => PV.sc (.int .u8 n)) (fun x hx' => by
    have := (hx x hx').2 trivial
    simp only [OkShs, OkSh] at this
    obtain ⟨_, _, e, ⟨n, rfl, _⟩, rfl⟩ := this
    injection e with e1 _
    exact ⟨n, e1⟩)
  refine ⟨l, rfl, fun x hx' => ?_⟩
  have := (hx _ (List.mem_map_of_mem hx')).2 trivial
  simp only [OkShs, OkSh] at this
  obtain ⟨_, _, e, ⟨n, rfl, hn⟩, rfl⟩ := this
  injection e with e1 _
  injection e1 with e1
  injection e1 with _ e1
  rw [e1]
  exact Go.bounds_u8 hn
theorem args2 {a b : Bool × List Sh} {qs : List PV} (h : ArgsOk [a, b] qs) : ∃ p q, qs = [p, q] ∧ ArgOk a p ∧ ArgOk b q := by
  simp only [ArgsOk] at h
  obtain ⟨p, _, rfl, h1, q, _, rfl, h2, rfl⟩ := h
  exact ⟨p, q, rfl, h1, h2⟩
theorem args3 {a b c : Bool × List Sh} {qs : List PV} (h : ArgsOk [a, b, c] qs) : ∃ p q r, qs = [p, q, r] ∧ ArgOk a p ∧ ArgOk b q ∧ ArgOk c r := by
  simp only [ArgsOk] at h
  obtain ⟨p, _, rfl, h1, q, _, rfl, h2, r, _, rfl, h3, rfl⟩ := h
  exact ⟨p, q, r, rfl, h1, h2, h3⟩
theorem ownTry : ownKnob Try.prog.godebug = none := by kernel_rfl
theorem laidOutTry : laidOutB Try.prog = true := by kernel_rfl
end Go.Vc
