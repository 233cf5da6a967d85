/- A part of the proofs of the seat Ytjlmnegbgmpekaa: the contracts of functions, each proved out of its code. -/
import Derived.Test.YtjlmnegbgmpekaaWd
import Derived.Test.YtjlmnegbgmpekaaWe
import Derived.Test.YtjlmnegbgmpekaaWm
namespace Go.Vc
open Go.Proofs
set_option linter.unusedSimpArgs false

abbrev shLa : List Sh := [.str, .int .u64, .int .i64]
theorem la_of {ss : List PV} (h : OkShs shLa ss) : ∃ x : {x : La // 0 ≤ x.n ∧ x.n ≤ 18446744073709551615}, PV.agg ss = x.1.pv := by
  simp only [OkShs, OkSh] at h
  obtain ⟨_, _, rfl, ⟨s, rfl, _⟩, _, _, rfl, ⟨a, rfl, ha⟩, _, _, rfl, ⟨b, rfl, _⟩, rfl⟩ := h
  exact ⟨⟨⟨s, a, b⟩, Go.bounds_u64 ha⟩, rfl⟩
theorem la1_of {p : PV} (h : ArgOk (true, shLa) p) : ∃ x : La, p = x.pv ∧ 0 ≤ x.n ∧ x.n ≤ 18446744073709551615 := by
  obtain ⟨ss, rfl, h⟩ := h
  obtain ⟨x, e⟩ := la_of h
  exact ⟨x.1, e, x.2⟩
theorem ls_of {p : PV} (h : ArgOk (false, [.lst true shLa]) p) : ∃ l : List La, p = ls l ∧ l.length ≤ 9223372036854775807 ∧ OkNs l := by
  have h1 := OkShs_one h
  simp only [OkSh] at h1
  obtain ⟨xs, rfl, hl, hx⟩ := h1
  obtain ⟨l, rfl⟩ := map_of (f := fun x : {x : La // 0 ≤ x.n ∧ x.n ≤ 18446744073709551615} => x.1.pv) (fun x hx' => by obtain ⟨qs, rfl, hq⟩ := (hx x hx').1 trivial; exact la_of hq)
  refine ⟨l.map (·.1), by simp [Function.comp_def], by simpa [maxLen] using hl, fun x hx' => ?_⟩
  obtain ⟨y, _, rfl⟩ := List.mem_map.1 hx'
  exact y.2
theorem u64_of {p : PV} (h : ArgOk (false, [.int .u64]) p) : ∃ n : Int, p = pU n ∧ 0 ≤ n ∧ n ≤ 18446744073709551615 := by
  obtain ⟨n, rfl, hn⟩ := int_of h
  exact ⟨n, rfl, Go.bounds_u64 hn⟩
end Go.Vc
