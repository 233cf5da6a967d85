/- A part of the proofs of the seat Ytjlmnegbgmpekaa: the contracts of functions, each proved out of its code. -/
import Derived.Test.YtjlmnegbgmpekaaWd
import Derived.Test.YtjlmnegbgmpekaaWs
import Derived.Test.YtjlmnegbgmpekaaWu
namespace Go.Vc
open Go.Proofs
set_option linter.unusedSimpArgs false

abbrev shTm : List Sh := [.int .i64, .int .u64]
theorem tm_of {ss : List PV} (h : OkShs shTm ss) : ∃ x : Tm, PV.agg ss = x.pv := by
  simp only [OkShs, OkSh] at h
  obtain ⟨_, _, rfl, ⟨a, rfl, _⟩, _, _, rfl, ⟨b, rfl, _⟩, rfl⟩ := h
  exact ⟨⟨a, b⟩, rfl⟩
theorem tm1_of {p : PV} (h : ArgOk (true, shTm) p) : ∃ x : Tm, p = x.pv := by
  obtain ⟨ss, rfl, h⟩ := h
  exact tm_of h
theorem tms_of {p : PV} (h : ArgOk (false, [.lst true shTm]) p) : ∃ l : List Tm, p = tm l ∧ l.length ≤ 9223372036854775807 := by
  have h1 := OkShs_one h
  simp only [OkSh] at h1
  obtain ⟨xs, rfl, hl, hx⟩ := h1
  obtain ⟨l, rfl⟩ := map_of (f := Tm.pv) (fun x hx' => by obtain ⟨qs, rfl, hq⟩ := (hx x hx').1 trivial; exact tm_of hq)
  exact ⟨l, rfl, by simpa [maxLen] using hl⟩
end Go.Vc
