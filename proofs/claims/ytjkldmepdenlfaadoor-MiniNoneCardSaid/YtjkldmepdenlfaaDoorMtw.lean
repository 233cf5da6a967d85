/- A part of the proofs of the seat YtjkldmepdenlfaaDoor: the contracts of functions, each proved out of its code. -/
import Derived.Test.YtjkldmepdenlfaaDoorMtf
import Derived.Test.YtjkldmepdenlfaaDoorVh
import Derived.Test.YtjkldmepdenlfaaDoorVf
import Derived.Test.YtjkldmepdenlfaaDoorRows
import Derived.LaidHandle
import Derived.MakeChecks
namespace Go.Vc
open Go.Proofs Go.Proofs.YtjkldmepdenlfaaDoor
set_option maxRecDepth 100000
theorem strs_of {p : PV} (h : ArgOk (false, [.lst false [.str]]) p) : ∃ l : List ByteArray, p = ss l ∧ l.length ≤ 9223372036854775807 := by
  have h1 := OkShs_one h
  simp only [OkSh] at h1
  obtain ⟨xs, rfl, hl, hx⟩ := h1
  obtain ⟨l, rfl⟩ := map_of (f := fun b : ByteArray => pS b) (fun x hx' => by
    have := (hx x hx').2 trivial
    simp only [OkShs, OkSh] at this
    obtain ⟨_, _, e, ⟨n, rfl, _⟩, rfl⟩ := this
    injection e with e1 _
    exact ⟨n, e1⟩)
  exact ⟨l, rfl, by simpa [maxLen] using hl⟩
abbrev laidL : List (String × DataW Unit) := [("math/bits.deBruijn32tab", Rows.laid_math_bits_deBruijn32tab), ("math/bits.deBruijn64tab", Rows.laid_math_bits_deBruijn64tab), ("internal/strconv.uint64pow10", Rows.laid_internal_strconv_uint64pow10)]
theorem tab_lt {P : Program} {w : World} {name : String} {k : IntKind} {zs : List Int} {g : Nat} (h : Lib.TabIs P w name k zs) (hg : P.globalNamed name = some g) : g < w.heap.size := by
  unfold Lib.TabIs World.var? at h
  rw [hg] at h
  simp only [Option.bind_some] at h
  rcases Nat.lt_or_ge g w.heap.size with h1 | h1
  · exact h1
  · rw [Array.getElem?_eq_none h1] at h; cases h
theorem laidL_tab : (Rows.laid_math_bits_deBruijn64tab : DataW Unit) = Lib.tabData .u8 (Lib.deBruijn64tab.map fun n : Nat => (n : Int)) := by kernel_rfl
theorem laidL_pow : (Rows.laid_internal_strconv_uint64pow10 : DataW Unit) = Lib.tabData .u64 Lib.pow10Tab := by kernel_rfl
theorem laid_sub {P : Program} {w : World} {a : String × DataW Unit} {l : List (String × DataW Unit)} (h : laidMet P (a :: l) w) : laidMet P l w := by
  obtain ⟨ps, ⟨g, t, cs, fuel, p, q, _, _, _, _, hq, rfl⟩, hn, ha⟩ := h
  exact ⟨q, hq, (List.nodup_append.1 hn).2.1, fun b off hm => ha b off (List.mem_append.2 (.inr hm))⟩
theorem tabsTryd (w : World) (h : laidMetH Tryd.prog laidL w) : Tabs Tryd.prog w (fun _ => False) := fun t ht g hg => by
  rw [Go.MakeChecks.laidMetH_plain _ _ _ (by kernel_rfl)] at h
  simp only [tabList, List.mem_cons, List.not_mem_nil, or_false] at ht
  rcases ht with rfl | rfl
  · have hgn : Tryd.prog.globalNamed "math/bits.deBruijn64tab" = some 0 := by kernel_rfl
    have hT : Lib.TabIs Tryd.prog w "math/bits.deBruijn64tab" .u8 (Lib.deBruijn64tab.map fun n : Nat => (n : Int)) := by
      unfold laidL at h
      rw [laidL_tab] at h
      exact Lib.tabIs_of_head (t := 111) (e := 5) (n := 64) hgn (by kernel_rfl) (by kernel_rfl) (by kernel_rfl) (by kernel_rfl) (by kernel_rfl) (laid_sub h)
    exact ⟨fun h => h, tab_lt hT hg, hT⟩
  · have hgn : Tryd.prog.globalNamed "internal/strconv.uint64pow10" = some 2 := by kernel_rfl
    have hT : Lib.TabIs Tryd.prog w "internal/strconv.uint64pow10" .u64 Lib.pow10Tab := by
      unfold laidL at h
      rw [laidL_pow] at h
      exact Lib.tabIs_of_head (t := 149) (e := 79) (n := 20) hgn (by kernel_rfl) (by kernel_rfl) (by kernel_rfl) (by kernel_rfl) (by kernel_rfl) (laid_sub (laid_sub h))
    exact ⟨fun h => h, tab_lt hT hg, hT⟩
theorem ownTryd : ownKnob Tryd.prog.godebug = none := by kernel_rfl
theorem laidOutTryd : laidOutB Tryd.prog = true := by kernel_rfl
/-- a world in which the listed tables lie -/
noncomputable def laidWorld (os : Os) : World := layAt (layAt (layAt (World.holding Tryd.prog os ⟨#[], #[], []⟩) 0 (litsOf (Rows.laid_math_bits_deBruijn64tab : DataW Unit))) 2 (litsOf (Rows.laid_internal_strconv_uint64pow10 : DataW Unit))) 5 (litsOf (Rows.laid_math_bits_deBruijn32tab : DataW Unit))
theorem laid_met (os : Os) (args : Array Value) : laidMetH Tryd.prog laidL ((laidWorld os).forCall (fun _ _ => 0) ⟨#[], args, []⟩).memory := by
  have h : laidMet Tryd.prog laidL ((laidWorld os).forCall (fun _ _ => 0) ⟨#[], args, []⟩).memory := laidMet_of_run3 8 (by kernel_rfl) (by kernel_rfl) (by kernel_rfl)
  exact laidMetH_of_parts h (by kernel_rfl)
end Go.Vc

namespace Go.Vc
open Go.Proofs
set_option maxRecDepth 100000
abbrev shDi : List Sh := [.lst false [.str], .lst false [.lst false [.int .i64]], .lst false [.lst false [.int .i64]]]
theorem int64s_of {p : PV} (h : OkSh (.lst false [.int .i64]) p) : ∃ l : {l : List Int // ∀ n ∈ l, I64 n}, p = ints l.1 := by
  obtain ⟨l, rfl, hl, hb⟩ := ints_of h
  exact ⟨⟨l, fun n hn => by have := Go.bounds_i64 (hb n hn); exact this⟩, rfl⟩
theorem intss_of {p : PV} (h : OkSh (.lst false [.lst false [.int .i64]]) p) : ∃ l : List (List Int), p = .lst (l.map ints) ∧ ∀ x ∈ l, ∀ n ∈ x, I64 n := by
  simp only [OkSh] at h
  obtain ⟨xs, rfl, hl, hx⟩ := h
  obtain ⟨l, rfl⟩ := map_of (f := fun x : {l : List Int // ∀ n ∈ l, I64 n} => ints x.1) (fun x hx' => int64s_of (OkShs_one ((hx x hx').2 trivial)))
  refine ⟨l.map (·.1), by rw [List.map_map]; rfl, fun x hx' => ?_⟩
  obtain ⟨y, _, rfl⟩ := List.mem_map.1 hx'
  exact y.2
theorem di_of {p : PV} (h : ArgOk (true, shDi) p) : ∃ d : DI, p = pDi d ∧ ∀ l ∈ d.done, ∀ n ∈ l, I64 n := by
  obtain ⟨ss, rfl, h⟩ := h
  rw [shDi, OkShs] at h
  obtain ⟨a, _, rfl, h1, h⟩ := h
  rw [OkShs] at h
  obtain ⟨b, _, rfl, h2, h⟩ := h
  rw [OkShs] at h
  obtain ⟨c, _, rfl, h3, h⟩ := h
  rw [OkShs] at h
  subst h
  obtain ⟨l, rfl, _⟩ := strs_of (p := a) (by show OkShs _ _; rw [OkShs]; exact ⟨a, [], rfl, h1, by rw [OkShs]⟩)
  obtain ⟨m, rfl, _⟩ := intss_of h2
  obtain ⟨n, rfl, hn⟩ := intss_of h3
  exact ⟨⟨l, m, n⟩, rfl, hn⟩
end Go.Vc
