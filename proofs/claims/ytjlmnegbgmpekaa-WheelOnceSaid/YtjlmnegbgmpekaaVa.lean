/- A part of the proofs of the seat Ytjlmnegbgmpekaa: the layer that turns the code of a function into what is to be shown (verification conditions), proved sound. -/
import Derived.WalkKit
import Derived.Lib.LaidTab
import Derived.Lib.ItoaNum
import Derived.Lib.TrailingZeros
namespace Go.Vc
open Go.RowKit

/-- PURE VALUES: a Go value without an address: a slice is the list of its elements. -/
inductive PV where
  | sc (v : Value)
  | agg (cs : List PV)
  | lst (xs : List PV)
  | tup (vs : List PV)
  | fn (f : FuncId) (caps : List PV)
  | pt (cs : List PV)
  deriving Inhabited

/-- the cells of an element -/
def PV.cells : PV → List PV
  | .agg cs => cs
  | p => [p]

mutual
def PRel (w : World) (F : Nat → Prop) : PV → Value → Prop
  | .sc v, cv => cv = v
  | .agg cs, cv => ∃ vs : List Value, cv = .agg ⟨vs⟩ ∧ PRels w F cs vs
  | .lst xs, cv => ∃ a n c, cv = .slice a n c ∧ n = xs.length ∧ n ≤ c ∧ (0 < n → ∃ b o, a = some ⟨b, o, none⟩ ∧ b < w.heap.size ∧ ¬ F b ∧ PElems w F xs b o)
  | .tup ps, cv => ∃ vs : List Value, cv = .tuple ⟨vs⟩ ∧ PRels w F ps vs
  | .fn f caps, cv => ∃ vs : List Value, cv = .func (.func f) #[] ⟨vs⟩ ∧ PRels w F caps vs
  | .pt cs, cv => ∃ b o, cv = .pointer (some ⟨b, o, none⟩) ∧ b < w.heap.size ∧ ¬ F b ∧ PCells w F cs b o
def PRels (w : World) (F : Nat → Prop) : List PV → List Value → Prop
  | [], vs => vs = []
  | p :: ps, vs => ∃ v r, vs = v :: r ∧ PRel w F p v ∧ PRels w F ps r
def PElems (w : World) (F : Nat → Prop) : List PV → Nat → Nat → Prop
  | [], _, _ => True
  | .agg cs :: xs, b, o => PCells w F cs b o ∧ PElems w F xs b (o + cs.length)
  | x :: xs, b, o => (∃ v, w.cell? ⟨b, o, none⟩ = some v ∧ PRel w F x v) ∧ PElems w F xs b (o + 1)
def PCells (w : World) (F : Nat → Prop) : List PV → Nat → Nat → Prop
  | [], _, _ => True
  | x :: xs, b, o => (∃ v, w.cell? ⟨b, o, none⟩ = some v ∧ PRel w F x v) ∧ PCells w F xs b (o + 1)
end

/-- ABSTRACT VALUES of a function at work: pure ones, and what leads into its own rows. -/
inductive AV where
  | un
  | pv (p : PV)
  | agg (cs : List AV)
  | tup (vs : List AV)
  | e0
  | lit (xs : List AV)
  | row (r off n : Nat)
  | ptr (r off : Nat)
  | rptr (r i off : Nat)
  | eptr (xs : List PV) (i off : Nat)
  | cptr (cs : List PV) (off : Nat)
  | fn (f : FuncId) (caps : List AV)
  | mp (r : Nat)
  | it (r : Nat)
  | whn (c : Bool) (v : AV)
  deriving Inhabited

/-- where an own row lies: its block, its first cell, how many elements there is room for, the cells of an element; 'ok = false': it has no block yet -/
structure Loc where
  blk : Nat
  base : Nat
  cap : Nat
  s : Nat
  ok : Bool
  len : Nat
  deriving Inhabited

/-- a world, the blocks that may still be written, where the own rows lie -/
structure Cx where
  w : World
  F : Nat → Prop
  ρ : Nat → Loc

mutual
def VRel (x : Cx) : AV → Value → Prop
  | .un, _ => True
  | .pv p, cv => PRel x.w x.F p cv
  | .agg cs, cv => ∃ vs : List Value, cv = .agg ⟨vs⟩ ∧ VRels x cs vs
  | .tup ps, cv => ∃ vs : List Value, cv = .tuple ⟨vs⟩ ∧ VRels x ps vs
  | .e0, cv => ∃ a, cv = .slice a 0 0
  | .lit xs, cv => ∃ a n c, cv = .slice a n c ∧ n = xs.length ∧ n ≤ c ∧ (0 < n → ∃ b o, a = some ⟨b, o, none⟩ ∧ b < x.w.heap.size ∧ ¬ x.F b ∧ AElems x xs b o)
  | .row r off n, cv => (n = 0 ∧ ((x.ρ r).ok = true → (x.ρ r).cap ≤ off) ∧ ∃ a, cv = .slice a 0 0) ∨ (∃ c, (x.ρ r).ok = true ∧ cv = .slice (some ⟨(x.ρ r).blk, (x.ρ r).base + off * (x.ρ r).s, none⟩) n c ∧ n ≤ c ∧ off + c = (x.ρ r).cap ∧ off + n ≤ (x.ρ r).len)
  | .ptr r off, cv => cv = .pointer (some ⟨(x.ρ r).blk, (x.ρ r).base + off, none⟩)
  | .rptr r i off, cv => cv = .pointer (some ⟨(x.ρ r).blk, (x.ρ r).base + i * (x.ρ r).s + off, none⟩)
  | .eptr xs i off, cv => ∃ b o, cv = .pointer (some ⟨b, o + ((xs.take i).map (·.cells.length)).sum + off, none⟩) ∧ b < x.w.heap.size ∧ ¬ x.F b ∧ PElems x.w x.F xs b o ∧ i < xs.length
  | .cptr cs off, cv => ∃ b o, cv = .pointer (some ⟨b, o + off, none⟩) ∧ b < x.w.heap.size ∧ ¬ x.F b ∧ PCells x.w x.F cs b o
  | .fn f caps, cv => ∃ vs : List Value, cv = .func (.func f) #[] ⟨vs⟩ ∧ VRels x caps vs
  | .mp r, cv => cv = .map (some (x.ρ r).blk)
  | .it r, cv => cv = .pointer (some ⟨(x.ρ r).blk, 0, none⟩)
  | .whn c v, cv => (c = true → VRel x v cv) ∧ (c = false → cv = undef)
def VRels (x : Cx) : List AV → List Value → Prop
  | [], vs => vs = []
  | p :: ps, vs => ∃ v r, vs = v :: r ∧ VRel x p v ∧ VRels x ps r
def AElems (x : Cx) : List AV → Nat → Nat → Prop
  | [], _, _ => True
  | .agg cs :: xs, b, o => ACells x cs b o ∧ AElems x xs b (o + cs.length)
  | .pv (.agg cs) :: xs, b, o => PCells x.w x.F cs b o ∧ AElems x xs b (o + cs.length)
  | y :: xs, b, o => (∃ v, x.w.cell? ⟨b, o, none⟩ = some v ∧ VRel x y v) ∧ AElems x xs b (o + 1)
def ACells (x : Cx) : List AV → Nat → Nat → Prop
  | [], _, _ => True
  | y :: xs, b, o => (∃ v, x.w.cell? ⟨b, o, none⟩ = some v ∧ VRel x y v) ∧ ACells x xs b (o + 1)
end

/-! ### kept over other worlds -/
/-- from x to y nothing has turned that a value of x may lean on -/
structure Kept (x y : Cx) : Prop where
  size : x.w.heap.size ≤ y.w.heap.size
  heap : ∀ b, ¬ x.F b → b < x.w.heap.size → y.w.heap[b]? = x.w.heap[b]?
  F : ∀ b, b < x.w.heap.size → y.F b → x.F b

theorem lt_of_cell {w : World} {b o : Nat} {v : Value} (h : w.cell? ⟨b, o, none⟩ = some v) : b < w.heap.size := by
  unfold World.cell? at h
  rcases Nat.lt_or_ge b w.heap.size with h1 | h1
  · exact h1
  · simp [Array.getElem?_eq_none h1] at h

theorem cell_kept {w w' : World} {b o : Nat} {v : Value} (h : w.cell? ⟨b, o, none⟩ = some v) (hb : w'.heap[b]? = w.heap[b]?) : w'.cell? ⟨b, o, none⟩ = some v := by
  rw [← h]; unfold World.cell?; simp only [hb]

theorem Kept.cell {x y : Cx} (k : Kept x y) {b o : Nat} {v : Value} (hF : ¬ x.F b) (h : x.w.cell? ⟨b, o, none⟩ = some v) : y.w.cell? ⟨b, o, none⟩ = some v :=
  cell_kept h (k.heap b hF (lt_of_cell h))

mutual
theorem PRel.kept {x y : Cx} (k : Kept x y) : ∀ (p : PV) {v : Value}, PRel x.w x.F p v → PRel y.w y.F p v
  | .sc _, _, h => by simpa only [PRel] using h
  | .agg cs, _, h => by
    simp only [PRel] at h ⊢
    obtain ⟨vs, e, h⟩ := h
    exact ⟨vs, e, PRels.kept k cs h⟩
  | .tup cs, _, h => by
    simp only [PRel] at h ⊢
    obtain ⟨vs, e, h⟩ := h
    exact ⟨vs, e, PRels.kept k cs h⟩
  | .fn _ cs, _, h => by
    simp only [PRel] at h ⊢
    obtain ⟨vs, e, h⟩ := h
    exact ⟨vs, e, PRels.kept k cs h⟩
  | .pt cs, _, h => by
    simp only [PRel] at h ⊢
    obtain ⟨b, o, e, hlt, hF, he⟩ := h
    exact ⟨b, o, e, Nat.lt_of_lt_of_le hlt k.size, fun hy => hF (k.F b hlt hy), PCells.kept k cs (fun h => k.cell hF h) he⟩
  | .lst zs, _, h => by
    simp only [PRel] at h ⊢
    obtain ⟨a, n, c, e, h1, h2, h3⟩ := h
    refine ⟨a, n, c, e, h1, h2, fun hn => ?_⟩
    obtain ⟨b, o, ha, hlt, hF, he⟩ := h3 hn
    exact ⟨b, o, ha, Nat.lt_of_lt_of_le hlt k.size, fun hy => hF (k.F b hlt hy), PElems.kept k zs (fun h => k.cell hF h) he⟩
theorem PRels.kept {x y : Cx} (k : Kept x y) : ∀ (ps : List PV) {vs : List Value}, PRels x.w x.F ps vs → PRels y.w y.F ps vs
  | [], _, h => by simpa only [PRels] using h
  | p :: ps, _, h => by
    simp only [PRels] at h ⊢
    obtain ⟨v, r, e, h1, h2⟩ := h
    exact ⟨v, r, e, PRel.kept k p h1, PRels.kept k ps h2⟩
theorem PElems.kept {x y : Cx} (k : Kept x y) : ∀ (zs : List PV) {b o : Nat}, (∀ {o : Nat} {v : Value}, x.w.cell? ⟨b, o, none⟩ = some v → y.w.cell? ⟨b, o, none⟩ = some v) → PElems x.w x.F zs b o → PElems y.w y.F zs b o
  | [], _, _, _, _ => by simp only [PElems]
  | .agg cs :: xs, b, o, hc, h => by
    simp only [PElems] at h ⊢
    exact ⟨PCells.kept k cs hc h.1, PElems.kept k xs hc h.2⟩
  | .sc v :: xs, b, o, hc, h => by
    simp only [PElems] at h ⊢
    obtain ⟨⟨u, h1, h2⟩, h3⟩ := h
    exact ⟨⟨u, hc h1, PRel.kept k (.sc v) h2⟩, PElems.kept k xs hc h3⟩
  | .lst v :: xs, b, o, hc, h => by
    simp only [PElems] at h ⊢
    obtain ⟨⟨u, h1, h2⟩, h3⟩ := h
    exact ⟨⟨u, hc h1, PRel.kept k (.lst v) h2⟩, PElems.kept k xs hc h3⟩
  | .tup v :: xs, b, o, hc, h => by
    simp only [PElems] at h ⊢
    obtain ⟨⟨u, h1, h2⟩, h3⟩ := h
    exact ⟨⟨u, hc h1, PRel.kept k (.tup v) h2⟩, PElems.kept k xs hc h3⟩
  | .fn g v :: xs, b, o, hc, h => by
    simp only [PElems] at h ⊢
    obtain ⟨⟨u, h1, h2⟩, h3⟩ := h
    exact ⟨⟨u, hc h1, PRel.kept k (.fn g v) h2⟩, PElems.kept k xs hc h3⟩
  | .pt v :: xs, b, o, hc, h => by
    simp only [PElems] at h ⊢
    obtain ⟨⟨u, h1, h2⟩, h3⟩ := h
    exact ⟨⟨u, hc h1, PRel.kept k (.pt v) h2⟩, PElems.kept k xs hc h3⟩
theorem PCells.kept {x y : Cx} (k : Kept x y) : ∀ (zs : List PV) {b o : Nat}, (∀ {o : Nat} {v : Value}, x.w.cell? ⟨b, o, none⟩ = some v → y.w.cell? ⟨b, o, none⟩ = some v) → PCells x.w x.F zs b o → PCells y.w y.F zs b o
  | [], _, _, _, _ => by simp only [PCells]
  | z :: xs, b, o, hc, h => by
    simp only [PCells] at h ⊢
    obtain ⟨⟨u, h1, h2⟩, h3⟩ := h
    exact ⟨⟨u, hc h1, PRel.kept k z h2⟩, PCells.kept k xs hc h3⟩
end
end Go.Vc

namespace Go.Vc
open Go.RowKit

mutual
/-- what leads into a row of a name in D is forgotten -/
def AV.clip (D : Nat → Bool) : AV → AV
  | .un => .un
  | .pv p => .pv p
  | .agg cs => .agg (AV.clips D cs)
  | .tup cs => .tup (AV.clips D cs)
  | .e0 => .e0
  | .lit xs => .lit (AV.clips D xs)
  | .row r off n => if D r then .un else .row r off n
  | .ptr r off => if D r then .un else .ptr r off
  | .rptr r i off => if D r then .un else .rptr r i off
  | .eptr xs i off => .eptr xs i off
  | .cptr cs off => .cptr cs off
  | .fn f caps => .fn f (AV.clips D caps)
  | .mp r => if D r then .un else .mp r
  | .it r => if D r then .un else .it r
  | .whn c v => .whn c (AV.clip D v)
def AV.clips (D : Nat → Bool) : List AV → List AV
  | [] => []
  | v :: vs => AV.clip D v :: AV.clips D vs
end

theorem clips_length (D : Nat → Bool) : ∀ l : List AV, (AV.clips D l).length = l.length
  | [] => rfl
  | _ :: l => by simp only [AV.clips, List.length_cons, clips_length D l]

theorem AElems_one {x : Cx} {y : AV} {ys : List AV} {b o : Nat} (h1 : ∀ cs, y ≠ .agg cs) (h2 : ∀ cs, y ≠ .pv (.agg cs)) :
    AElems x (y :: ys) b o ↔ (∃ v, x.w.cell? ⟨b, o, none⟩ = some v ∧ VRel x y v) ∧ AElems x ys b (o + 1) := by
  cases y with
  | agg cs => exact absurd rfl (h1 cs)
  | pv p =>
    cases p with
    | agg cs => exact absurd rfl (h2 cs)
    | _ => simp only [AElems]
  | _ => simp only [AElems]

theorem clip_ne_agg {D : Nat → Bool} {y : AV} (h1 : ∀ cs, y ≠ .agg cs) : ∀ cs, y.clip D ≠ .agg cs := by
  intro cs
  cases y <;> simp only [AV.clip] <;> first | (split <;> simp) | simp
  rename_i l; exact (h1 l rfl).elim
theorem clip_ne_pv {D : Nat → Bool} {y : AV} (h1 : ∀ cs, y ≠ .pv (.agg cs)) : ∀ cs, y.clip D ≠ .pv (.agg cs) := by
  intro cs
  cases y <;> simp only [AV.clip] <;> first | (split <;> simp) | simp
  rename_i l; exact fun e => h1 cs (by rw [e])

mutual
theorem VRel.clip {x y : Cx} (k : Kept x y) {D : Nat → Bool} (hρ : ∀ r, D r = false → y.ρ r = x.ρ r) : ∀ (a : AV) {v : Value}, VRel x a v → VRel y (a.clip D) v
  | .un, _, _ => by simp only [AV.clip, VRel]
  | .pv p, _, h => by
    simp only [AV.clip, VRel] at h ⊢
    exact PRel.kept k p h
  | .agg cs, _, h => by
    simp only [AV.clip, VRel] at h ⊢
    obtain ⟨vs, e, h⟩ := h
    exact ⟨vs, e, VRels.clip k hρ cs h⟩
  | .tup cs, _, h => by
    simp only [AV.clip, VRel] at h ⊢
    obtain ⟨vs, e, h⟩ := h
    exact ⟨vs, e, VRels.clip k hρ cs h⟩
  | .e0, _, h => by simpa only [AV.clip, VRel] using h
  | .lit zs, _, h => by
    simp only [AV.clip, VRel] at h ⊢
    obtain ⟨a, n, c, e, h1, h2, h3⟩ := h
    refine ⟨a, n, c, e, by rw [clips_length]; exact h1, h2, fun hn => ?_⟩
    obtain ⟨b, o, ha, hlt, hF, he⟩ := h3 hn
    exact ⟨b, o, ha, Nat.lt_of_lt_of_le hlt k.size, fun hy => hF (k.F b hlt hy), AElems.clip k hρ zs (fun h => k.cell hF h) he⟩
  | .row r off n, _, h => by
    simp only [AV.clip]
    cases hD : D r
    · simp only [VRel, Bool.false_eq_true, if_false, hρ r hD] at h ⊢
      exact h
    · simp only [if_true, VRel]
  | .ptr r off, _, h => by
    simp only [AV.clip]
    cases hD : D r
    · simp only [VRel, Bool.false_eq_true, if_false, hρ r hD] at h ⊢
      exact h
    · simp only [if_true, VRel]
  | .rptr r i off, _, h => by
    simp only [AV.clip]
    cases hD : D r
    · simp only [VRel, Bool.false_eq_true, if_false, hρ r hD] at h ⊢
      exact h
    · simp only [if_true, VRel]
  | .eptr zs i off, _, h => by
    simp only [AV.clip, VRel] at h ⊢
    obtain ⟨b, o, e, hlt, hF, he, hi⟩ := h
    exact ⟨b, o, e, Nat.lt_of_lt_of_le hlt k.size, fun hy => hF (k.F b hlt hy), PElems.kept k zs (fun h => k.cell hF h) he, hi⟩
  | .cptr zs off, _, h => by
    simp only [AV.clip, VRel] at h ⊢
    obtain ⟨b, o, e, hlt, hF, he⟩ := h
    exact ⟨b, o, e, Nat.lt_of_lt_of_le hlt k.size, fun hy => hF (k.F b hlt hy), PCells.kept k zs (fun h => k.cell hF h) he⟩
  | .fn _ cs, _, h => by
    simp only [AV.clip, VRel] at h ⊢
    obtain ⟨vs, e, h⟩ := h
    exact ⟨vs, e, VRels.clip k hρ cs h⟩
  | .mp r, _, h => by
    simp only [AV.clip]
    cases hD : D r
    · simp only [VRel, Bool.false_eq_true, if_false, hρ r hD] at h ⊢
      exact h
    · simp only [if_true, VRel]
  | .it r, _, h => by
    simp only [AV.clip]
    cases hD : D r
    · simp only [VRel, Bool.false_eq_true, if_false, hρ r hD] at h ⊢
      exact h
    · simp only [if_true, VRel]
  | .whn c a, _, h => by
    simp only [AV.clip, VRel] at h ⊢
    exact ⟨fun hc => VRel.clip k hρ a (h.1 hc), h.2⟩
theorem VRels.clip {x y : Cx} (k : Kept x y) {D : Nat → Bool} (hρ : ∀ r, D r = false → y.ρ r = x.ρ r) : ∀ (as : List AV) {vs : List Value}, VRels x as vs → VRels y (AV.clips D as) vs
  | [], _, h => by simpa only [AV.clips, VRels] using h
  | p :: ps, _, h => by
    simp only [AV.clips, VRels] at h ⊢
    obtain ⟨v, r, e, h1, h2⟩ := h
    exact ⟨v, r, e, VRel.clip k hρ p h1, VRels.clip k hρ ps h2⟩
theorem AElems.clip {x y : Cx} (k : Kept x y) {D : Nat → Bool} (hρ : ∀ r, D r = false → y.ρ r = x.ρ r) : ∀ (zs : List AV) {b o : Nat}, (∀ {o : Nat} {v : Value}, x.w.cell? ⟨b, o, none⟩ = some v → y.w.cell? ⟨b, o, none⟩ = some v) → AElems x zs b o → AElems y (AV.clips D zs) b o
  | [], _, _, _, _ => by simp only [AV.clips, AElems]
  | .agg cs :: xs, b, o, hc, h => by
    simp only [AV.clips, AV.clip, AElems, clips_length] at h ⊢
    exact ⟨ACells.clip k hρ cs hc h.1, AElems.clip k hρ xs hc h.2⟩
  | .pv (.agg cs) :: xs, b, o, hc, h => by
    simp only [AV.clips, AV.clip, AElems] at h ⊢
    exact ⟨PCells.kept k cs hc h.1, AElems.clip k hρ xs hc h.2⟩
  | z :: xs, b, o, hc, h => by
    by_cases h1 : ∃ cs, z = .agg cs
    · obtain ⟨cs, rfl⟩ := h1
      simp only [AV.clips, AV.clip, AElems, clips_length] at h ⊢
      exact ⟨ACells.clip k hρ cs hc h.1, AElems.clip k hρ xs hc h.2⟩
    by_cases h2 : ∃ cs, z = .pv (.agg cs)
    · obtain ⟨cs, rfl⟩ := h2
      simp only [AV.clips, AV.clip, AElems] at h ⊢
      exact ⟨PCells.kept k cs hc h.1, AElems.clip k hρ xs hc h.2⟩
    have h1' : ∀ cs, z ≠ .agg cs := fun cs e => h1 ⟨cs, e⟩
    have h2' : ∀ cs, z ≠ .pv (.agg cs) := fun cs e => h2 ⟨cs, e⟩
    rw [AElems_one h1' h2'] at h
    simp only [AV.clips]
    rw [AElems_one (clip_ne_agg h1') (clip_ne_pv h2')]
    obtain ⟨⟨u, h3, h4⟩, h5⟩ := h
    exact ⟨⟨u, hc h3, VRel.clip k hρ z h4⟩, AElems.clip k hρ xs hc h5⟩
theorem ACells.clip {x y : Cx} (k : Kept x y) {D : Nat → Bool} (hρ : ∀ r, D r = false → y.ρ r = x.ρ r) : ∀ (zs : List AV) {b o : Nat}, (∀ {o : Nat} {v : Value}, x.w.cell? ⟨b, o, none⟩ = some v → y.w.cell? ⟨b, o, none⟩ = some v) → ACells x zs b o → ACells y (AV.clips D zs) b o
  | [], _, _, _, _ => by simp only [AV.clips, ACells]
  | z :: xs, b, o, hc, h => by
    simp only [AV.clips, ACells] at h ⊢
    obtain ⟨⟨u, h1, h2⟩, h3⟩ := h
    exact ⟨⟨u, hc h1, VRel.clip k hρ z h2⟩, ACells.clip k hρ xs hc h3⟩
end

mutual
theorem clip_none : ∀ v : AV, v.clip (fun _ => false) = v
  | .un | .pv _ | .e0 | .row _ _ _ | .ptr _ _ | .rptr _ _ _ | .eptr _ _ _ | .cptr _ _ | .mp _ | .it _ => by simp [AV.clip]
  | .agg cs => by simp only [AV.clip, clips_none cs]
  | .tup cs => by simp only [AV.clip, clips_none cs]
  | .lit cs => by simp only [AV.clip, clips_none cs]
  | .fn _ cs => by simp only [AV.clip, clips_none cs]
  | .whn _ v => by simp only [AV.clip, clip_none v]
theorem clips_none : ∀ l : List AV, AV.clips (fun _ => false) l = l
  | [] => rfl
  | v :: l => by simp only [AV.clips, clip_none v, clips_none l]
end
theorem VRel.kept {x y : Cx} (k : Kept x y) (hρ : y.ρ = x.ρ) {a : AV} {v : Value} (h : VRel x a v) : VRel y a v := by
  have := VRel.clip k (D := fun _ => false) (fun r _ => by rw [hρ]) a h
  rwa [clip_none] at this
theorem VRels.kept {x y : Cx} (k : Kept x y) (hρ : y.ρ = x.ρ) {a : List AV} {v : List Value} (h : VRels x a v) : VRels y a v := by
  have := VRels.clip k (D := fun _ => false) (fun r _ => by rw [hρ]) a h
  rwa [clips_none] at this
end Go.Vc

namespace Go.Vc
open Go.RowKit

/-- OWN ROWS: a variable in memory (box), a slice's array that may still be written (sl; slf: all that there is room for is told), a map, a string's iterator -/
inductive Row where
  | box (cells : List AV)
  | sl (s : Nat) (xs : List PV)
  | slf (s : Nat) (xs : List PV)
  | bxs (cells : List AV)
  | mp (es : List (PV × PV))
  | sit (s : ByteArray) (pos : Nat)
  | mit (m n : Nat) (rem : List Nat) (cur : Option Nat)
  | mpd (es : List (Nat × PV × PV)) (clock : Nat)
  | mid (m n : Nat) (bs rem : List Nat) (cur : Option Nat)
  | gone
  deriving Inhabited

/-- a value of one cell -/
def PV.one : PV → Bool
  | .sc v => v.oneCell'
  | .agg _ | .tup _ => false
  | _ => true
/-- a list of elements of s cells each -/
def WfL (s : Nat) (xs : List PV) : Prop := ∀ p ∈ xs, p.cells.length = s ∧ ∀ c ∈ p.cells, c.one = true

def AV.width : AV → Nat
  | .agg cs => cs.length
  | .pv p => p.cells.length
  | _ => 1

/-- block b is a row of cells, none of them barred, at least n of them -/
def Arr (w : World) (b n : Nat) : Prop := ∃ cs t, w.heap[b]? = some (.cells cs t (0, 0)) ∧ n ≤ cs.size

/-- .. and each cell is one value -/
def Arr1 (w : World) (b n : Nat) : Prop := ∃ cs t, w.heap[b]? = some (.cells cs t (0, 0)) ∧ n ≤ cs.size ∧ ∀ c ∈ cs.toList, c.oneCell' = true
theorem Arr1.arr {w : World} {b n : Nat} (h : Arr1 w b n) : Arr w b n := let ⟨cs, t, h1, h2, _⟩ := h; ⟨cs, t, h1, h2⟩

def EntryRel (x : Cx) (p : PV × PV) (e : MapEntry) : Prop := PRel x.w x.F p.1 e.key ∧ PRel x.w x.F p.2 e.val

def Row.rel (x : Cx) (l : Loc) : Row → Prop
  | .box cells => l.ok = true ∧ Arr x.w l.blk (l.base + cells.length) ∧ ACells x cells l.blk l.base
  | .sl s xs => (l.ok = false ∧ xs = []) ∨ (l.s = s ∧ l.ok = true ∧ (l.len = xs.length ∧ xs.length ≤ l.cap) ∧ WfL s xs ∧ Arr1 x.w l.blk (l.base + l.cap * l.s) ∧ PElems x.w x.F xs l.blk l.base)
  | .slf s xs => (l.ok = false ∧ xs = []) ∨ (l.s = s ∧ l.ok = true ∧ (l.len = xs.length ∧ xs.length = l.cap) ∧ WfL s xs ∧ Arr1 x.w l.blk (l.base + l.cap * l.s) ∧ PElems x.w x.F xs l.blk l.base)
  | .bxs cells => l.ok = true ∧ (l.s = 1 ∧ l.len = cells.length ∧ cells.length ≤ l.cap) ∧ Arr x.w l.blk (l.base + l.cap) ∧ ACells x cells l.blk l.base
  | .mp es => l.ok = true ∧ ∃ (ents : List MapEntry) (clock : Nat), x.w.heap[l.blk]? = some (.map ⟨ents⟩ clock) ∧ ents.length = es.length ∧ (∀ (i : Nat) p e, es[i]? = some p → ents[i]? = some e → EntryRel x p e) ∧
      clock = ents.length ∧ (∀ (i : Nat) e, ents[i]? = some e → e.born = i)
  | .sit s pos => l.ok = true ∧ x.w.heap[l.blk]? = some (.stringIter s pos)
  | .mit m n rem cur => l.ok = true ∧ ∃ seen : Array Nat, x.w.heap[l.blk]? = some (.mapIter (some (x.ρ m).blk) n seen n) ∧ rem.Nodup ∧ (∀ i, i ∈ rem ↔ i < n ∧ seen.contains i = false) ∧ cur = seen.back? ∧ (∀ c, cur = some c → c < n)
  | .mpd es clock => l.ok = true ∧ ∃ ents : List MapEntry, x.w.heap[l.blk]? = some (.map ⟨ents⟩ clock) ∧ ents.length = es.length ∧ (∀ (i : Nat) p e, es[i]? = some p → ents[i]? = some e → EntryRel x p.2 e ∧ e.born = p.1) ∧
      (es.map (·.1)).Nodup ∧ (∀ p ∈ es, p.1 < clock)
  | .mid m n bs rem cur => l.ok = true ∧ ∃ seen : Array Nat, x.w.heap[l.blk]? = some (.mapIter (some (x.ρ m).blk) n seen n) ∧ rem.Nodup ∧ (∀ i, i ∈ rem ↔ ∃ b, bs[i]? = some b ∧ seen.contains b = false) ∧
      (∀ c, cur = some c → ∃ b, bs[c]? = some b ∧ seen.back? = some b)
  | .gone => l.ok = true ∧ l.blk < x.w.heap.size

def Row.clip (D : Nat → Bool) : Row → Row
  | .box cells => .box (AV.clips D cells)
  | .sl s xs => .sl s xs
  | .slf s xs => .slf s xs
  | .bxs cells => .bxs (AV.clips D cells)
  | .mp es => .mp es
  | .sit s pos => .sit s pos
  | .mit m n rem cur => if D m then .gone else .mit m n rem cur
  | .mpd es clock => .mpd es clock
  | .mid m n bs rem cur => if D m then .gone else .mid m n bs rem cur
  | .gone => .gone

/-- THE ABSTRACT STATE: the slots that are known, the own rows -/
structure St where
  fr : List (Nat × AV)
  st : List (Nat × Row)

def frGet : List (Nat × AV) → Nat → AV
  | [], _ => .un
  | (k', v) :: r, k => if k' = k then v else frGet r k
def frDel : List (Nat × AV) → Nat → List (Nat × AV)
  | [], _ => []
  | (k', v) :: r, k => if k' = k then frDel r k else (k', v) :: frDel r k
def frPut (l : List (Nat × AV)) (k : Nat) (v : AV) : List (Nat × AV) := (k, v) :: frDel l k
def frClip (D : Nat → Bool) : List (Nat × AV) → List (Nat × AV)
  | [] => []
  | (k, v) :: r => (k, v.clip D) :: frClip D r
def stGet : List (Nat × Row) → Nat → Option Row
  | [], _ => none
  | (k', v) :: r, k => if k' = k then some v else stGet r k
def stDel : List (Nat × Row) → Nat → List (Nat × Row)
  | [], _ => []
  | (k', v) :: r, k => if k' = k then stDel r k else (k', v) :: stDel r k
def stClip (D : Nat → Bool) : List (Nat × Row) → List (Nat × Row)
  | [] => []
  | (k, v) :: r => (k, v.clip D) :: stClip D r

theorem frGet_mem : ∀ {l : List (Nat × AV)} {k : Nat}, frGet l k = .un ∨ (k, frGet l k) ∈ l
  | [], k => .inl rfl
  | (k', v) :: r, k => by
    simp only [frGet]
    by_cases h : k' = k
    · subst h; simp
    · rw [if_neg h]
      rcases frGet_mem (l := r) (k := k) with h1 | h1
      · exact .inl h1
      · exact .inr (List.mem_cons_of_mem _ h1)
theorem frDel_mem : ∀ {l : List (Nat × AV)} {k : Nat} {e : Nat × AV}, e ∈ frDel l k → e ∈ l ∧ e.1 ≠ k
  | [], _, _, h => by simp [frDel] at h
  | (k', v) :: r, k, e, h => by
    simp only [frDel] at h
    by_cases hk : k' = k
    · rw [if_pos hk] at h; exact ⟨List.mem_cons_of_mem _ (frDel_mem h).1, (frDel_mem h).2⟩
    · rw [if_neg hk] at h
      rcases List.mem_cons.1 h with rfl | h
      · exact ⟨by simp, hk⟩
      · exact ⟨List.mem_cons_of_mem _ (frDel_mem h).1, (frDel_mem h).2⟩
theorem frClip_mem {D : Nat → Bool} : ∀ {l : List (Nat × AV)} {k : Nat} {v : AV}, (k, v) ∈ frClip D l → ∃ u, (k, u) ∈ l ∧ v = u.clip D
  | [], _, _, h => by simp [frClip] at h
  | (k', u) :: r, k, v, h => by
    simp only [frClip] at h
    rcases List.mem_cons.1 h with h | h
    · injection h with h1 h2; subst h1; subst h2; exact ⟨u, by simp, rfl⟩
    · obtain ⟨u', h1, h2⟩ := frClip_mem h; exact ⟨u', List.mem_cons_of_mem _ h1, h2⟩
theorem stGet_mem : ∀ {l : List (Nat × Row)} {k : Nat} {v : Row}, stGet l k = some v → (k, v) ∈ l
  | [], _, _, h => by simp [stGet] at h
  | (k', u) :: r, k, v, h => by
    simp only [stGet] at h
    by_cases hk : k' = k
    · rw [if_pos hk] at h; subst hk; injection h with h; subst h; simp
    · rw [if_neg hk] at h; exact List.mem_cons_of_mem _ (stGet_mem h)
theorem stDel_mem : ∀ {l : List (Nat × Row)} {k : Nat} {e : Nat × Row}, e ∈ stDel l k → e ∈ l ∧ e.1 ≠ k
  | [], _, _, h => by simp [stDel] at h
  | (k', v) :: r, k, e, h => by
    simp only [stDel] at h
    by_cases hk : k' = k
    · rw [if_pos hk] at h; exact ⟨List.mem_cons_of_mem _ (stDel_mem h).1, (stDel_mem h).2⟩
    · rw [if_neg hk] at h
      rcases List.mem_cons.1 h with rfl | h
      · exact ⟨by simp, hk⟩
      · exact ⟨List.mem_cons_of_mem _ (stDel_mem h).1, (stDel_mem h).2⟩
theorem stClip_mem {D : Nat → Bool} : ∀ {l : List (Nat × Row)} {k : Nat} {v : Row}, (k, v) ∈ stClip D l → ∃ u, (k, u) ∈ l ∧ v = u.clip D
  | [], _, _, h => by simp [stClip] at h
  | (k', u) :: r, k, v, h => by
    simp only [stClip] at h
    rcases List.mem_cons.1 h with h | h
    · injection h with h1 h2; subst h1; subst h2; exact ⟨u, by simp, rfl⟩
    · obtain ⟨u', h1, h2⟩ := stClip_mem h; exact ⟨u', List.mem_cons_of_mem _ h1, h2⟩
theorem stClip_keys {D : Nat → Bool} : ∀ (l : List (Nat × Row)), (stClip D l).map (·.1) = l.map (·.1)
  | [] => rfl
  | (k, v) :: r => by simp only [stClip, List.map_cons, stClip_keys r]
theorem stDel_keys : ∀ {l : List (Nat × Row)} {k : Nat}, (l.map (·.1)).Nodup → ((stDel l k).map (·.1)).Nodup
  | [], _, _ => by simp [stDel]
  | (k', v) :: r, k, h => by
    simp only [List.map_cons, List.nodup_cons] at h
    simp only [stDel]
    by_cases hk : k' = k
    · rw [if_pos hk]; exact stDel_keys h.2
    · rw [if_neg hk]
      simp only [List.map_cons, List.nodup_cons]
      refine ⟨fun hm => h.1 ?_, stDel_keys h.2⟩
      obtain ⟨e, h1, h2⟩ := List.mem_map.1 hm
      exact List.mem_map.2 ⟨e, (stDel_mem h1).1, h2⟩

/-- L: the blocks that were lent; ρ0: where the rows lay at the entry -/
structure Env where
  P : Program
  w0 : World
  F0 : Nat → Prop
  n : Nat
  L : Nat → Prop
  ρ0 : Nat → Loc

/-- .. and no draw is undone -/
structure Below (B : Nat) (w w' : World) : Prop where
  os : w'.os = w.os
  tape : w'.tape = w.tape
  output : w'.output = w.output
  size : w.heap.size ≤ w'.heap.size
  block : ∀ k, k < B → w'.heap[k]? = w.heap[k]?
  drawn : w.drawn ≤ w'.drawn
theorem Below.toGo {B : Nat} {w w' : World} (h : Below B w w') : Go.RowKit.Below B w w' := ⟨h.os, h.tape, h.output, h.size, h.block⟩
theorem Below.refl (B : Nat) (w : World) : Below B w w := ⟨rfl, rfl, rfl, Nat.le_refl _, fun _ _ => rfl, Nat.le_refl _⟩
theorem Below.drew {B : Nat} {a w : World} (h : Below B a w) : Below B a w.drew := ⟨h.os, h.tape, h.output, h.size, h.block, Nat.le_succ_of_le h.drawn⟩
theorem Below.alloc {B : Nat} {a w : World} (h : Below B a w) (hB : B ≤ w.heap.size) (o : Obj) : Below B a (w.alloc o) :=
  ⟨h.os, h.tape, h.output, (h.toGo.alloc hB o).size, (h.toGo.alloc hB o).block, h.drawn⟩
/-- nothing that was there has turned, but in blocks of L -/
structure BelowL (L : Nat → Prop) (w w' : World) : Prop where
  os : w'.os = w.os
  tape : w'.tape = w.tape
  output : w'.output = w.output
  size : w.heap.size ≤ w'.heap.size
  block : ∀ k, k < w.heap.size → ¬ L k → w'.heap[k]? = w.heap[k]?
  drawn : w.drawn ≤ w'.drawn
theorem BelowL.refl (L : Nat → Prop) (w : World) : BelowL L w w := ⟨rfl, rfl, rfl, Nat.le_refl _, fun _ _ _ => rfl, Nat.le_refl _⟩
theorem BelowL.trans {L : Nat → Prop} {a b c : World} (h : BelowL L a b) (k : Below b.heap.size b c) : BelowL L a c :=
  ⟨k.os.trans h.os, k.tape.trans h.tape, k.output.trans h.output, Nat.le_trans h.size k.size, fun i hi hl => (k.block i (Nat.lt_of_lt_of_le hi h.size)).trans (h.block i hi hl), Nat.le_trans h.drawn k.drawn⟩

def Own (st : List (Nat × Row)) (ρ : Nat → Loc) (b : Nat) : Prop := ∃ r row, (r, row) ∈ st ∧ (ρ r).ok = true ∧ (ρ r).blk = b

/-- the listed tables lie where the program's variables of these names are, in what is read -/
def tabList : List (String × IntKind × List Int) := [("math/bits.deBruijn64tab", .u8, Lib.deBruijn64tab.map fun n : Nat => (n : Int)), ("internal/strconv.uint64pow10", .u64, Lib.pow10Tab)]
def Tabs (P : Program) (w : World) (F : Nat → Prop) : Prop := ∀ t ∈ tabList, ∀ g, P.globalNamed t.1 = some g → ¬ F g ∧ g < w.heap.size ∧ Lib.TabIs P w t.1 t.2.1 t.2.2
theorem Tabs.on {P : Program} {w w' : World} {F F' : Nat → Prop} (h : Tabs P w F) (hw : ∀ b, b < w.heap.size → ¬ F b → w'.heap[b]? = w.heap[b]?) (hs : w.heap.size ≤ w'.heap.size) (hF : ∀ b, b < w.heap.size → F' b → F b) : Tabs P w' F' := fun t ht g hg => by
  obtain ⟨h1, h2, h3⟩ := h t ht g hg
  refine ⟨fun h4 => h1 (hF g h2 h4), Nat.lt_of_lt_of_le h2 hs, ?_⟩
  unfold Lib.TabIs World.var? at *
  rw [hg] at h3 ⊢
  simp only [Option.bind_some] at h3 ⊢
  rw [hw g h2 h1]; exact h3
theorem Tabs.sub {P : Program} {w : World} {F F' : Nat → Prop} (h : Tabs P w F) (hF : ∀ b, F' b → F b) : Tabs P w F' := h.on (fun _ _ _ => rfl) (Nat.le_refl _) (fun b _ => hF b)
/-- the environment is that of this program -/
class EP (e : Env) (P : outParam Program) : Prop where
  eq : e.P = P

structure SRel (e : Env) (σ : St) (x : Cx) (a : Act) : Prop where
  defers : a.defers = []
  size : a.tmps.size = e.n
  fr : ∀ k v, (k, v) ∈ σ.fr → ∃ cv, a.tmps[k]? = some cv ∧ VRel x v cv
  st : ∀ r row, (r, row) ∈ σ.st → row.rel x (x.ρ r)
  keys : (σ.st.map (·.1)).Nodup
  inj : ∀ r row r' row', (r, row) ∈ σ.st → (r', row') ∈ σ.st → r ≠ r' → (x.ρ r).ok = true → (x.ρ r').ok = true → (x.ρ r).blk ≠ (x.ρ r').blk
  F : ∀ b, x.F b ↔ e.F0 b ∨ Own σ.st x.ρ b
  own : ∀ r row, (r, row) ∈ σ.st → (x.ρ r).ok = true → e.w0.heap.size ≤ (x.ρ r).blk ∨ e.L (x.ρ r).blk
  f0 : ∀ b, e.F0 b → b < e.w0.heap.size ∧ ¬ e.L b
  below : BelowL e.L e.w0 x.w
  fix : ∀ r, 200000 ≤ r → x.ρ r = e.ρ0 r
  small : e.n ≤ 100000
  tabs : Tabs e.P e.w0 (fun b => e.F0 b ∨ e.L b)


theorem SRel.now {P : Program} {e : Env} [EP e P] {σ : St} {x : Cx} {a : Act} (h : SRel e σ x a) : Tabs P x.w x.F := by
  have := EP.eq (e := e) (P := P)
  subst this
  refine h.tabs.on (fun b hb hn => h.below.block b hb fun hl => hn (.inr hl)) h.below.size fun b hb hF => ?_
  rcases (h.F b).1 hF with h1 | ⟨r, row, h1, h2, h3⟩
  · exact .inl h1
  · rcases h.own r row h1 h2 with h4 | h4
    · omega
    · exact .inr (h3 ▸ h4)

/-- a slot's value -/
theorem SRel.get {e : Env} {σ : St} {x : Cx} {a : Act} (h : SRel e σ x a) (k : Nat) : VRel x (frGet σ.fr k) (a.tmps.getD k undef) := by
  rcases frGet_mem (l := σ.fr) (k := k) with h1 | h1
  · rw [h1]; simp only [VRel]
  · obtain ⟨cv, h2, h3⟩ := h.fr _ _ h1
    simp only [Array.getD_eq_getD_getElem?, h2, Option.getD_some]
    exact h3

theorem SRel.put {e : Env} {σ : St} {x : Cx} {a : Act} (h : SRel e σ x a) {d : Nat} (hd : d < e.n) {v : AV} {cv : Value} (hv : VRel x v cv) :
    SRel e ⟨frPut σ.fr d v, σ.st⟩ x (a.put (some d) cv) :=
  { h with
    size := by simp only [Act.put, Array.size_setIfInBounds]; exact h.size
    fr := fun k u hm => by
      simp only [frPut] at hm
      rcases List.mem_cons.1 hm with hm | hm
      · injection hm with h1 h2
        subst h1; subst h2
        exact ⟨cv, by simp [Act.put, h.size, hd], hv⟩
      · obtain ⟨h1, h2⟩ := frDel_mem hm
        obtain ⟨cu, h3, h4⟩ := h.fr k u h1
        exact ⟨cu, by simp only [Act.put]; rw [Array.getElem?_setIfInBounds_ne (fun e => h2 e.symm)]; exact h3, h4⟩ }

theorem Arr.kept {w w' : World} {b n : Nat} (h : Arr w b n) (hb : w'.heap[b]? = w.heap[b]?) : Arr w' b n := by
  obtain ⟨cs, t, h1, h2⟩ := h
  exact ⟨cs, t, hb.trans h1, h2⟩

theorem Arr1.kept {w w' : World} {b n : Nat} (h : Arr1 w b n) (hb : w'.heap[b]? = w.heap[b]?) : Arr1 w' b n := by
  obtain ⟨cs, t, h1, h2, h3⟩ := h
  exact ⟨cs, t, hb.trans h1, h2, h3⟩



theorem Row.clip_rel {x y : Cx} (k : Kept x y) {D : Nat → Bool} (hρ : ∀ r, D r = false → y.ρ r = x.ρ r) {l : Loc} (hb : l.ok = true → y.w.heap[l.blk]? = x.w.heap[l.blk]?) :
    ∀ {row : Row}, row.rel x l → (row.clip D).rel y l
  | .box cells, h => by
    simp only [Row.rel, Row.clip, clips_length] at h ⊢
    exact ⟨h.1, h.2.1.kept (hb h.1), ACells.clip k hρ cells (fun hc => cell_kept hc (hb h.1)) h.2.2⟩
  | .sl _ xs, h => by
    simp only [Row.rel, Row.clip] at h ⊢
    exact h.imp id fun ⟨h0, h1, h2, h3, h4, h5⟩ => ⟨h0, h1, h2, h3, h4.kept (hb h1), PElems.kept k xs (fun hc => cell_kept hc (hb h1)) h5⟩
  | .slf _ xs, h => by
    simp only [Row.rel, Row.clip] at h ⊢
    exact h.imp id fun ⟨h0, h1, h2, h3, h4, h5⟩ => ⟨h0, h1, h2, h3, h4.kept (hb h1), PElems.kept k xs (fun hc => cell_kept hc (hb h1)) h5⟩
  | .bxs cells, h => by
    simp only [Row.rel, Row.clip, clips_length] at h ⊢
    exact ⟨h.1, h.2.1, h.2.2.1.kept (hb h.1), ACells.clip k hρ cells (fun hc => cell_kept hc (hb h.1)) h.2.2.2⟩
  | .mp es, h => by
    simp only [Row.rel, Row.clip] at h ⊢
    obtain ⟨h0, ents, clock, h1, h2, h3, h4, h5⟩ := h
    exact ⟨h0, ents, clock, (hb h0).trans h1, h2, fun i p e hp he => ⟨PRel.kept k _ (h3 i p e hp he).1, PRel.kept k _ (h3 i p e hp he).2⟩, h4, h5⟩
  | .sit s pos, h => by
    simp only [Row.rel, Row.clip] at h ⊢
    exact ⟨h.1, (hb h.1).trans h.2⟩
  | .mit m n rem cur, h => by
    simp only [Row.clip]
    simp only [Row.rel] at h
    obtain ⟨h0, seen, h1, h2⟩ := h
    cases hD : D m
    · simp only [Bool.false_eq_true, if_false, Row.rel]
      refine ⟨h0, seen, ?_, h2⟩
      rw [hρ m hD]
      exact (hb h0).trans h1
    · simp only [if_true, Row.rel]
      exact ⟨h0, Nat.lt_of_lt_of_le (Array.getElem?_eq_some_iff.1 h1).1 k.size⟩
  | .mpd es clock, h => by
    simp only [Row.rel, Row.clip] at h ⊢
    obtain ⟨h0, ents, h1, h2, h3, h4⟩ := h
    exact ⟨h0, ents, (hb h0).trans h1, h2, fun i p e hp he => ⟨⟨PRel.kept k _ (h3 i p e hp he).1.1, PRel.kept k _ (h3 i p e hp he).1.2⟩, (h3 i p e hp he).2⟩, h4⟩
  | .mid m n bs rem cur, h => by
    simp only [Row.clip]
    simp only [Row.rel] at h
    obtain ⟨h0, seen, h1, h2⟩ := h
    cases hD : D m
    · simp only [Bool.false_eq_true, if_false, Row.rel]
      refine ⟨h0, seen, ?_, h2⟩
      rw [hρ m hD]
      exact (hb h0).trans h1
    · simp only [if_true, Row.rel]
      exact ⟨h0, Nat.lt_of_lt_of_le (Array.getElem?_eq_some_iff.1 h1).1 k.size⟩
  | .gone, h => by
    simp only [Row.rel, Row.clip] at h ⊢
    exact ⟨h.1, Nat.lt_of_lt_of_le h.2 k.size⟩

theorem SRel.blk_lt {e : Env} {σ : St} {x : Cx} {a : Act} (h : SRel e σ x a) : ∀ q row, (q, row) ∈ σ.st → (x.ρ q).ok = true → (x.ρ q).blk < x.w.heap.size := fun q row hm hok => by
    have h1 := h.st q row hm
    have arr : ∀ b n, Arr x.w b n → b < x.w.heap.size := fun b n ⟨cs, t, hh, _⟩ => (Array.getElem?_eq_some_iff.1 hh).1
    have arr1 : ∀ b n, Arr1 x.w b n → b < x.w.heap.size := fun b n h => arr b n h.arr
    cases row with
    | box cells => exact arr _ _ h1.2.1
    | sl _ xs =>
      rcases h1 with h1 | h1
      · rw [h1.1] at hok; cases hok
      · exact arr1 _ _ h1.2.2.2.2.1
    | slf _ xs =>
      rcases h1 with h1 | h1
      · rw [h1.1] at hok; cases hok
      · exact arr1 _ _ h1.2.2.2.2.1
    | bxs cells => exact arr _ _ h1.2.2.1
    | mp es => obtain ⟨_, ents, clock, hh, _⟩ := h1; exact (Array.getElem?_eq_some_iff.1 hh).1
    | sit s pos => exact (Array.getElem?_eq_some_iff.1 h1.2).1
    | mit m n rem cur => obtain ⟨_, seen, hh, _⟩ := h1; exact (Array.getElem?_eq_some_iff.1 hh).1
    | mpd es clock => obtain ⟨_, ents, hh, _⟩ := h1; exact (Array.getElem?_eq_some_iff.1 hh).1
    | mid m n bs rem cur => obtain ⟨_, seen, hh, _⟩ := h1; exact (Array.getElem?_eq_some_iff.1 hh).1
    | gone => exact h1.2

/-- THE GREAT STEP: row r is laid anew (or made); nothing but its own block has turned; what led into a row of D is forgotten. -/
theorem SRel.turn {e : Env} {σ : St} {x y : Cx} {a : Act} (h : SRel e σ x a) (r : Nat) (row' : Row) (D : Nat → Bool)
    (hsize : x.w.heap.size ≤ y.w.heap.size) (hos : y.w.os = x.w.os) (htape : y.w.tape = x.w.tape) (hout : y.w.output = x.w.output) (hdr : x.w.drawn ≤ y.w.drawn)
    (hheap : ∀ b, b < x.w.heap.size → (∀ row, (r, row) ∈ σ.st → (x.ρ r).ok = true → b ≠ (x.ρ r).blk) → y.w.heap[b]? = x.w.heap[b]?)
    (hD : ∀ q, D q = false → y.ρ q = x.ρ q) (hDr : ∀ q, D q = true → q = r) (hne : ∀ q, q ≠ r → y.ρ q = x.ρ q)
    (hblk : (y.ρ r).ok = true → x.w.heap.size ≤ (y.ρ r).blk ∨ ((∃ row, (r, row) ∈ σ.st) ∧ (x.ρ r).ok = true ∧ (y.ρ r).blk = (x.ρ r).blk))
    (hF : ∀ b, y.F b ↔ e.F0 b ∨ Own ((r, row') :: stClip D (stDel σ.st r)) y.ρ b)
    (hrow : row'.rel y (y.ρ r)) (hr : r < 200000 ∨ y.ρ r = x.ρ r) : SRel e ⟨frClip D σ.fr, (r, row') :: stClip D (stDel σ.st r)⟩ y a := by
  have old : ∀ q row, (q, row) ∈ stClip D (stDel σ.st r) → q ≠ r ∧ ∃ u, (q, u) ∈ σ.st ∧ row = u.clip D := fun q row hm => by
    obtain ⟨u, h1, h2⟩ := stClip_mem hm
    obtain ⟨h3, h4⟩ := stDel_mem h1
    exact ⟨h4, u, h3, h2⟩
  have hlt := h.blk_lt
  have kept : Kept x y := {
    size := hsize
    heap := fun b hb hl => hheap b hl fun row hm hok hbe => hb ((h.F b).2 (.inr ⟨r, row, hm, hok, hbe.symm⟩))
    F := fun b hl hy => by
      rcases (hF b).1 hy with h0 | ⟨q, row, hm, hok, hb⟩
      · exact (h.F b).2 (.inl h0)
      · rcases List.mem_cons.1 hm with hm | hm
        · injection hm with h1 _
          subst h1
          rcases hblk hok with h2 | ⟨⟨row1, h2⟩, h3, h4⟩
          · omega
          · exact (h.F b).2 (.inr ⟨q, row1, h2, h3, by rw [← h4]; exact hb⟩)
        · obtain ⟨hq, u, hu, _⟩ := old q row hm
          rw [hne q hq] at hok hb
          exact (h.F b).2 (.inr ⟨q, u, hu, hok, hb⟩) }
  exact {
    defers := h.defers
    size := h.size
    fr := fun k v hm => by
      obtain ⟨u, hu, rfl⟩ := frClip_mem hm
      obtain ⟨cv, h1, h2⟩ := h.fr k u hu
      exact ⟨cv, h1, VRel.clip kept hD u h2⟩
    st := fun q row hm => by
      rcases List.mem_cons.1 hm with hm | hm
      · injection hm with h1 h2; subst h1; subst h2; exact hrow
      · obtain ⟨hq, u, hu, rfl⟩ := old q row hm
        rw [hne q hq]
        refine Row.clip_rel kept hD (fun hok => hheap _ (hlt q u hu hok) fun row1 hm1 hok1 => ?_) (h.st q u hu)
        exact h.inj q u r row1 hu hm1 hq hok hok1
    keys := by
      simp only [List.map_cons, List.nodup_cons, stClip_keys]
      refine ⟨fun hm => ?_, stDel_keys h.keys⟩
      obtain ⟨q, h1, h2⟩ := List.mem_map.1 hm
      exact (stDel_mem h1).2 h2
    inj := fun q row q' row' hm hm' hqq hok hok' => by
      have key : ∀ q u, (q, u) ∈ σ.st → q ≠ r → (x.ρ q).ok = true → (y.ρ r).ok = true → (x.ρ q).blk ≠ (y.ρ r).blk := fun q u hu hq hok hokr => by
        rcases hblk hokr with h2 | ⟨⟨row1, h2⟩, h3, h4⟩
        · have := hlt q u hu hok; omega
        · rw [h4]; exact h.inj q u r row1 hu h2 hq hok h3
      rcases List.mem_cons.1 hm with hm | hm <;> rcases List.mem_cons.1 hm' with hm' | hm'
      · injection hm with h1 _; injection hm' with h2 _; exact absurd (h1.trans h2.symm) hqq
      · injection hm with h1 _
        subst h1
        obtain ⟨hq, u, hu, _⟩ := old _ _ hm'
        rw [hne q' hq] at hok' ⊢
        exact fun hb => key q' u hu hq hok' hok hb.symm
      · injection hm' with h1 _
        subst h1
        obtain ⟨hq, u, hu, _⟩ := old _ _ hm
        rw [hne q hq] at hok ⊢
        exact key q u hu hq hok hok'
      · obtain ⟨hq, u, hu, _⟩ := old _ _ hm
        obtain ⟨hq', u', hu', _⟩ := old _ _ hm'
        rw [hne q hq] at hok ⊢
        rw [hne q' hq'] at hok' ⊢
        exact h.inj q u q' u' hu hu' hqq hok hok'
    F := hF
    own := fun q row hm hok => by
      rcases List.mem_cons.1 hm with hm | hm
      · injection hm with h1 _
        subst h1
        rcases hblk hok with h2 | ⟨⟨row1, h2⟩, h3, h4⟩
        · exact .inl (Nat.le_trans h.below.size h2)
        · rw [h4]; exact h.own q row1 h2 h3
      · obtain ⟨hq, u, hu, _⟩ := old _ _ hm
        rw [hne q hq] at hok ⊢
        exact h.own q u hu hok
    f0 := h.f0
    below := ⟨hos.trans h.below.os, htape.trans h.below.tape, hout.trans h.below.output, Nat.le_trans h.below.size hsize, fun k hk hl => (hheap k (Nat.lt_of_lt_of_le hk h.below.size) fun row hm hok hbe => by
      rcases h.own r row hm hok with h1 | h1
      · omega
      · exact hl (hbe ▸ h1)).trans (h.below.block k hk hl), Nat.le_trans h.below.drawn hdr⟩
    fix := fun q hq => by
      rcases hr with hr | hr
      · rw [hne q (by omega)]; exact h.fix q hq
      · by_cases hqr : q = r
        · subst hqr; rw [hr]; exact h.fix q hq
        · rw [hne q hqr]; exact h.fix q hq
    small := h.small
    tabs := h.tabs }

/-- the world has grown, nothing that was there has turned -/
structure Agr (w w' : World) : Prop where
  size : w.heap.size ≤ w'.heap.size
  heap : ∀ b, b < w.heap.size → w'.heap[b]? = w.heap[b]?
theorem Agr.refl (w : World) : Agr w w := ⟨Nat.le_refl _, fun _ _ => rfl⟩
theorem Agr.trans {a b c : World} (h : Agr a b) (k : Agr b c) : Agr a c :=
  ⟨Nat.le_trans h.size k.size, fun i hi => (k.heap i (Nat.lt_of_lt_of_le hi h.size)).trans (h.heap i hi)⟩
theorem below_agr {w w' : World} (h : Below w.heap.size w w') : Agr w w' := ⟨h.size, h.block⟩
theorem Agr.cell {w w' : World} (h : Agr w w') {b o : Nat} {v : Value} (hc : w.cell? ⟨b, o, none⟩ = some v) : w'.cell? ⟨b, o, none⟩ = some v :=
  cell_kept hc (h.heap b (lt_of_cell hc))

theorem SRel.ext {e : Env} {σ : St} {x : Cx} {a : Act} (h : SRel e σ x a) {w' : World} (hb : Below x.w.heap.size x.w w') : SRel e σ ⟨w', x.F, x.ρ⟩ a := by
  have kept : Kept x ⟨w', x.F, x.ρ⟩ := ⟨hb.size, fun b _ hl => hb.block b hl, fun b _ hy => hy⟩
  exact { h with
    fr := fun k v hm => let ⟨cv, h1, h2⟩ := h.fr k v hm; ⟨cv, h1, h2.kept kept rfl⟩
    st := fun r row hm => by
      have := Row.clip_rel (y := ⟨w', x.F, x.ρ⟩) kept (D := fun _ => false) (fun _ _ => rfl) (fun hok => hb.block _ (h.blk_lt r row hm hok)) (h.st r row hm)
      cases row <;> simp only [Row.clip, clips_none, Bool.false_eq_true, if_false] at this <;> exact this
    below := h.below.trans hb
    fix := h.fix }
end Go.Vc

namespace Go.Vc
open Go.RowKit

/-! ## The IR -/
inductive Opd where
  | t (n : Nat)
  | c (v : Value)
  | nil
  | f (g : FuncId)
  deriving Inhabited

/-- what a map's keys are: ints, strings, structs (or arrays) of plain cells -/
inductive Kk where
  | int
  | str
  | st (ks : List Nat)
  deriving Inhabited

inductive Q where
  | mv (x : Opd)
  | bin (op : BinOp) (x y : Opd)
  | beq (neg : Bool) (x y : Opd)
  | not (x : Opd)
  | pick (c a b : Opd)
  | ext (x : Opd) (i : Nat)
  | fa (x : Opd) (off : Nat)
  | ia (x i : Opd) (s : Nat)
  | iaa (x i : Opd) (len s : Nat)
  | ld (x : Opd) (n : Nat) (agg : Bool)
  | ldc (x : Opd) (n : Nat) (agg : Bool)
  | fld (x : Opd) (off n : Nat) (agg : Bool)
  | len (x : Opd) (str : Bool)
  | slc (x : Opd) (lo hi : Option Opd) (s : Nat) (str : Bool)
  | conv (k : IntKind) (x : Opd)
  | mk (zero : List AV) (parts : List (Nat × Nat × Opd))
  | clo (f : FuncId) (caps : List Opd)
  | idx (x i : Opd)
  | idxa (x i : Opd) (len : Nat)
  | seq (neg : Bool) (ks : List Nat) (x y : Opd)
  | mm (mx : Bool) (x y : Opd)
  | mget (m k : Opd) (comma : Bool) (kk : Kk) (zero : AV)
  | mlen (m : Opd)
  | ent (it : Opd)
  | chk (x lo hi mx : Opd)
  | slcx (x : Opd) (lo hi : Option Opd) (s : Nat)
  | shf (left : Bool) (x y : Opd)
  | sob (x : Opd)
  deriving Inhabited

inductive IOp where
  | q (x : Q)
  | alloc (zero : List AV)
  | box (x : Opd)
  | lits (xs : List Opd) (s : Nat)
  | own (xs : List Opd) (s : Nat)
  | mks (len cap : Opd) (s bytes : Nat) (z : PV)
  | mkx (len cap : Opd) (bytes : Nat) (z : AV)
  | st (p x : Opd) (n : Nat)
  | app (b src : Opd) (s bytes : Nat)
  | appn (b src : Opd) (s bytes : Nat)
  | appx (b src : Opd) (bytes : Nat)
  | appi (b src : Opd) (s bytes : Nat)
  | clr (x : Opd) (s : Nat) (z : PV)
  | capr (x : Opd)
  | appz (b x : Opd) (s bytes : Nat) (z : PV)
  | cpy (b x : Opd) (s : Nat)
  | call (f : Opd) (args : List Opd)
  | isnil (x : Opd) (neg : Bool)
  | mkm
  | mkmr (x : Opd)
  | mset (m k v : Opd) (kk : Kk)
  | mdel (m k : Opd) (kk : Kk)
  | calls (f : Opd) (args : List Opd)
  | rngm (m : Opd)
  | rngs (x : Opd)
  | nxtm (it : Opd)
  | nxts (it : Opd)
  deriving Inhabited

structure Inst where
  d : Option Nat
  g : Option (Nat × Bool)
  op : IOp
  deriving Inhabited

/-- an operation of a group: what it leans on, and the rows that it may look at -/
structure GI where
  d : Nat
  g : Option (Nat × Bool)
  op : IOp
  U : List Nat
  R : List Nat
  deriving Inhabited

inductive MC where
  | skip
  | bad
  | grp (N : List Nat) (l : List GI) (keep rows : List Nat)
  | reg (l : List Inst) (vs : List (Nat × Nat × Nat)) (keep rows : List Nat)
  | seq (a b : MC)
  | cond (c : Opd) (a b : MC)
  | block (id : Nat) (b : MC)
  | loop (b : MC)
  | exit (id : Nat)
  | ret
  deriving Inhabited

/-! ## Evaluation -/
def Opd.ev (σ : St) : Opd → AV
  | .t n => frGet σ.fr n
  | .c v => .pv (.sc v)
  | .nil => .e0
  | .f g => .fn g []
/-- the value where its guard held -/
def AV.un1 : AV → AV
  | .whn _ v => v
  | v => v
def AV.cd : AV → Bool
  | .whn c _ => c
  | _ => true
def Opd.sv (σ : St) (x : Opd) : AV := (x.ev σ).un1
def Opd.cd (σ : St) (x : Opd) : Bool := (x.ev σ).cd
def cds (σ : St) : List Opd → Bool
  | [] => true
  | x :: xs => x.cd σ && cds σ xs

/-- all of them pure -/
def allPv : List AV → Option (List PV)
  | [] => some []
  | .pv p :: r => match allPv r with
    | some ps => some (p :: ps)
    | none => none
  | .e0 :: r => match allPv r with
    | some ps => some (.lst [] :: ps)
    | none => none
  | _ :: _ => none
def mkAgg (cs : List AV) : AV := match allPv cs with
  | some ps => .pv (.agg ps)
  | none => .agg cs
def AV.isE0 : AV → Bool
  | .e0 => true
  | _ => false
/-- a struct that is built: a nil slice in it is still known as one -/
def mkAggN (cs : List AV) : AV := if cs.any AV.isE0 = true then .agg cs else mkAgg cs
def mkLit (cs : List AV) : AV := match allPv cs with
  | some [] => .e0
  | some ps => .pv (.lst ps)
  | none => .lit cs
def AV.cells : AV → List AV
  | .agg cs => cs
  | .pv p => p.cells.map .pv
  | v => [v]
/-- the part of an element from cell 'off' on -/
def pcut (p : PV) (off n : Nat) (agg : Bool) : PV := if agg then .agg ((p.cells.drop off).take n) else p.cells.getD off default
def ccut (cs : List PV) (off n : Nat) (agg : Bool) : PV := if agg then .agg ((cs.drop off).take n) else cs.getD off default
def acut (cs : List AV) (off n : Nat) (agg : Bool) : AV := if agg then mkAgg ((cs.drop off).take n) else cs.getD off .un

def fits : IntKind → Int → Prop
  | .i8, n => -128 ≤ n ∧ n ≤ 127
  | .i16, n => -32768 ≤ n ∧ n ≤ 32767
  | .i32, n => -2147483648 ≤ n ∧ n ≤ 2147483647
  | .i64, n => -9223372036854775808 ≤ n ∧ n ≤ 9223372036854775807
  | .u8, n => 0 ≤ n ∧ n ≤ 255
  | .u16, n => 0 ≤ n ∧ n ≤ 65535
  | .u32, n => 0 ≤ n ∧ n ≤ 4294967295
  | .u64, n => 0 ≤ n ∧ n ≤ 18446744073709551615

def vint (k : IntKind) (n : Int) : AV := .pv (.sc (.int k n))
def vbool (b : Bool) : AV := .pv (.sc (.bool b))

/-- & | ^ &^ -/
def bitI (op : BinOp) (k : IntKind) (x y : Int) : Int := match op with
  | .and => k.wrap (BitVec.ofInt k.bits x &&& BitVec.ofInt k.bits y).toNat
  | .or => k.wrap (BitVec.ofInt k.bits x ||| BitVec.ofInt k.bits y).toNat
  | .xor => k.wrap (BitVec.ofInt k.bits x ^^^ BitVec.ofInt k.bits y).toNat
  | _ => k.wrap (BitVec.ofInt k.bits x &&& ~~~(BitVec.ofInt k.bits y)).toNat
def binV (op : BinOp) : AV → AV → AV
  | .pv (.sc (.int k a)), .pv (.sc (.int _ b)) => match op with
    | .add => vint k (a + b)
    | .sub => vint k (a - b)
    | .mul => vint k (a * b)
    | .quo => vint k (a.tdiv b)
    | .rem => vint k (a.tmod b)
    | .eql => vbool (decide (a = b))
    | .neq => vbool (!decide (a = b))
    | .lss => vbool (decide (a < b))
    | .leq => vbool (decide (a ≤ b))
    | .gtr => vbool (decide (b < a))
    | .geq => vbool (decide (b ≤ a))
    | .and => vint k (bitI .and k a b)
    | .or => vint k (bitI .or k a b)
    | .xor => vint k (bitI .xor k a b)
    | .andNot => vint k (bitI .andNot k a b)
    | _ => .un
  | .pv (.sc (.string s)), .pv (.sc (.string t)) => match op with
    | .eql => vbool (decide (s = t))
    | .neq => vbool (!decide (s = t))
    | .lss => vbool (Op.bytesLess s.toList t.toList)
    | .geq => vbool (!Op.bytesLess s.toList t.toList)
    | .leq => vbool (Op.bytesLess s.toList t.toList || decide (s = t))
    | .gtr => vbool (!(Op.bytesLess s.toList t.toList || decide (s = t)))
    | .add => .pv (.sc (.string (s ++ t)))
    | _ => .un
  | _, _ => .un
def binP (op : BinOp) : AV → AV → Prop
  | .pv (.sc (.int k a)), .pv (.sc (.int k' b)) => k = k' ∧ match op with
    | .add => fits k (a + b)
    | .sub => fits k (a - b)
    | .mul => fits k (a * b)
    | .quo => b ≠ 0 ∧ fits k (a.tdiv b)
    | .rem => b ≠ 0
    | .eql | .neq | .lss | .leq | .gtr | .geq | .and | .or | .xor | .andNot => True
    | _ => False
  | .pv (.sc (.string s)), .pv (.sc (.string t)) => match op with
    | .eql | .neq | .lss | .geq | .leq | .gtr => True
    | .add => s.size + t.size ≤ 9223372036854775807
    | _ => False
  | _, _ => False

def beqV (neg : Bool) : AV → AV → AV
  | .pv (.sc (.bool a)), .pv (.sc (.bool b)) => vbool (if neg then !(a == b) else a == b)
  | _, _ => .un
def beqP : AV → AV → Prop
  | .pv (.sc (.bool _)), .pv (.sc (.bool _)) => True
  | _, _ => False

def extV (i : Nat) : AV → AV
  | .tup vs => vs.getD i .un
  | .pv (.tup ps) => .pv (ps.getD i default)
  | _ => .un
def extP (i : Nat) : AV → Prop
  | .tup vs => i < vs.length
  | .pv (.tup ps) => i < ps.length
  | _ => False

def faV (off : Nat) : AV → AV
  | .ptr r o => .ptr r (o + off)
  | .rptr r i o => .rptr r i (o + off)
  | .eptr xs i o => .eptr xs i (o + off)
  | .cptr cs o => .cptr cs (o + off)
  | .pv (.pt cs) => .cptr cs off
  | _ => .un
def faP : AV → Prop
  | .ptr _ _ | .rptr _ _ _ | .eptr _ _ _ | .cptr _ _ | .pv (.pt _) => True
  | _ => False

def iaV : AV → AV → AV
  | .pv (.lst xs), .pv (.sc (.int _ n)) => .eptr xs n.toNat 0
  | .row r off _, .pv (.sc (.int _ n)) => .rptr r (off + n.toNat) 0
  | _, _ => .un
def rowS : Option Row → Option Nat
  | some (.sl s _) => some s
  | some (.slf s _) => some s
  | some (.bxs _) => some 1
  | _ => none
def iaP (σ : St) (s : Nat) : AV → AV → Prop
  | .pv (.lst xs), .pv (.sc (.int _ n)) => 0 ≤ n ∧ n < xs.length ∧ WfL s xs
  | .row r _ m, .pv (.sc (.int _ n)) => 0 ≤ n ∧ n < m ∧ rowS (stGet σ.st r) = some s
  | _, _ => False

def iaaV (s : Nat) : AV → AV → AV
  | .ptr r o, .pv (.sc (.int _ n)) => .ptr r (o + n.toNat * s)
  | .rptr r i o, .pv (.sc (.int _ n)) => .rptr r i (o + n.toNat * s)
  | .eptr xs i o, .pv (.sc (.int _ n)) => .eptr xs i (o + n.toNat * s)
  | .cptr cs o, .pv (.sc (.int _ n)) => .cptr cs (o + n.toNat * s)
  | .pv (.pt cs), .pv (.sc (.int _ n)) => .cptr cs (n.toNat * s)
  | _, _ => .un
def iaaP (len : Nat) : AV → AV → Prop
  | p, .pv (.sc (.int _ n)) => faP p ∧ 0 ≤ n ∧ n < len
  | _, _ => False

def ldV (σ : St) (n : Nat) (agg : Bool) : AV → AV
  | .ptr r o => match stGet σ.st r with
    | some (.box cs) => acut cs o n agg
    | _ => .un
  | .rptr r i o => match stGet σ.st r with
    | some (.sl _ xs) => .pv (pcut (xs.getD i default) o n agg)
    | some (.bxs cs) => acut cs (i + o) n agg
    | _ => .un
  | .eptr xs i o => .pv (pcut (xs.getD i default) o n agg)
  | .cptr cs o => .pv (ccut cs o n agg)
  | .pv (.pt cs) => .pv (ccut cs 0 n agg)
  | _ => .un
def ldP (σ : St) (n : Nat) (agg : Bool) : AV → Prop
  | .ptr r o => match stGet σ.st r with
    | some (.box cs) => o + n ≤ cs.length ∧ (agg = true ∨ n = 1)
    | _ => False
  | .rptr r i o => match stGet σ.st r with
    | some (.sl _ xs) => i < xs.length ∧ o + n ≤ (xs.getD i default).cells.length ∧ (agg = true ∨ n = 1)
    | some (.bxs cs) => o = 0 ∧ n = 1 ∧ agg = false ∧ i < cs.length
    | _ => False
  | .eptr xs i o => o + n ≤ (xs.getD i default).cells.length ∧ (agg = true ∨ n = 1)
  | .cptr cs o => o + n ≤ cs.length ∧ (agg = true ∨ n = 1)
  | .pv (.pt cs) => n ≤ cs.length ∧ (agg = true ∨ n = 1)
  | _ => False

/-- a load of what is frozen -/
def ldcV (n : Nat) (agg : Bool) : AV → AV
  | .cptr cs o => .pv (ccut cs o n agg)
  | .pv (.pt cs) => .pv (ccut cs 0 n agg)
  | _ => .un
def ldcP (n : Nat) (agg : Bool) : AV → Prop
  | .cptr cs o => o + n ≤ cs.length ∧ (agg = true ∨ n = 1)
  | .pv (.pt cs) => n ≤ cs.length ∧ (agg = true ∨ n = 1)
  | _ => False
def fldV (off n : Nat) (agg : Bool) : AV → AV
  | .pv (.agg cs) => .pv (ccut cs off n agg)
  | .agg cs => acut cs off n agg
  | _ => .un
def fldP (off n : Nat) (agg : Bool) : AV → Prop
  | .pv (.agg cs) => off + n ≤ cs.length ∧ (agg = true ∨ n = 1)
  | .agg cs => off + n ≤ cs.length ∧ (agg = true ∨ n = 1)
  | _ => False

def lenV : AV → AV
  | .pv (.lst xs) => vint .i64 (xs.length : Nat)
  | .pv (.sc (.string s)) => vint .i64 (s.size : Nat)
  | .row _ _ n => vint .i64 (n : Nat)
  | .lit xs => vint .i64 (xs.length : Nat)
  | .e0 => vint .i64 0
  | _ => .un
def lenP (str : Bool) : AV → Prop
  | .pv (.sc (.string _)) => str = true
  | .pv (.lst _) | .row _ _ _ | .lit _ | .e0 => str = false
  | _ => False

def bnd : AV → Int
  | .pv (.sc (.int _ n)) => n
  | _ => 0
def isInt : AV → Prop
  | .pv (.sc (.int _ _)) => True
  | _ => False
def loOf (σ : St) : Option Opd → Int
  | none => 0
  | some x => bnd (x.sv σ)
def hiOf (σ : St) (d : Nat) : Option Opd → Int
  | none => d
  | some x => bnd (x.sv σ)
def bndP (σ : St) : Option Opd → Prop
  | none => True
  | some x => isInt (x.sv σ)
def slcV (lo hi : Int) : AV → AV
  | .pv (.lst xs) => .pv (.lst ((xs.take hi.toNat).drop lo.toNat))
  | .pv (.sc (.string s)) => .pv (.sc (.string (s.extract lo.toNat hi.toNat)))
  | .row r off _ => .row r (off + lo.toNat) (hi.toNat - lo.toNat)
  | .e0 => .e0
  | _ => .un
def sizeOfV : AV → Nat
  | .pv (.lst xs) => xs.length
  | .pv (.sc (.string s)) => s.size
  | .row _ _ n => n
  | _ => 0
def slcP (σ : St) (s : Nat) (str : Bool) (lo hi : Int) : AV → Prop
  | .pv (.lst xs) => str = false ∧ 0 ≤ lo ∧ lo ≤ hi ∧ hi ≤ xs.length ∧ WfL s xs
  | .pv (.sc (.string t)) => str = true ∧ 0 ≤ lo ∧ lo ≤ hi ∧ hi ≤ t.size
  | .row r _ n => str = false ∧ 0 ≤ lo ∧ lo ≤ hi ∧ hi ≤ n ∧ rowS (stGet σ.st r) = some s
  | .e0 => str = false ∧ lo = 0 ∧ hi = 0
  | _ => False

def convV (k : IntKind) : AV → AV
  | .pv (.sc (.int _ n)) => vint k n
  | _ => .un
def convP (k : IntKind) : AV → Prop
  | .pv (.sc (.int _ n)) => fits k n
  | _ => False

/-- a struct's cells with the parts laid over -/
def lay (cs : List AV) (off : Nat) : List AV → List AV
  | [] => cs
  | v :: vs => lay (cs.set off v) (off + 1) vs
def mkV (σ : St) : List (Nat × Nat × Opd) → List AV → List AV
  | [], cs => cs
  | (off, _, x) :: r, cs => mkV σ r (lay cs off (x.sv σ).cells)
/-- its cells are known -/
def okc : AV → Bool
  | .un | .whn _ _ | .pv (.sc (.agg _)) => false
  | _ => true
def mkP (σ : St) (m : Nat) : List (Nat × Nat × Opd) → Prop
  | [] => True
  | (off, n, x) :: r => okc (x.sv σ) = true ∧ (x.sv σ).cells.length = n ∧ off + n ≤ m ∧ mkP σ m r

def idxV : AV → AV → AV
  | .pv (.sc (.string s)), .pv (.sc (.int _ n)) => vint .u8 ((s.data.getD n.toNat 0).toNat : Nat)
  | _, _ => .un
def idxP : AV → AV → Prop
  | .pv (.sc (.string s)), .pv (.sc (.int _ n)) => 0 ≤ n ∧ n < s.size
  | _, _ => False

/-- an element of an array that is a value -/
def idxaV : AV → AV → AV
  | .pv (.agg ps), .pv (.sc (.int _ n)) => .pv (ps.getD n.toNat default)
  | _, _ => .un
def isSc : PV → Prop
  | .sc _ => True
  | _ => False
def idxaP (len : Nat) : AV → AV → Prop
  | .pv (.agg ps), .pv (.sc (.int _ n)) => (0 ≤ n ∧ n < (len : Int) ∧ ps.length = len) ∧ isSc (ps.getD n.toNat default)
  | _, _ => False

def notV : AV → AV
  | .pv (.sc (.bool b)) => vbool (!b)
  | _ => .un
def isBool : AV → Prop
  | .pv (.sc (.bool _)) => True
  | _ => False
def boolOf : AV → Bool
  | .pv (.sc (.bool b)) => b
  | _ => false
def pickV : AV → AV → AV → AV
  | .pv (.sc (.bool c)), a, b => vbool (bif c then boolOf a else boolOf b)
  | _, _, _ => .un

def evs (σ : St) : List Opd → List AV
  | [] => []
  | x :: xs => x.sv σ :: evs σ xs
def allPvs (vs : List AV) (f : FuncId) : AV := match allPv vs with
  | some ps => .pv (.fn f ps)
  | none => .fn f vs

/-- two structs of plain cells -/
def sameV : List PV → List PV → Bool
  | [], [] => true
  | .sc (.int _ a) :: ps, .sc (.int _ b) :: qs => decide (a = b) && sameV ps qs
  | .sc (.string a) :: ps, .sc (.string b) :: qs => decide (a = b) && sameV ps qs
  | .sc (.bool a) :: ps, .sc (.bool b) :: qs => decide (a = b) && sameV ps qs
  | _, _ => false
def sameP : List Nat → List PV → List PV → Prop
  | [], [], [] => True
  | 0 :: ks, .sc (.int k _) :: ps, .sc (.int k' _) :: qs => k = k' ∧ sameP ks ps qs
  | 1 :: ks, .sc (.string _) :: ps, .sc (.string _) :: qs => sameP ks ps qs
  | 2 :: ks, .sc (.bool _) :: ps, .sc (.bool _) :: qs => sameP ks ps qs
  | _, _, _ => False
def seqV (neg : Bool) : AV → AV → AV
  | .pv (.agg ps), .pv (.agg qs) => vbool (if neg then !sameV ps qs else sameV ps qs)
  | _, _ => .un
def seqP (ks : List Nat) : AV → AV → Prop
  | .pv (.agg ps), .pv (.agg qs) => sameP ks ps qs
  | _, _ => False
/-- maps: keys are ints of one kind, or strings, or structs of such -/
def keyIs : Kk → PV → Prop
  | .int, .sc (.int _ _) => True
  | .str, .sc (.string _) => True
  | .st ks, .agg ps => sameP ks ps ps
  | _, _ => False
def keyLike : Kk → PV → PV → Prop
  | .int, .sc (.int k _), .sc (.int k' _) => k = k'
  | .str, .sc (.string _), .sc (.string _) => True
  | .st ks, .agg ps, .agg qs => sameP ks ps qs
  | _, _, _ => False
def keyEq : PV → PV → Bool
  | .sc (.int _ a), .sc (.int _ b) => decide (a = b)
  | .sc (.string a), .sc (.string b) => decide (a = b)
  | .agg ps, .agg qs => sameV ps qs
  | _, _ => false
def keysLike (kk : Kk) (k : PV) : List (PV × PV) → Prop
  | [] => True
  | e :: es => keyLike kk k e.1 ∧ keysLike kk k es
def lkp (k : PV) : List (PV × PV) → Option PV
  | [] => none
  | e :: es => if keyEq k e.1 then some e.2 else lkp k es
def mput (k v : PV) : List (PV × PV) → List (PV × PV)
  | [] => [(k, v)]
  | e :: es => if keyEq k e.1 then (k, v) :: es else e :: mput k v es
/-- the map's entries alone -/
def esD (es : List (Nat × PV × PV)) : List (PV × PV) := es.map (·.2)
def mputD (k v : PV) (clock : Nat) : List (Nat × PV × PV) → List (Nat × PV × PV)
  | [] => [(clock, k, v)]
  | e :: es => if keyEq k e.2.1 then (e.1, k, v) :: es else e :: mputD k v clock es
def mdelD (k : PV) : List (Nat × PV × PV) → List (Nat × PV × PV)
  | [] => []
  | e :: es => if keyEq k e.2.1 then es else e :: mdelD k es
def clkD (k : PV) (es : List (Nat × PV × PV)) (clock : Nat) : Nat := match lkp k (esD es) with
  | some _ => clock
  | none => clock + 1
def mgetV (σ : St) (comma : Bool) (zero : AV) : AV → AV → AV
  | .mp r, .pv k => match stGet σ.st r with
    | some (.mp es) => (match lkp k es with
      | some v => if comma then .tup [.pv v, vbool true] else .pv v
      | none => if comma then .tup [zero, vbool false] else zero)
    | some (.mpd es _) => (match lkp k (esD es) with
      | some v => if comma then .tup [.pv v, vbool true] else .pv v
      | none => if comma then .tup [zero, vbool false] else zero)
    | _ => .un
  | _, _ => .un
def mgetP (σ : St) (kk : Kk) : AV → AV → Prop
  | .mp r, .pv k => match stGet σ.st r with
    | some (.mp es) => keyIs kk k ∧ keysLike kk k es
    | some (.mpd es _) => keyIs kk k ∧ keysLike kk k (esD es)
    | _ => False
  | _, _ => False
def mlenV (σ : St) : AV → AV
  | .mp r => match stGet σ.st r with
    | some (.mp es) => vint .i64 (es.length : Nat)
    | some (.mpd es _) => vint .i64 (es.length : Nat)
    | _ => .un
  | _ => .un
def mlenP (σ : St) : AV → Prop
  | .mp r => match stGet σ.st r with
    | some (.mp _) => True
    | some (.mpd _ _) => True
    | _ => False
  | _ => False
def entV (σ : St) : AV → AV
  | .it r => match stGet σ.st r with
    | some (.mit m _ _ (some i)) => (match stGet σ.st m with
      | some (.mp es) => .tup [.pv (es.getD i default).1, .pv (es.getD i default).2]
      | _ => .un)
    | some (.mid m _ _ _ (some i)) => (match stGet σ.st m with
      | some (.mpd es _) => .tup [.pv (es.getD i default).2.1, .pv (es.getD i default).2.2]
      | _ => .un)
    | _ => .un
  | _ => .un
def entP (σ : St) : AV → Prop
  | .it r => match stGet σ.st r with
    | some (.mit m n _ (some _)) => (match stGet σ.st m with
      | some (.mp es) => es.length = n
      | _ => False)
    | some (.mid m n bs _ (some _)) => (match stGet σ.st m with
      | some (.mpd es clock) => es.map (·.1) = bs ∧ clock = n
      | _ => False)
    | _ => False
  | _ => False
def mmV (mx : Bool) : AV → AV → AV
  | .pv (.sc (.int k a)), .pv (.sc (.int _ b)) => vint k (if mx then (if b > a then b else a) else (if b < a then b else a))
  | _, _ => .un
def mmP : AV → AV → Prop
  | .pv (.sc (.int _ _)), .pv (.sc (.int _ _)) => True
  | _, _ => False

/-- the bounds of a slice expression of three -/
def chkP : AV → AV → AV → AV → Prop
  | .row _ _ n, .pv (.sc (.int _ l)), .pv (.sc (.int _ h)), .pv (.sc (.int _ m)) => 0 ≤ l ∧ l ≤ h ∧ h ≤ m ∧ m ≤ n
  | .pv (.lst xs), .pv (.sc (.int _ l)), .pv (.sc (.int _ h)), .pv (.sc (.int _ m)) => 0 ≤ l ∧ l ≤ h ∧ h ≤ m ∧ m ≤ xs.length
  | _, _, _, _ => False

def shfV (left : Bool) : AV → AV → AV
  | .pv (.sc (.int k a)), .pv (.sc (.int _ b)) => vint k (if left then a * 2 ^ b.toNat else a.fdiv (2 ^ b.toNat))
  | _, _ => .un
def shfP (left : Bool) : AV → AV → Prop
  | .pv (.sc (.int k a)), .pv (.sc (.int _ b)) => 0 ≤ b ∧ b ≤ k.bits ∧ (left = true → fits k (a * 2 ^ b.toNat))
  | _, _ => False
/-- a slice of an own row, maybe beyond its own length -/
def slcxP (σ : St) (s : Nat) (lo hi : Int) : AV → Prop
  | .row r off _ => match stGet σ.st r with
    | some (.sl s' xs) => s' = s ∧ 0 ≤ lo ∧ lo ≤ hi ∧ off + hi ≤ xs.length
    | some (.slf s' xs) => s' = s ∧ 0 ≤ lo ∧ lo ≤ hi ∧ off + hi ≤ xs.length
    | _ => False
  | _ => False

/-- octets as a string -/
def intsOf : List PV → Option (List Int)
  | [] => some []
  | .sc (.int .u8 n) :: ps => match intsOf ps with
    | some ns => some (n :: ns)
    | none => none
  | _ :: _ => none
def strOf (ns : List Int) : ByteArray := ns.foldl (fun r n => r.push (UInt8.ofNat n.toNat)) ByteArray.empty
def strV : AV → AV
  | .pv (.lst ps) => match intsOf ps with
    | some ns => .pv (.sc (.string (strOf ns)))
    | none => .un
  | _ => .un
def strP : AV → Prop
  | .pv (.lst ps) => ∃ ns, intsOf ps = some ns
  | _ => False
/-- a row's own elements, as a value -/
def rowV (σ : St) : AV → AV
  | .row r off n => match stGet σ.st r with
    | some (.sl _ xs) => .pv (.lst ((xs.drop off).take n))
    | _ => .un
  | .e0 => .pv (.lst [])
  | v => v
def Q.val (σ : St) : Q → AV
  | .mv x => x.sv σ
  | .bin op x y => binV op (x.sv σ) (y.sv σ)
  | .beq neg x y => beqV neg (x.sv σ) (y.sv σ)
  | .not x => notV (x.sv σ)
  | .pick c a b => pickV (c.sv σ) (a.sv σ) (b.sv σ)
  | .ext x i => extV i (x.sv σ)
  | .fa x off => faV off (x.sv σ)
  | .ia x i _ => iaV (x.sv σ) (i.sv σ)
  | .iaa x i _ s => iaaV s (x.sv σ) (i.sv σ)
  | .ld x n agg => ldV σ n agg (x.sv σ)
  | .ldc x n agg => ldcV n agg (x.sv σ)
  | .fld x off n agg => fldV off n agg (x.sv σ)
  | .len x _ => lenV (x.sv σ)
  | .slc x lo hi _ _ => slcV (loOf σ lo) (hiOf σ (sizeOfV (x.sv σ)) hi) (x.sv σ)
  | .conv k x => convV k (x.sv σ)
  | .mk zero parts => mkAggN (mkV σ parts zero)
  | .clo f caps => allPvs (evs σ caps) f
  | .idx x i => idxV (x.sv σ) (i.sv σ)
  | .idxa x i _ => idxaV (x.sv σ) (i.sv σ)
  | .seq neg _ x y => seqV neg (x.sv σ) (y.sv σ)
  | .mm mx x y => mmV mx (x.sv σ) (y.sv σ)
  | .mget m k comma _ zero => mgetV σ comma zero (m.sv σ) (k.sv σ)
  | .mlen m => mlenV σ (m.sv σ)
  | .ent it => entV σ (it.sv σ)
  | .chk _ _ _ _ => .un
  | .shf left x y => shfV left (x.sv σ) (y.sv σ)
  | .sob x => strV (rowV σ (x.sv σ))
  | .slcx x lo hi _ => slcV (loOf σ lo) (hiOf σ (sizeOfV (x.sv σ)) hi) (x.sv σ)
def optL : Option Opd → List Opd
  | none => []
  | some x => [x]
/-- the operands' own guards -/
def Q.cd (σ : St) : Q → Bool
  | .mv x | .sob x | .not x | .ext x _ | .fa x _ | .ld x _ _ | .ldc x _ _ | .fld x _ _ _ | .len x _ | .conv _ x | .mlen x | .ent x => x.cd σ
  | .bin _ x y | .beq _ x y | .ia x y _ | .iaa x y _ _ | .idx x y | .idxa x y _ | .seq _ _ x y | .mm _ x y | .mget x y _ _ _ => x.cd σ && y.cd σ
  | .pick c a b => c.cd σ && (bif boolOf (c.sv σ) then a.cd σ else b.cd σ)
  | .slc x lo hi _ _ => cds σ (x :: optL lo ++ optL hi)
  | .mk _ parts => cds σ (parts.map (·.2.2))
  | .clo _ caps => cds σ caps
  | .chk x lo hi mx => cds σ [x, lo, hi, mx]
  | .shf _ x y => x.cd σ && y.cd σ
  | .slcx x lo hi _ => cds σ (x :: optL lo ++ optL hi)
def Q.pre (σ : St) (q : Q) : Prop := q.cd σ = true ∧ match q with
  | .mv _ => True
  | .bin op x y => binP op (x.sv σ) (y.sv σ)
  | .beq _ x y => beqP (x.sv σ) (y.sv σ)
  | .not x => isBool (x.sv σ)
  | .pick c a b => isBool (c.sv σ) ∧ (boolOf (c.sv σ) = true → isBool (a.sv σ)) ∧ (boolOf (c.sv σ) = false → isBool (b.sv σ))
  | .ext x i => extP i (x.sv σ)
  | .fa x _ => faP (x.sv σ)
  | .ia x i s => iaP σ s (x.sv σ) (i.sv σ)
  | .iaa x i m _ => iaaP m (x.sv σ) (i.sv σ)
  | .ld x n agg => ldP σ n agg (x.sv σ)
  | .ldc x n agg => ldcP n agg (x.sv σ)
  | .fld x off n agg => fldP off n agg (x.sv σ)
  | .len x str => lenP str (x.sv σ)
  | .slc x lo hi s str => bndP σ lo ∧ bndP σ hi ∧ slcP σ s str (loOf σ lo) (hiOf σ (sizeOfV (x.sv σ)) hi) (x.sv σ)
  | .conv k x => convP k (x.sv σ)
  | .mk zero parts => mkP σ zero.length parts
  | .clo _ _ => True
  | .idx x i => idxP (x.sv σ) (i.sv σ)
  | .idxa x i m => idxaP m (x.sv σ) (i.sv σ)
  | .seq _ ks x y => seqP ks (x.sv σ) (y.sv σ)
  | .mm _ x y => mmP (x.sv σ) (y.sv σ)
  | .mget m k _ kk _ => mgetP σ kk (m.sv σ) (k.sv σ)
  | .mlen m => mlenP σ (m.sv σ)
  | .ent it => entP σ (it.sv σ)
  | .chk x lo hi mx => chkP (x.sv σ) (lo.sv σ) (hi.sv σ) (mx.sv σ)
  | .shf left x y => shfP left (x.sv σ) (y.sv σ)
  | .sob x => strP (rowV σ (x.sv σ))
  | .slcx x lo hi s => bndP σ lo ∧ bndP σ hi ∧ slcxP σ s (loOf σ lo) (hiOf σ (sizeOfV (x.sv σ)) hi) (x.sv σ)
end Go.Vc

namespace Go.Vc
open Go.RowKit

def QOK (P : Program) (x : Cx) (o : Oper) (ev : Operand → Value) (v : AV) : Prop :=
  ∃ cv, VRel x v cv ∧ ∀ w', Agr x.w w' → (execOp ev o).run P w' = .ok (.value cv) w'

def Opd.of : Operand → Option Opd
  | .tmp k => some (.t k)
  | .const (.slice none 0 0) => some .nil
  | .const v => some (.c v)
  | .func g => some (.f g)
  | .global _ => none

theorem Opd.of_ev {e : Env} {σ : St} {x : Cx} {a : Act} (h : SRel e σ x a) {y : Operand} {z : Opd} (hz : Opd.of y = some z) : VRel x (z.ev σ) (a.eval y) := by
  cases y with
  | tmp k => simp only [Opd.of, Option.some.injEq] at hz; subst hz; exact h.get k
  | global g => simp [Opd.of] at hz
  | func f =>
    simp only [Opd.of, Option.some.injEq] at hz; subst hz
    simp only [Opd.ev, VRel, Act.eval]
    exact ⟨[], rfl, by simp only [VRels]⟩
  | const v =>
    by_cases hn : v = .slice none 0 0
    · subst hn
      simp only [Opd.of, Option.some.injEq] at hz; subst hz
      simp only [Opd.ev, VRel, Act.eval]; exact ⟨none, rfl⟩
    · have : Opd.of (.const v) = some (.c v) := by
        unfold Opd.of
        split <;> first | rfl | contradiction | (rename_i he; injection he with he; first | (exact absurd he hn) | (rw [he]))
      rw [this] at hz; injection hz with hz; subst hz
      simp only [Opd.ev, VRel, Act.eval, PRel]

theorem un1_rel {x : Cx} {v : AV} {cv : Value} (h : VRel x v cv) (hc : v.cd = true) : VRel x v.un1 cv := by
  cases v <;> first | exact h | skip
  simp only [AV.cd] at hc
  simp only [VRel] at h
  exact h.1 hc

theorem Opd.of_sv {e : Env} {σ : St} {x : Cx} {a : Act} (h : SRel e σ x a) {y : Operand} {z : Opd} (hz : Opd.of y = some z) (hc : z.cd σ = true) : VRel x (z.sv σ) (a.eval y) :=
  un1_rel (Opd.of_ev h hz) hc

theorem wrap_fits {k : IntKind} {n : Int} (h : fits k n) : k.wrap n = n := by
  cases k <;> simp only [fits] at h <;> simp [IntKind.wrap, IntKind.signed, IntKind.bits] <;> omega

theorem toList_eq (s t : ByteArray) : (s.toList == t.toList) = decide (s = t) := by
  rw [Bool.eq_iff_iff, ByteArray.toList_eq, ByteArray.toList_eq]
  simp only [beq_iff_eq, decide_eq_true_eq]
  constructor
  · intro h
    cases s; cases t
    simp only [ByteArray.mk.injEq]
    exact Array.toList_inj.1 h
  · intro h; rw [h]

theorem QOK.sc {P : Program} {x : Cx} {o : Oper} {ev : Operand → Value} {v : AV} {c : Value} (hv : v = .pv (.sc c)) (h : ∀ w', (execOp ev o).run P w' = .ok (.value c) w') : QOK P x o ev v :=
  ⟨c, by rw [hv]; simp only [VRel, PRel], fun w' _ => h w'⟩

section
variable {P : Program} {x : Cx} {o : Oper} {ev : Operand → Value}
theorem q_mv {y : Operand} (ho : o.op = .move y ∨ o.op = .assign y) {v : AV} (h : VRel x v (ev y)) : QOK P x o ev v := by
  refine ⟨_, h, fun w' _ => ?_⟩
  rcases ho with ho | ho <;> simp [execOp, ho]

theorem run_equal_bool (w : World) {t : TypeId} (a b : Bool) (hb : P.underlying t = some .bool) : (Op.equal t (.bool a) (.bool b)).run P w = .ok (a == b) w := by
  have h : ∀ d : Nat, (Op.equalIn (d + 1) t (.bool a) (.bool b)).run P w = .ok (a == b) w := fun d => by simp [Op.equalIn, run_underlying hb]
  exact h 9999

theorem q_bin {op : BinOp} {t t' : TypeId} {y z : Operand} (ho : o.op = .binOp op t y z t') {u v : AV} (hy : VRel x u (ev y)) (hz : VRel x v (ev z)) (hp : binP op u v) :
    QOK P x o ev (binV op u v) := by
  unfold binP at hp
  split at hp
  · rename_i k a k' b
    obtain ⟨rfl, hp⟩ := hp
    simp only [VRel, PRel] at hy hz
    cases op <;> simp only [] at hp
    case add => exact QOK.sc rfl fun w' => by simp [execOp, ho, hy, hz, eqGuard, binOp, Op.intArith, wrap_fits hp]
    case sub => exact QOK.sc rfl fun w' => by simp [execOp, ho, hy, hz, eqGuard, binOp, Op.intArith, wrap_fits hp]
    case mul => exact QOK.sc rfl fun w' => by simp [execOp, ho, hy, hz, eqGuard, binOp, Op.intArith, wrap_fits hp]
    case quo => exact QOK.sc rfl fun w' => by simp [execOp, ho, hy, hz, eqGuard, binOp, Op.intDiv, hp.1, wrap_fits hp.2]
    case rem => exact QOK.sc rfl fun w' => by simp [execOp, ho, hy, hz, eqGuard, binOp, Op.intDiv, hp]
    case and => exact QOK.sc rfl fun w' => by simp [execOp, ho, hy, hz, eqGuard, binOp, Op.intBits, bitI]
    case or => exact QOK.sc rfl fun w' => by simp [execOp, ho, hy, hz, eqGuard, binOp, Op.intBits, bitI]
    case xor => exact QOK.sc rfl fun w' => by simp [execOp, ho, hy, hz, eqGuard, binOp, Op.intBits, bitI]
    case andNot => exact QOK.sc rfl fun w' => by simp [execOp, ho, hy, hz, eqGuard, binOp, Op.intBits, bitI]
    all_goals exact QOK.sc rfl fun w' => by simp [execOp, ho, hy, hz, eqGuard, binOp, Op.intCmp]; try rfl
  · rename_i a b
    simp only [VRel, PRel] at hy hz
    cases op <;> simp only [] at hp
    case eql => exact QOK.sc rfl fun w' => by simp [execOp, ho, hy, hz, eqGuard, binOp, Op.stringOp, toList_eq]
    case neq => exact QOK.sc rfl fun w' => by simp [execOp, ho, hy, hz, eqGuard, binOp, Op.stringOp, toList_eq]
    case lss => exact QOK.sc rfl fun w' => by simp [execOp, ho, hy, hz, eqGuard, binOp, Op.stringOp]
    case geq => exact QOK.sc rfl fun w' => by simp [execOp, ho, hy, hz, eqGuard, binOp, Op.stringOp]
    case leq => exact QOK.sc rfl fun w' => by simp [execOp, ho, hy, hz, eqGuard, binOp, Op.stringOp, toList_eq]
    case gtr => exact QOK.sc rfl fun w' => by simp [execOp, ho, hy, hz, eqGuard, binOp, Op.stringOp, toList_eq]
    case add => exact QOK.sc rfl fun w' => by
                  have hle : ¬ (9223372036854775807 < (a.size : Int) + (b.size : Int)) := by omega
                  simp [execOp, ho, hy, hz, eqGuard, binOp, Op.stringOp, show IntKind.i64.max = 9223372036854775807 from rfl, hle]
  · exact hp.elim

theorem q_shf {left : Bool} {t t' : TypeId} {y z : Operand} (ho : o.op = .binOp (if left then .shl else .shr) t y z t') {u v : AV} (hy : VRel x u (ev y)) (hz : VRel x v (ev z)) (hp : shfP left u v) :
    QOK P x o ev (shfV left u v) := by
  unfold shfP at hp
  split at hp
  · rename_i k a k' b
    simp only [VRel, PRel] at hy hz
    obtain ⟨h0, h1, h2⟩ := hp
    have hn : ¬ b < 0 := by omega
    have hm : min b.toNat k.bits = b.toNat := by omega
    cases left
    · exact QOK.sc rfl fun w' => by simp [execOp, ho, hy, hz, eqGuard, binOp, Op.shift, hn, hm]
    · exact QOK.sc rfl fun w' => by simp [execOp, ho, hy, hz, eqGuard, binOp, Op.shift, hn, hm, wrap_fits (h2 rfl)]
  · exact hp.elim

theorem q_beq {neg : Bool} {t t' : TypeId} {y z : Operand} (ho : o.op = .binOp (if neg then .neq else .eql) t y z t') (ht : P.underlying t = some .bool) {u v : AV} (hy : VRel x u (ev y)) (hz : VRel x v (ev z)) (hp : beqP u v) :
    QOK P x o ev (beqV neg u v) := by
  unfold beqP at hp
  split at hp
  · rename_i a b
    simp only [VRel, PRel] at hy hz
    cases neg
    · exact QOK.sc rfl fun w' => by simp [execOp, ho, hy, hz, eqGuard, binOp, run_equal_bool _ a b ht]
    · exact QOK.sc rfl fun w' => by simp [execOp, ho, hy, hz, eqGuard, binOp, run_equal_bool _ a b ht]
  · exact hp.elim

theorem q_neg {t : TypeId} {y : Operand} (ho : o.op = .unOp .neg t y) {k : IntKind} {v : AV} (hy : VRel x v (ev y)) (hp : binP .sub (.pv (.sc (.int k 0))) v) : QOK P x o ev (binV .sub (.pv (.sc (.int k 0))) v) := by
  unfold binP at hp
  split at hp
  · rename_i k' n e1
    injection e1 with e1; injection e1 with e1; injection e1 with e1 e3
    subst e1; subst e3
    obtain ⟨rfl, hp⟩ := hp
    simp only [VRel, PRel] at hy
    simp only at hp
    have hw : k.wrap (-n) = -n := by have := wrap_fits hp; rw [Int.zero_sub] at this; exact this
    exact QOK.sc rfl fun w' => by simp [execOp, ho, hy, Op.unary, Op.intArith, hw]
  · rename_i e1; injection e1 with e1; injection e1 with e1; cases e1
  · exact hp.elim
theorem q_not {t : TypeId} {y : Operand} (ho : o.op = .unOp .not t y) {v : AV} (hy : VRel x v (ev y)) (hp : isBool v) : QOK P x o ev (notV v) := by
  unfold isBool at hp
  split at hp
  · simp only [VRel, PRel] at hy
    exact QOK.sc rfl fun w' => by simp [execOp, ho, hy, Op.unary]
  · exact hp.elim

theorem isBool_eq {v : AV} (h : isBool v) : v = .pv (.sc (.bool (boolOf v))) := by
  unfold isBool at h
  split at h
  · rfl
  · exact h.elim
theorem q_pick {c y z : Operand} (ho : o.op = .pick c y z) {vc vy vz : AV} (hc : VRel x vc (ev c)) (hb : isBool vc) (hby : boolOf vc = true → isBool vy) (hbz : boolOf vc = false → isBool vz)
    (hy : boolOf vc = true → VRel x vy (ev y)) (hz : boolOf vc = false → VRel x vz (ev z)) : QOK P x o ev (pickV vc vy vz) := by
  unfold isBool at hb
  split at hb
  · rename_i b
    simp only [VRel, PRel] at hc
    cases b
    · have := hz rfl
      rw [isBool_eq (hbz rfl)] at this
      simp only [VRel, PRel] at this
      exact QOK.sc rfl fun w' => by simp [execOp, ho, hc, this, asBool]
    · have := hy rfl
      rw [isBool_eq (hby rfl)] at this
      simp only [VRel, PRel] at this
      exact QOK.sc rfl fun w' => by simp [execOp, ho, hc, this, asBool]
  · exact hb.elim

theorem VRels.at_ : ∀ {vs : List AV} {cs : List Value}, VRels x vs cs → ∀ {i : Nat}, i < vs.length → ∃ c, cs[i]? = some c ∧ VRel x (vs.getD i .un) c
  | [], _, _, i, hi => by simp at hi
  | v :: vs, cs, h, i, hi => by
    simp only [VRels] at h
    obtain ⟨c, r, rfl, h1, h2⟩ := h
    cases i with
    | zero => exact ⟨c, rfl, h1⟩
    | succ i =>
      obtain ⟨c', h3, h4⟩ := VRels.at_ h2 (i := i) (by simpa using hi)
      exact ⟨c', by simpa using h3, by simpa using h4⟩
theorem PRels.at_ {w : World} {F : Nat → Prop} : ∀ {vs : List PV} {cs : List Value}, PRels w F vs cs → ∀ {i : Nat}, i < vs.length → ∃ c, cs[i]? = some c ∧ PRel w F (vs.getD i default) c
  | [], _, _, i, hi => by simp at hi
  | v :: vs, cs, h, i, hi => by
    simp only [PRels] at h
    obtain ⟨c, r, rfl, h1, h2⟩ := h
    cases i with
    | zero => exact ⟨c, rfl, h1⟩
    | succ i =>
      obtain ⟨c', h3, h4⟩ := PRels.at_ h2 (i := i) (by simpa using hi)
      exact ⟨c', by simpa using h3, by simpa using h4⟩

theorem q_ext {y : Operand} {i : Nat} (ho : o.op = .extract y i) {v : AV} (hy : VRel x v (ev y)) (hp : extP i v) : QOK P x o ev (extV i v) := by
  unfold extP at hp
  split at hp
  · simp only [VRel] at hy
    obtain ⟨cs, e, h⟩ := hy
    obtain ⟨c, h1, h2⟩ := h.at_ hp
    exact ⟨c, h2, fun w' _ => by simp [execOp, ho, e, Instr.extract, h1]⟩
  · simp only [VRel, PRel] at hy
    obtain ⟨cs, e, h⟩ := hy
    obtain ⟨c, h1, h2⟩ := h.at_ hp
    exact ⟨c, by simpa only [extV, VRel] using h2, fun w' _ => by simp [execOp, ho, e, Instr.extract, h1]⟩
  · exact hp.elim

theorem addr_add (b o n : Nat) : (⟨b, o, none⟩ : Addr).add n = ⟨b, o + n, none⟩ := by
  unfold Addr.add
  split
  · rename_i h; subst h; rfl
  · rfl

theorem run_fieldAt {w : World} {s : TypeId} {fields : Array Field} {f : Nat} {fl : Field} (hs : P.underlying s = some (.struct fields)) (hf : fields[f]? = some fl)
    {i : TypeInfo} (hi : P.info? fl.type = some i) (hz : i.size ≠ 0) (b o' : Nat) :
    (Instr.fieldAt s (.pointer (some ⟨b, o', none⟩)) f).run P w = .ok (.pointer (some ⟨b, o' + fl.offset, none⟩)) w := by
  simp [Instr.fieldAt, run_underlying hs, hf, Instr.sureAddr, fieldPlace, sizeOf, typeInfo, hi, hz, addr_add]

/-- a pointer as the abstract value says -/
theorem faP_addr {v : AV} {cv : Value} (h : VRel x v cv) (hp : faP v) : ∃ b o', cv = .pointer (some ⟨b, o', none⟩) ∧ ∀ off, VRel x (faV off v) (.pointer (some ⟨b, o' + off, none⟩)) := by
  unfold faP at hp
  split at hp
  · simp only [VRel] at h
    exact ⟨_, _, h, fun off => by simp only [faV, VRel, Nat.add_assoc]⟩
  · simp only [VRel] at h
    exact ⟨_, _, h, fun off => by simp only [faV, VRel, Nat.add_assoc]⟩
  · simp only [VRel] at h
    obtain ⟨b, o', e, h1, h2, h3, h4⟩ := h
    exact ⟨_, _, e, fun off => by simp only [faV, VRel]; exact ⟨b, o', by simp only [Nat.add_assoc], h1, h2, h3, h4⟩⟩
  · simp only [VRel] at h
    obtain ⟨b, o', e, h1, h2, h3⟩ := h
    exact ⟨_, _, e, fun off => by simp only [faV, VRel]; exact ⟨b, o', by simp only [Nat.add_assoc], h1, h2, h3⟩⟩
  · simp only [VRel, PRel] at h
    obtain ⟨b, o', e, h1, h2, h3⟩ := h
    exact ⟨_, _, e, fun off => by simp only [faV, VRel]; exact ⟨b, o', rfl, h1, h2, h3⟩⟩
  · exact hp.elim

theorem q_fa {s : TypeId} {y : Operand} {f : Nat} (ho : o.op = .fieldAddr s y f) {fields : Array Field} {fl : Field} (hs : P.underlying s = some (.struct fields)) (hf : fields[f]? = some fl)
    {i : TypeInfo} (hi : P.info? fl.type = some i) (hz : i.size ≠ 0) {v : AV} (hy : VRel x v (ev y)) (hp : faP v) : QOK P x o ev (faV fl.offset v) := by
  obtain ⟨b, o', e, h⟩ := faP_addr hy hp
  exact ⟨_, h fl.offset, fun w' _ => by simp [execOp, ho, e, run_fieldAt hs hf hi hz]⟩

theorem sum_const : ∀ {xs : List PV} {s : Nat}, (∀ p ∈ xs, p.cells.length = s) → ∀ i, i ≤ xs.length → ((xs.take i).map (·.cells.length)).sum = i * s
  | xs, s, h, 0, _ => by simp
  | [], s, h, i + 1, hi => by simp at hi
  | p :: xs, s, h, i + 1, hi => by
    simp only [List.take_succ_cons, List.map_cons, List.sum_cons, h p (by simp)]
    rw [sum_const (fun q hq => h q (List.mem_cons_of_mem _ hq)) i (by simpa using hi)]
    rw [Nat.succ_mul]; omega

theorem run_indexAt_slice {w : World} {t et : TypeId} {i : TypeInfo} (ht : P.underlying t = some (.slice et)) (hi : P.info? et = some i) (b o' len cap : Nat) (k : IntKind) (n : Int) (h0 : 0 ≤ n) (h1 : n < len) :
    (Instr.indexAt t (.slice (some ⟨b, o', none⟩) len cap) (.int k n)).run P w = .ok (.pointer (some ⟨b, o' + n.toNat * i.size, none⟩)) w := by
  simp [Instr.indexAt, run_underlying ht, asIntOf, h0, h1, sizeOf, typeInfo, hi, addr_add]

theorem run_indexAt_array {w : World} {t et : TypeId} {len : Nat} {i : TypeInfo} (ht : P.underlying t = some (.array len et)) (hi : P.info? et = some i) (b o' : Nat) (k : IntKind) (n : Int) (h0 : 0 ≤ n) (h1 : n < len) :
    (Instr.indexAt t (.pointer (some ⟨b, o', none⟩)) (.int k n)).run P w = .ok (.pointer (some ⟨b, o' + n.toNat * i.size, none⟩)) w := by
  simp [Instr.indexAt, run_underlying ht, asIntOf, h0, h1, sizeOf, typeInfo, hi, addr_add, Instr.sureAddr]

theorem q_ia {e : Env} {σ : St} {a : Act} (hS : SRel e σ x a) {t et : TypeId} {y z : Operand} (ho : o.op = .indexAddr t y z) {i : TypeInfo} (ht : P.underlying t = some (.slice et)) (hi : P.info? et = some i)
    {u v : AV} (hy : VRel x u (ev y)) (hz : VRel x v (ev z)) (hp : iaP σ i.size u v) : QOK P x o ev (iaV u v) := by
  unfold iaP at hp
  split at hp
  · rename_i xs k n
    simp only [VRel, PRel] at hy hz
    obtain ⟨h0, h1, h2⟩ := hp
    obtain ⟨ad, m, c, e1, e2, e3, e4⟩ := hy
    obtain ⟨b, o', rfl, h5, h6, h7⟩ := e4 (by omega)
    refine ⟨.pointer (some ⟨b, o' + n.toNat * i.size, none⟩), ?_, fun w' _ => ?_⟩
    · simp only [iaV, VRel]
      exact ⟨b, o', by rw [sum_const (fun p hp => (h2 p hp).1) _ (by omega)]; simp, h5, h6, h7, by omega⟩
    · simp only [execOp, ho, e1, hz]
      rw [e2]
      simp [run_indexAt_slice ht hi b o' _ _ k n h0 h1]
  · rename_i r off m k n
    obtain ⟨h0, h1, h2⟩ := hp
    simp only [VRel, PRel] at hy hz
    have hs : (x.ρ r).ok = true → (x.ρ r).s = i.size := fun hok => by
      unfold rowS at h2
      split at h2
      · rename_i s xs hrow
        injection h2 with h2; subst h2
        have := hS.st _ _ (stGet_mem hrow)
        simp only [Row.rel] at this
        rcases this with ⟨h3, _⟩ | h3
        · rw [h3] at hok; cases hok
        · exact h3.1
      · rename_i s xs hrow
        injection h2 with h2; subst h2
        have := hS.st _ _ (stGet_mem hrow)
        simp only [Row.rel] at this
        rcases this with ⟨h3, _⟩ | h3
        · rw [h3] at hok; cases hok
        · exact h3.1
      · rename_i cells hrow
        injection h2 with h2
        have := hS.st _ _ (stGet_mem hrow)
        simp only [Row.rel] at this
        rw [← h2]; exact this.2.1.1
      · cases h2
    rcases hy with ⟨h3, _⟩ | ⟨c, hok, e1, h3, h4, _⟩
    · omega
    · refine ⟨.pointer (some ⟨(x.ρ r).blk, (x.ρ r).base + off * (x.ρ r).s + n.toNat * i.size, none⟩), ?_, fun w' _ => ?_⟩
      · simp only [iaV, VRel, hs hok, Nat.add_mul, Nat.add_assoc, Nat.add_zero]
      · simp only [execOp, ho, e1, hz]
        simp [run_indexAt_slice ht hi _ _ _ _ k n h0 h1]
  · exact hp.elim

theorem q_iaa {t et : TypeId} {len : Nat} {y z : Operand} (ho : o.op = .indexAddr t y z) {i : TypeInfo} (ht : P.underlying t = some (.array len et)) (hi : P.info? et = some i)
    {u v : AV} (hy : VRel x u (ev y)) (hz : VRel x v (ev z)) (hp : iaaP len u v) : QOK P x o ev (iaaV i.size u v) := by
  unfold iaaP at hp
  split at hp
  · rename_i k n
    obtain ⟨h1, h0, h2⟩ := hp
    obtain ⟨b, o', e, h⟩ := faP_addr hy h1
    simp only [VRel, PRel] at hz
    have hv : iaaV i.size u (.pv (.sc (.int k n))) = faV (n.toNat * i.size) u := by
      unfold faP at h1
      split at h1 <;> first | exact h1.elim | simp [iaaV, faV]
    rw [hv]
    refine ⟨_, h _, fun w' _ => ?_⟩
    simp [execOp, ho, e, hz, run_indexAt_array ht hi b o' k n h0 h2]
  · exact hp.elim

end
end Go.Vc

namespace Go.Vc
open Go.RowKit
section
variable {P : Program} {x : Cx} {o : Oper} {ev : Operand → Value}

theorem q_len {y : Operand} {ts : Array TypeId} (ho : o.op = .call { callee := .builtin .len, args := #[y], argTypes := ts }) {t0 : TypeId} (ht0 : ts[0]? = some t0)
    {v : AV} {str : Bool} (hy : VRel x v (ev y)) (hp : lenP str v) (hs : str = true → P.underlying t0 = some .string) (hs' : str = false → ∃ et, P.underlying t0 = some (.slice et)) :
    QOK P x o ev (lenV v) := by
  unfold lenP at hp
  split at hp
  · have ht := hs hp
    simp only [VRel, PRel] at hy
    exact QOK.sc rfl fun w' => by simp [execOp, ho, resolve, invoke, builtin, Builtin.len_, ht0, run_underlying ht, hy, goInt]
  · obtain ⟨et, ht⟩ := hs' hp
    simp only [VRel, PRel] at hy
    obtain ⟨a, n, c, e1, e2, _⟩ := hy
    exact QOK.sc rfl fun w' => by simp [execOp, ho, resolve, invoke, builtin, Builtin.len_, ht0, run_underlying ht, e1, e2, goInt]
  · obtain ⟨et, ht⟩ := hs' hp
    simp only [VRel] at hy
    rcases hy with ⟨e0, _, a, e1⟩ | ⟨c, _, e1, _⟩
    · exact QOK.sc rfl fun w' => by simp [execOp, ho, resolve, invoke, builtin, Builtin.len_, ht0, run_underlying ht, e1, goInt, e0]
    · exact QOK.sc rfl fun w' => by simp [execOp, ho, resolve, invoke, builtin, Builtin.len_, ht0, run_underlying ht, e1, goInt]
  · obtain ⟨et, ht⟩ := hs' hp
    simp only [VRel] at hy
    obtain ⟨a, n, c, e1, e2, _⟩ := hy
    exact QOK.sc rfl fun w' => by simp [execOp, ho, resolve, invoke, builtin, Builtin.len_, ht0, run_underlying ht, e1, e2, goInt]
  · obtain ⟨et, ht⟩ := hs' hp
    simp only [VRel] at hy
    obtain ⟨a, e1⟩ := hy
    exact QOK.sc rfl fun w' => by simp [execOp, ho, resolve, invoke, builtin, Builtin.len_, ht0, run_underlying ht, e1, goInt]
  · exact hp.elim

/-! ### loads -/
theorem run_loadCellsFrom {w : World} (b o' : Nat) : ∀ (vs : List Value) (i : Nat) (acc : Array Value), (∀ j c, vs[j]? = some c → w.cell? ⟨b, o' + i + j, none⟩ = some c) →
    (loadCellsFrom ⟨b, o', none⟩ i vs.length acc).run P w = .ok (acc ++ vs.toArray) w
  | [], i, acc, _ => by simp [loadCellsFrom]
  | c :: vs, i, acc, h => by
    have h0 := h 0 c rfl
    have ih := run_loadCellsFrom b o' vs (i + 1) (acc.push c) fun j c' hj => by
      have := h (j + 1) c' (by simpa using hj)
      rw [← this]; congr 2; omega
    simp only [List.length_cons, loadCellsFrom]
    have h1 : (load ((⟨b, o', none⟩ : Addr).add i)).run P w = .ok c w := by
      rw [addr_add]
      simp only [Nat.add_zero] at h0
      simp [load, Sem.run, h0]
    simp only [Sem.run_bind, h1, Result.andThen_ok, ih]
    simp

theorem run_loadCells {w : World} (b o' : Nat) (vs : List Value) (h : ∀ j c, vs[j]? = some c → w.cell? ⟨b, o' + j, none⟩ = some c) :
    (loadCells ⟨b, o', none⟩ vs.length).run P w = .ok vs.toArray w := by
  have := run_loadCellsFrom (P := P) b o' vs 0 #[] (by simpa using h)
  simpa [loadCells] using this

/-- cells in a row -/
def CellsAt (w : World) (b o : Nat) (vs : List Value) : Prop := ∀ j c, vs[j]? = some c → w.cell? ⟨b, o + j, none⟩ = some c

theorem PCells.cut {w : World} {F : Nat → Prop} : ∀ {cs : List PV} {b o' : Nat} (off n : Nat), PCells w F cs b o' → off + n ≤ cs.length →
    ∃ vs : List Value, vs.length = n ∧ PRels w F ((cs.drop off).take n) vs ∧ CellsAt w b (o' + off) vs
  | [], b, o', off, n, _, hl => by
    simp only [List.length_nil, Nat.le_zero, Nat.add_eq_zero_iff] at hl
    obtain ⟨rfl, rfl⟩ := hl
    exact ⟨[], rfl, by simp [PRels], fun j c hc => by simp at hc⟩
  | c :: cs, b, o', off + 1, n, h, hl => by
    simp only [PCells] at h
    obtain ⟨vs, h1, h2, h3⟩ := PCells.cut off n h.2 (by simp only [List.length_cons] at hl; omega)
    exact ⟨vs, h1, by simpa using h2, fun j c' hc => by have := h3 j c' hc; rw [← this]; congr 2; omega⟩
  | c :: cs, b, o', 0, 0, h, hl => ⟨[], rfl, by simp [PRels], fun j c hc => by simp at hc⟩
  | c :: cs, b, o', 0, n + 1, h, hl => by
    simp only [PCells] at h
    obtain ⟨⟨v, hv, hr⟩, h⟩ := h
    obtain ⟨vs, h1, h2, h3⟩ := PCells.cut 0 n h (by simp only [List.length_cons] at hl; omega)
    refine ⟨v :: vs, by simp [h1], ?_, fun j c' hc => ?_⟩
    · simp only [List.drop_zero, List.take_succ_cons, PRels]
      exact ⟨v, vs, rfl, hr, by simpa using h2⟩
    · cases j with
      | zero => simp only [List.getElem?_cons_zero, Option.some.injEq] at hc; subst hc; simpa using hv
      | succ j => have := h3 j c' (by simpa using hc); rw [← this]; congr 2; omega

theorem ACells.cut : ∀ {cs : List AV} {b o' : Nat} (off n : Nat), ACells x cs b o' → off + n ≤ cs.length →
    ∃ vs : List Value, vs.length = n ∧ VRels x ((cs.drop off).take n) vs ∧ CellsAt x.w b (o' + off) vs
  | [], b, o', off, n, _, hl => by
    simp only [List.length_nil, Nat.le_zero, Nat.add_eq_zero_iff] at hl
    obtain ⟨rfl, rfl⟩ := hl
    exact ⟨[], rfl, by simp [VRels], fun j c hc => by simp at hc⟩
  | c :: cs, b, o', off + 1, n, h, hl => by
    simp only [ACells] at h
    obtain ⟨vs, h1, h2, h3⟩ := ACells.cut off n h.2 (by simp only [List.length_cons] at hl; omega)
    exact ⟨vs, h1, by simpa using h2, fun j c' hc => by have := h3 j c' hc; rw [← this]; congr 2; omega⟩
  | c :: cs, b, o', 0, 0, h, hl => ⟨[], rfl, by simp [VRels], fun j c hc => by simp at hc⟩
  | c :: cs, b, o', 0, n + 1, h, hl => by
    simp only [ACells] at h
    obtain ⟨⟨v, hv, hr⟩, h⟩ := h
    obtain ⟨vs, h1, h2, h3⟩ := ACells.cut 0 n h (by simp only [List.length_cons] at hl; omega)
    refine ⟨v :: vs, by simp [h1], ?_, fun j c' hc => ?_⟩
    · simp only [List.drop_zero, List.take_succ_cons, VRels]
      exact ⟨v, vs, rfl, hr, by simpa using h2⟩
    · cases j with
      | zero => simp only [List.getElem?_cons_zero, Option.some.injEq] at hc; subst hc; simpa using hv
      | succ j => have := h3 j c' (by simpa using hc); rw [← this]; congr 2; omega

theorem allPv_rel : ∀ {cs : List AV} {ps : List PV} {vs : List Value}, allPv cs = some ps → VRels x cs vs → PRels x.w x.F ps vs
  | [], _, _, h, hv => by
    simp only [allPv, Option.some.injEq] at h; subst h
    simpa only [VRels, PRels] using hv
  | v :: cs, ps, vs, h, hv => by
    simp only [VRels] at hv
    obtain ⟨c, r, rfl, h1, h2⟩ := hv
    cases v with
    | pv p =>
      simp only [allPv] at h
      split at h
      · rename_i qs hq
        injection h with h; subst h
        simp only [PRels]
        exact ⟨c, r, rfl, by simpa only [VRel] using h1, allPv_rel hq h2⟩
      · cases h
    | e0 =>
      simp only [allPv] at h
      split at h
      · rename_i qs hq
        injection h with h; subst h
        simp only [PRels]
        simp only [VRel] at h1
        obtain ⟨a, e⟩ := h1
        exact ⟨c, r, rfl, by simp only [PRel]; exact ⟨a, 0, 0, e, rfl, Nat.le_refl _, fun hn => absurd hn (by omega)⟩, allPv_rel hq h2⟩
      · cases h
    | _ => simp [allPv] at h

theorem mkAgg_rel {cs : List AV} {vs : List Value} (h : VRels x cs vs) : VRel x (mkAgg cs) (.agg ⟨vs⟩) := by
  unfold mkAgg
  split
  · rename_i ps hp
    simp only [VRel, PRel]
    exact ⟨vs, rfl, allPv_rel hp h⟩
  · simp only [VRel]
    exact ⟨vs, rfl, h⟩

theorem mkAggN_rel {cs : List AV} {vs : List Value} (h : VRels x cs vs) : VRel x (mkAggN cs) (.agg ⟨vs⟩) := by
  unfold mkAggN
  split
  · simp only [VRel]; exact ⟨vs, rfl, h⟩
  · exact mkAgg_rel h
theorem PElems.at_ {w : World} {F : Nat → Prop} : ∀ {xs : List PV} {b o' : Nat} {i : Nat}, PElems w F xs b o' → i < xs.length →
    PCells w F (xs.getD i default).cells b (o' + ((xs.take i).map (·.cells.length)).sum)
  | [], _, _, i, _, hi => by simp at hi
  | y :: xs, b, o', 0, h, _ => by
    simp only [List.getD_cons_zero, List.take_zero, List.map_nil, List.sum_nil, Nat.add_zero]
    cases y with
    | agg cs => simp only [PElems] at h; exact h.1
    | _ => simp only [PElems] at h; simp only [PV.cells, PCells]; exact ⟨h.1, trivial⟩
  | y :: xs, b, o', i + 1, h, hi => by
    have key : PElems w F xs b (o' + y.cells.length) := by
      cases y with
      | agg cs => simp only [PElems] at h; exact h.2
      | _ => simp only [PElems] at h; exact h.2
    have := PElems.at_ (i := i) key (by simpa using hi)
    simp only [List.getD_cons_succ, List.take_succ_cons, List.map_cons, List.sum_cons]
    rw [← Nat.add_assoc]; exact this

theorem AElems.at_ : ∀ {xs : List AV} {b o' : Nat} {i s : Nat}, AElems x xs b o' → (∀ p ∈ xs, p.width = s) → i < xs.length →
    ACells x (xs.getD i .un).cells b (o' + i * s)
  | [], _, _, i, _, _, _, hi => by simp at hi
  | y :: xs, b, o', 0, s, h, _, _ => by
    simp only [List.getD_cons_zero, Nat.zero_mul, Nat.add_zero]
    cases y with
    | agg cs => simp only [AElems] at h; exact h.1
    | pv p =>
      cases p with
      | agg cs =>
        simp only [AElems] at h
        simp only [AV.cells, PV.cells]
        have conv : ∀ (cs : List PV) (o : Nat), PCells x.w x.F cs b o → ACells x (cs.map .pv) b o := by
          intro cs
          induction cs with
          | nil => intro o _; simp only [List.map_nil, ACells]
          | cons c cs ih =>
            intro o hc
            simp only [PCells] at hc
            simp only [List.map_cons, ACells, VRel]
            exact ⟨hc.1, ih _ hc.2⟩
        exact conv cs _ h.1
      | _ => simp only [AElems] at h; simp only [AV.cells, PV.cells, List.map_cons, List.map_nil, ACells]; exact ⟨h.1, trivial⟩
    | _ => simp only [AElems] at h; simp only [AV.cells, ACells]; exact ⟨h.1, trivial⟩
  | y :: xs, b, o', i + 1, s, h, hs, hi => by
    have key : AElems x xs b (o' + s) := by
      have hw := hs y (by simp)
      cases y with
      | agg cs => simp only [AElems] at h; simp only [AV.width] at hw; rw [← hw]; exact h.2
      | pv p =>
        cases p with
        | agg cs => simp only [AElems] at h; simp only [AV.width, PV.cells] at hw; rw [← hw]; exact h.2
        | _ => simp only [AElems] at h; simp only [AV.width, PV.cells, List.length_cons, List.length_nil] at hw; rw [← hw]; exact h.2
      | _ => simp only [AElems] at h; simp only [AV.width] at hw; rw [← hw]; exact h.2
    have := AElems.at_ (i := i) (s := s) key (fun p hp => hs p (List.mem_cons_of_mem _ hp)) (by simpa using hi)
    simp only [List.getD_cons_succ]
    have e : o' + (i + 1) * s = o' + s + i * s := by rw [Nat.succ_mul]; omega
    rw [e]; exact this
end
end Go.Vc

namespace Go.Vc
open Go.RowKit
section
variable {P : Program} {x : Cx} {o : Oper} {ev : Operand → Value}

/-- is a type a struct or an array -/
def aggOf (P : Program) (t : TypeId) : Bool := match P.underlying t with
  | some (.struct _) => true
  | some (.array _ _) => true
  | _ => false

theorem run_isAgg {w : World} {t : TypeId} {d : TypeDesc} (ht : P.underlying t = some d) : (isAgg t).run P w = .ok (aggOf P t) w := by
  unfold aggOf
  rw [ht]
  cases d <;> simp [isAgg, run_underlying ht]

theorem run_loadVar {w : World} {t : TypeId} {d : TypeDesc} {i : TypeInfo} (ht : P.underlying t = some d) (hi : P.info? t = some i) (b o' : Nat) (vs : List Value) (hn : vs.length = i.size)
    (h1 : aggOf P t = true ∨ i.size = 1) (h : CellsAt w b o' vs) :
    (Instr.loadAt t (.pointer (some ⟨b, o', none⟩))).run P w = .ok (if aggOf P t then .agg ⟨vs⟩ else vs.getD 0 undef) w := by
  simp only [Instr.loadAt, Instr.sureAddr, Sem.run_bind, Sem.run_pure, Result.andThen_ok, loadVar, run_isAgg ht]
  cases ha : aggOf P t
  · rcases h1 with h1 | h1
    · rw [ha] at h1; cases h1
    · rw [h1] at hn
      match vs, hn with
      | [v], _ =>
        have := h 0 v rfl
        simp only [Nat.add_zero] at this
        simp [load, Sem.run, this]
  · simp [sizeOf, typeInfo, hi, ← hn, run_loadCells b o' vs h]

theorem CellsAt.agr {w w' : World} {b o' : Nat} {vs : List Value} (h : CellsAt w b o' vs) (k : Agr w w') : CellsAt w' b o' vs := fun j c hc => k.cell (h j c hc)

theorem PRels.agg {w : World} {F : Nat → Prop} {cs : List PV} {vs : List Value} (h : PRels w F cs vs) : PRel w F (.agg cs) (.agg ⟨vs⟩) := by
  simp only [PRel]; exact ⟨vs, rfl, h⟩

theorem q_ld {e : Env} {σ : St} {a : Act} (hS : SRel e σ x a) {t : TypeId} {y : Operand} (ho : o.op = .load t y) {d : TypeDesc} {i : TypeInfo} (ht : P.underlying t = some d) (hi : P.info? t = some i)
    {v : AV} (hy : VRel x v (ev y)) (hp : ldP σ i.size (aggOf P t) v) : QOK P x o ev (ldV σ i.size (aggOf P t) v) := by
  -- what is loaded out of pure cells
  have pure : ∀ (cs : List PV) (b o' off : Nat), ev y = .pointer (some ⟨b, o' + off, none⟩) → PCells x.w x.F cs b o' → off + i.size ≤ cs.length → (aggOf P t = true ∨ i.size = 1) →
      QOK P x o ev (.pv (ccut cs off i.size (aggOf P t))) := by
    intro cs b o' off he hc hl h1
    obtain ⟨vs, h2, h3, h4⟩ := hc.cut off i.size hl
    refine ⟨if aggOf P t then .agg ⟨vs⟩ else vs.getD 0 undef, ?_, fun w' k => by simp only [execOp, ho, he]; simp only [Sem.run_bind, run_loadVar ht hi b (o' + off) vs h2 h1 (h4.agr k), Result.andThen_ok, Sem.run_pure]⟩
    unfold ccut
    cases ha : aggOf P t
    · rcases h1 with h1 | h1
      · rw [ha] at h1; cases h1
      · rw [h1] at h3 h2 hl
        have hlt : off < cs.length := by omega
        have e : (cs.drop off).take 1 = [cs.getD off default] := by
          rw [List.drop_eq_getElem_cons hlt, List.take_succ_cons, List.take_zero]; simp [List.getD_eq_getElem?_getD, hlt]
        rw [e] at h3
        simp only [PRels] at h3
        obtain ⟨v0, r, rfl, h5, _⟩ := h3
        simpa [VRel] using h5
    · simp only [if_true, VRel]
      exact h3.agg
  have mixed : ∀ (cs : List AV) (b o' off : Nat), ev y = .pointer (some ⟨b, o' + off, none⟩) → ACells x cs b o' → off + i.size ≤ cs.length → (aggOf P t = true ∨ i.size = 1) →
      QOK P x o ev (acut cs off i.size (aggOf P t)) := by
    intro cs b o' off he hc hl h1
    obtain ⟨vs, h2, h3, h4⟩ := hc.cut off i.size hl
    refine ⟨if aggOf P t then .agg ⟨vs⟩ else vs.getD 0 undef, ?_, fun w' k => by simp only [execOp, ho, he]; simp only [Sem.run_bind, run_loadVar ht hi b (o' + off) vs h2 h1 (h4.agr k), Result.andThen_ok, Sem.run_pure]⟩
    unfold acut
    cases ha : aggOf P t
    · rcases h1 with h1 | h1
      · rw [ha] at h1; cases h1
      · rw [h1] at h3 h2 hl
        have hlt : off < cs.length := by omega
        have e : (cs.drop off).take 1 = [cs.getD off .un] := by
          rw [List.drop_eq_getElem_cons hlt, List.take_succ_cons, List.take_zero]; simp [List.getD_eq_getElem?_getD, hlt]
        rw [e] at h3
        simp only [VRels] at h3
        obtain ⟨v0, r, rfl, h5, _⟩ := h3
        simpa using h5
    · simp only [if_true]
      exact mkAgg_rel h3
  unfold ldP at hp
  split at hp
  · rename_i r off
    simp only [VRel] at hy
    split at hp
    · rename_i cs hr
      have h1 := hS.st _ _ (stGet_mem hr)
      simp only [Row.rel] at h1
      have := mixed cs _ _ off hy h1.2.2 hp.1 hp.2
      simpa only [ldV, hr] using this
    · exact hp.elim
  · rename_i r j off
    simp only [VRel] at hy
    split at hp
    · rename_i s xs hr
      have h1 := hS.st _ _ (stGet_mem hr)
      simp only [Row.rel] at h1
      rcases h1 with ⟨_, h1⟩ | ⟨h1, h2, h3, h4, h5, h6⟩
      · subst h1; simp at hp
      · have h7 := h6.at_ hp.1
        rw [sum_const (fun p hp => (h4 p hp).1) _ (Nat.le_of_lt hp.1), ← h1] at h7
        have := pure _ _ _ off hy h7 hp.2.1 hp.2.2
        simp only [ldV, hr]
        unfold pcut
        exact this
    · rename_i cs hr
      obtain ⟨rfl, hn1, hag, hlt⟩ := hp
      have h1 := hS.st _ _ (stGet_mem hr)
      simp only [Row.rel] at h1
      have := mixed cs _ _ j (by rw [hy, h1.2.1.1]; simp) h1.2.2.2 (by omega) (.inr hn1)
      simpa only [ldV, hr, Nat.add_zero] using this
    · exact hp.elim
  · rename_i xs j off
    simp only [VRel] at hy
    obtain ⟨b, o', e, h1, h2, h3, h4⟩ := hy
    exact pure _ _ _ off e (h3.at_ h4) hp.1 hp.2
  · rename_i cs off
    simp only [VRel] at hy
    obtain ⟨b, o', e, h1, h2, h3⟩ := hy
    exact pure _ _ _ off e h3 hp.1 hp.2
  · rename_i cs
    simp only [VRel, PRel] at hy
    obtain ⟨b, o', e, h1, h2, h3⟩ := hy
    exact pure _ _ _ 0 e h3 (by simpa using hp.1) hp.2
  · exact hp.elim

theorem PRels.cut {w : World} {F : Nat → Prop} {cs : List PV} {vs : List Value} (h : PRels w F cs vs) : ∀ (off n : Nat), PRels w F ((cs.drop off).take n) ((vs.drop off).take n) := by
  induction cs generalizing vs with
  | nil => intro off n; simp only [PRels] at h; subst h; simp [PRels]
  | cons c cs ih =>
    intro off n
    simp only [PRels] at h
    obtain ⟨v, r, rfl, h1, h2⟩ := h
    cases off with
    | zero =>
      cases n with
      | zero => simp [PRels]
      | succ n =>
        simp only [List.drop_zero, List.take_succ_cons, PRels]
        exact ⟨v, r.take n, rfl, h1, by simpa using ih h2 0 n⟩
    | succ off => simpa using ih h2 off n
theorem VRels.cut {cs : List AV} {vs : List Value} (h : VRels x cs vs) : ∀ (off n : Nat), VRels x ((cs.drop off).take n) ((vs.drop off).take n) := by
  induction cs generalizing vs with
  | nil => intro off n; simp only [VRels] at h; subst h; simp [VRels]
  | cons c cs ih =>
    intro off n
    simp only [VRels] at h
    obtain ⟨v, r, rfl, h1, h2⟩ := h
    cases off with
    | zero =>
      cases n with
      | zero => simp [VRels]
      | succ n =>
        simp only [List.drop_zero, List.take_succ_cons, VRels]
        exact ⟨v, r.take n, rfl, h1, by simpa using ih h2 0 n⟩
    | succ off => simpa using ih h2 off n

theorem run_part {w : World} {t : TypeId} {d : TypeDesc} {i : TypeInfo} (ht : P.underlying t = some d) (hi : P.info? t = some i) (vs : List Value) (off : Nat) {u : Value}
    (hu : aggOf P t = false → vs[off]? = some u) (ha : aggOf P t = true → u = .agg ⟨(vs.drop off).take i.size⟩) : (part t ⟨vs⟩ off).run P w = .ok u w := by
  simp only [part, Sem.run_bind, run_isAgg ht, Result.andThen_ok]
  cases h : aggOf P t
  · simp [hu h]
  · have := ha h
    simp only [if_true, sizeOf, typeInfo, Sem.run_bind]
    simp [hi, this]

theorem q_fld {s : TypeId} {y : Operand} {f : Nat} (ho : o.op = .field s y f) {fields : Array Field} {fl : Field} (hs : P.underlying s = some (.struct fields)) (hf : fields[f]? = some fl)
    {d : TypeDesc} {i : TypeInfo} (ht : P.underlying fl.type = some d) (hi : P.info? fl.type = some i) {v : AV} (hy : VRel x v (ev y)) (hp : fldP fl.offset i.size (aggOf P fl.type) v) :
    QOK P x o ev (fldV fl.offset i.size (aggOf P fl.type) v) := by
  unfold fldP at hp
  split at hp
  · rename_i cs
    simp only [VRel, PRel] at hy
    obtain ⟨vs, e, h⟩ := hy
    simp only [fldV, ccut]
    cases ha : aggOf P fl.type
    · obtain ⟨h0, h1⟩ := hp
      rcases h1 with h1 | h1
      · rw [ha] at h1; cases h1
      · obtain ⟨c, h2, h3⟩ := h.at_ (i := fl.offset) (by omega)
        exact ⟨c, by simpa [VRel] using h3, fun w' _ => by simp [execOp, ho, e, Instr.field, run_underlying hs, hf, asAgg, run_part ht hi vs fl.offset (u := c) (fun _ => h2) (fun h => by rw [ha] at h; cases h)]⟩
    · refine ⟨.agg ⟨(vs.drop fl.offset).take i.size⟩, ?_, fun w' _ => by simp [execOp, ho, e, Instr.field, run_underlying hs, hf, asAgg, run_part ht hi vs fl.offset (u := .agg ⟨(vs.drop fl.offset).take i.size⟩) (fun h => by rw [ha] at h; cases h) (fun _ => rfl)]⟩
      simp only [if_true, VRel]
      exact (h.cut _ _).agg
  · rename_i cs
    simp only [VRel] at hy
    obtain ⟨vs, e, h⟩ := hy
    simp only [fldV, acut]
    cases ha : aggOf P fl.type
    · obtain ⟨h0, h1⟩ := hp
      rcases h1 with h1 | h1
      · rw [ha] at h1; cases h1
      · obtain ⟨c, h2, h3⟩ := h.at_ (i := fl.offset) (by omega)
        exact ⟨c, h3, fun w' _ => by simp [execOp, ho, e, Instr.field, run_underlying hs, hf, asAgg, run_part ht hi vs fl.offset (u := c) (fun _ => h2) (fun h => by rw [ha] at h; cases h)]⟩
    · refine ⟨.agg ⟨(vs.drop fl.offset).take i.size⟩, ?_, fun w' _ => by simp [execOp, ho, e, Instr.field, run_underlying hs, hf, asAgg, run_part ht hi vs fl.offset (u := .agg ⟨(vs.drop fl.offset).take i.size⟩) (fun h => by rw [ha] at h; cases h) (fun _ => rfl)]⟩
      simp only [if_true]
      exact mkAgg_rel (h.cut _ _)
  · exact hp.elim

theorem q_conv {s t : TypeId} {y : Operand} {k : IntKind} {ds : TypeDesc} (ho : o.op = .convert s t y) (hs : P.underlying s = some ds) (ht : P.underlying t = some (.int k)) {v : AV} (hy : VRel x v (ev y)) (hp : convP k v) :
    QOK P x o ev (convV k v) := by
  unfold convP at hp
  split at hp
  · simp only [VRel, PRel] at hy
    exact QOK.sc rfl fun w' => by simp [execOp, ho, hy, convert, run_underlying hs, run_underlying ht, Conv.intToInt, wrap_fits hp]
  · exact hp.elim

theorem intsOf_rel {w : World} {F : Nat → Prop} : ∀ {ps : List PV} {ns : List Int} {b o : Nat}, intsOf ps = some ns → PElems w F ps b o → ns.length = ps.length ∧ ∀ (j : Nat) c, (ns.map (Value.int .u8))[j]? = some c → w.cell? ⟨b, o + j, none⟩ = some c
  | [], ns, b, o, h, _ => by
    simp only [intsOf, Option.some.injEq] at h; subst h
    exact ⟨rfl, fun j c hj => by simp at hj⟩
  | p :: ps, ns, b, o, h, he => by
    unfold intsOf at h
    split at h
    · cases ‹p :: ps = []›
    · rename_i n qs e
      injection e with e1 e2; subst e1; subst e2
      split at h
      · rename_i ms hms
        injection h with h; subst h
        simp only [PElems, PRel] at he
        obtain ⟨⟨v, h1, h2⟩, h3⟩ := he
        obtain ⟨g1, g2⟩ := intsOf_rel hms h3
        refine ⟨by simp [g1], fun j c hj => ?_⟩
        cases j with
        | zero =>
          simp only [List.map_cons, List.getElem?_cons_zero, Option.some.injEq] at hj
          subst hj; subst h2
          simpa using h1
        | succ j =>
          have := g2 j c (by simpa using hj)
          rw [show o + (j + 1) = o + 1 + j by omega]
          exact this
      · cases h
    · cases h
theorem q_strC {s t et : TypeId} {y : Operand} (ho : o.op = .convert s t y) (hs : P.underlying s = some (.slice et)) (ht : P.underlying t = some .string) (het : P.underlying et = some (.int .u8)) {ps : List PV} {ns : List Int} (hns : intsOf ps = some ns)
    {a : Option Addr} {n c : Nat} (e1 : ev y = .slice a n c) (e2 : n = ps.length) (h3 : 0 < n → ∃ b o', a = some ⟨b, o', none⟩ ∧ PElems x.w x.F ps b o') :
    QOK P x o ev (strV (.pv (.lst ps))) := by
  simp only [strV, hns]
  refine ⟨.string (strOf ns), by simp only [VRel, PRel], fun w' hk => ?_⟩
  have go : ∀ (ad : Addr), a = some ad → (loadCells ad n).run P w' = .ok (ns.map (Value.int .u8)).toArray w' → (execOp ev o).run P w' = .ok (.value (.string (strOf ns))) w' := by
    intro ad had hl
    subst had
    have := run_bytesToString (P := P) w' ad n c ns hl
    simp [execOp, ho, e1, convert, run_underlying hs, run_underlying ht, run_underlying het, this, strOf]
  rcases Nat.eq_zero_or_pos n with h0 | h0
  · have hps : ps = [] := List.eq_nil_of_length_eq_zero (by omega)
    subst hps
    simp only [intsOf, Option.some.injEq] at hns
    subst hns; subst h0
    cases a with
    | none => simp [execOp, ho, e1, convert, run_underlying hs, run_underlying ht, run_underlying het, Conv.bytesToString, strOf]
    | some ad =>
      refine go ad rfl ?_
      simp [loadCells, loadCellsFrom]
  · obtain ⟨b, o', hab, hE⟩ := h3 h0
    obtain ⟨g1, g2⟩ := intsOf_rel hns hE
    refine go _ hab ?_
    have := run_loadCells (P := P) (w := w') b o' (ns.map (Value.int .u8)) (fun j cc hj => hk.cell (g2 j cc hj))
    rw [List.length_map, g1, ← e2] at this
    exact this
theorem PRels_get {w : World} {F : Nat → Prop} : ∀ {ps : List PV} {vs : List Value}, PRels w F ps vs → ∀ i, i < ps.length → ∃ v, vs[i]? = some v ∧ PRel w F (ps.getD i default) v
  | [], vs, h, i, hi => by simp at hi
  | p :: ps, vs, h, i, hi => by
    simp only [PRels] at h
    obtain ⟨v, r, rfl, h1, h2⟩ := h
    cases i with
    | zero => exact ⟨v, rfl, h1⟩
    | succ i =>
      obtain ⟨u, g1, g2⟩ := PRels_get h2 i (by simpa using hi)
      exact ⟨u, by simpa using g1, by simpa using g2⟩
theorem q_idxa {t : TypeId} {y z : Operand} {n : Nat} {e : TypeId} {k : IntKind} {i : TypeInfo} (ho : o.op = .index t y z) (ht : P.underlying t = some (.array n e)) (he : P.underlying e = some (.int k)) (hi : P.info? e = some i) (hi1 : i.size = 1)
    {u v : AV} (hy : VRel x u (ev y)) (hz : VRel x v (ev z)) (hp : idxaP n u v) : QOK P x o ev (idxaV u v) := by
  unfold idxaP at hp
  split at hp
  · rename_i ps k' m
    simp only [VRel, PRel] at hy hz
    obtain ⟨vs, hy, hvs⟩ := hy
    obtain ⟨⟨h0, h1, h2⟩, hs⟩ := hp
    obtain ⟨cv, g1, g2⟩ := PRels_get hvs m.toNat (by omega)
    obtain ⟨c, hc⟩ : ∃ c, ps.getD m.toNat default = .sc c := by
      unfold isSc at hs
      split at hs
      · rename_i c he'; exact ⟨c, he'⟩
      · exact hs.elim
    simp only [idxaV]
    rw [hc] at g2 ⊢
    simp only [PRel] at g2
    subst g2
    refine QOK.sc rfl fun w' => ?_
    have e0 : (sizeOf e).run P w' = .ok i.size w' := by simp [sizeOf, typeInfo, hi]
    have e1 : (part e ⟨vs⟩ (m.toNat * i.size)).run P w' = .ok cv w' := by
      rw [hi1, Nat.mul_one]
      have ha : aggOf P e = false := by simp [aggOf, he]
      simp [part, run_isAgg he, ha, g1]
    simp only [execOp, ho, hy, hz, Instr.index, asIntOf, Sem.run_bind, Sem.run_pure, Result.andThen_ok, run_underlying ht, h0, h1, and_self, if_true, e0, e1]
  · exact hp.elim

theorem q_idx {t : TypeId} {y z : Operand} (ho : o.op = .index t y z) (ht : P.underlying t = some .string) {u v : AV} (hy : VRel x u (ev y)) (hz : VRel x v (ev z)) (hp : idxP u v) : QOK P x o ev (idxV u v) := by
  unfold idxP at hp
  split at hp
  · rename_i s k n
    simp only [VRel, PRel] at hy hz
    obtain ⟨h0, h1⟩ := hp
    have hlt : n.toNat < s.size := by omega
    have hg : s[n.toNat]? = some s[n.toNat] := by simp [hlt]
    refine QOK.sc rfl fun w' => ?_
    simp only [execOp, ho, hy, hz, Instr.index, asIntOf, Sem.run_bind, Sem.run_pure, Result.andThen_ok, run_underlying ht, h0, if_true, hg]
    have e : s.data.getD n.toNat 0 = s[n.toNat] := by
      have : n.toNat < s.data.size := hlt
      rw [Array.getD_eq_getD_getElem?, Array.getElem?_eq_getElem this]; rfl
    simp [e]
  · exact hp.elim
end
end Go.Vc

namespace Go.Vc
open Go.RowKit
section
variable {P : Program} {x : Cx} {o : Oper} {ev : Operand → Value}

theorem PElems.take {w : World} {F : Nat → Prop} : ∀ {xs : List PV} {b o' : Nat} (n : Nat), PElems w F xs b o' → PElems w F (xs.take n) b o'
  | [], _, _, n, _ => by simp [PElems]
  | _ :: _, _, _, 0, _ => by simp [PElems]
  | y :: xs, b, o', n + 1, h => by
    cases y with
    | agg cs => simp only [PElems, List.take_succ_cons] at h ⊢; exact ⟨h.1, h.2.take n⟩
    | _ => simp only [PElems, List.take_succ_cons] at h ⊢; exact ⟨h.1, h.2.take n⟩
theorem PElems.drop {w : World} {F : Nat → Prop} : ∀ {xs : List PV} {b o' s : Nat} (n : Nat), PElems w F xs b o' → (∀ p ∈ xs, p.cells.length = s) → n ≤ xs.length → PElems w F (xs.drop n) b (o' + n * s)
  | [], _, _, _, n, _, _, _ => by simp [PElems]
  | _ :: _, _, _, _, 0, h, _, _ => by simpa using h
  | y :: xs, b, o', s, n + 1, h, hs, hl => by
    have hw := hs y (by simp)
    have key : PElems w F xs b (o' + s) := by
      cases y with
      | agg cs => simp only [PElems] at h; simp only [PV.cells] at hw; rw [← hw]; exact h.2
      | _ => simp only [PElems] at h; simp only [PV.cells, List.length_cons, List.length_nil] at hw; rw [← hw]; exact h.2
    have := PElems.drop n key (fun p hp => hs p (List.mem_cons_of_mem _ hp)) (by simpa using hl)
    have e : o' + (n + 1) * s = o' + s + n * s := by rw [Nat.succ_mul]; omega
    rw [e]; simpa using this

/-- the bounds of a slice expression -/
theorem run_sliceBounds {w : World} {isSlice : Bool} {len cap : Nat} {lo hi : Option Value} {l h : Int} (hlo : lo = none ∧ l = 0 ∨ ∃ k, lo = some (.int k l)) (hhi : hi = none ∧ h = len ∨ ∃ k, hi = some (.int k h))
    (h0 : 0 ≤ l) (h1 : l ≤ h) (h2 : h ≤ len) (h3 : len ≤ cap) : (Instr.sliceBounds isSlice len cap lo hi none).run P w = .ok (l.toNat, h.toNat, cap) w := by
  have a1 : h ≤ cap := by omega
  have a2 : 0 ≤ h := by omega
  have a5 : l ≤ (len : Int) := by omega
  rcases hlo with ⟨rfl, rfl⟩ | ⟨k, rfl⟩ <;> rcases hhi with ⟨rfl, rfl⟩ | ⟨k', rfl⟩
  · simp [Instr.sliceBounds]
  · simp [Instr.sliceBounds, Instr.sliceBound, asIntOf, a1, a2]
  · simp [Instr.sliceBounds, Instr.sliceBound, asIntOf, a5, h0]
  · have a6 : ¬ max h 0 < l := by omega
    simp [Instr.sliceBounds, Instr.sliceBound, asIntOf, a1, a2, h0, a6]

theorem bnd_opt {e : Env} {σ : St} {a : Act} (hS : SRel e σ x a) {y : Operand} {z : Opd} (hz : Opd.of y = some z) (hc : z.cd σ = true) (hi : isInt (z.sv σ)) : ∃ k, a.eval y = .int k (bnd (z.sv σ)) := by
  have := Opd.of_sv hS hz hc
  unfold isInt at hi
  split at hi
  · rename_i k n he
    rw [he] at this ⊢
    simp only [VRel, PRel] at this
    exact ⟨k, this⟩
  · exact hi.elim

theorem q_slc {e : Env} {σ : St} {t : TypeId} {y : Operand} {lo hi : Option Operand} (ho : o.op = .slice t y lo hi none) {v : AV} (hS : ∃ a, SRel e σ x a) {s : Nat} {str : Bool} {l h : Int}
    (hlo : lo.map ev = none ∧ l = 0 ∨ ∃ k, lo.map ev = some (.int k l)) (hhi : hi.map ev = none ∧ h = sizeOfV v ∨ ∃ k, hi.map ev = some (.int k h))
    (hk : str = true ∧ P.underlying t = some .string ∨ str = false ∧ ∃ et i, P.underlying t = some (.slice et) ∧ P.info? et = some i ∧ i.size = s)
    (hy : VRel x v (ev y)) (hp : slcP σ s str l h v) : QOK P x o ev (slcV l h v) := by
  obtain ⟨a, hS⟩ := hS
  unfold slcP at hp
  split at hp
  · rename_i xs
    obtain ⟨hstr, h0, h1, h2, h3⟩ := hp
    rcases hk with ⟨hs1, _⟩ | ⟨_, et, i, ht, hi', hsz⟩
    · rw [hstr] at hs1; cases hs1
    · simp only [VRel, PRel] at hy
      obtain ⟨ad, n, c, e1, e2, e3, e4⟩ := hy
      simp only [sizeOfV] at hhi
      have hr : ∀ w' : World, (execOp ev o).run P w' = .ok (.value (.slice (if c = l.toNat then ad else ad.map (·.add (l.toNat * s))) (h.toNat - l.toNat) (c - l.toNat))) w' := fun w' => by
        simp [execOp, ho, e1, Instr.sliceAt, run_underlying ht, Instr.slice, run_sliceBounds (P := P) (w := w') (isSlice := true) (len := n) (cap := c) hlo (by rw [e2]; exact hhi) h0 h1 (by omega) e3, sizeOf, typeInfo, hi', hsz]
      refine ⟨_, ?_, fun w' _ => hr w'⟩
      simp only [slcV, VRel, PRel]
      have hlen : h.toNat - l.toNat = ((xs.take h.toNat).drop l.toNat).length := by
        rw [List.length_drop, List.length_take]; omega
      have hne : 0 < h.toNat - l.toNat → 0 < n ∧ ¬ c = l.toNat := by omega
      refine ⟨_, _, _, rfl, hlen, by omega, fun hn => ?_⟩
      obtain ⟨b, o', rfl, h5, h6, h7⟩ := e4 (hne hn).1
      rw [if_neg (hne hn).2]
      refine ⟨b, o' + l.toNat * s, by simp [addr_add], h5, h6, ?_⟩
      exact (h7.take h.toNat).drop l.toNat (fun p hp => (h3 p (List.mem_of_mem_take hp)).1) (by rw [List.length_take]; omega)
  · rename_i u
    obtain ⟨hstr, h0, h1, h2⟩ := hp
    rcases hk with ⟨_, ht⟩ | ⟨hn, _⟩
    · simp only [VRel, PRel] at hy
      simp only [sizeOfV] at hhi
      exact QOK.sc rfl fun w' => by simp [execOp, ho, hy, Instr.sliceAt, run_underlying ht, Instr.slice, run_sliceBounds (P := P) (w := w') (isSlice := false) (len := u.size) (cap := u.size) hlo hhi h0 h1 h2 (Nat.le_refl _)]
    · rw [hstr] at hn; cases hn
  · rename_i r off m
    obtain ⟨hstr, h0, h1, h2, h3⟩ := hp
    rcases hk with ⟨hs1, _⟩ | ⟨_, et, i, ht, hi', hsz⟩
    · rw [hstr] at hs1; cases hs1
    · simp only [VRel] at hy
      simp only [sizeOfV] at hhi
      rcases hy with ⟨hm, hcp, ad, e1⟩ | ⟨c, hok, e1, h4, h5, h6⟩
      · have hl : l = 0 := by omega
        have hh : h = 0 := by omega
        subst hl; subst hh; subst hm
        have hr : ∀ w' : World, (execOp ev o).run P w' = .ok (.value (.slice ad 0 0)) w' := fun w' => by
          have := run_sliceBounds (P := P) (w := w') (isSlice := true) (len := 0) (cap := 0) (l := 0) (h := 0) hlo hhi (by omega) (by omega) (by omega) (Nat.le_refl _)
          simp [execOp, ho, e1, Instr.sliceAt, run_underlying ht, Instr.slice, this, sizeOf, typeInfo, hi']
        refine ⟨_, ?_, fun w' _ => hr w'⟩
        simp only [slcV, VRel]
        exact .inl ⟨by simp, by simpa using hcp, ad, rfl⟩
      · have hs : (x.ρ r).s = s := by
          unfold rowS at h3
          split at h3
          · rename_i s' xs hrow
            injection h3 with h3; subst h3
            have := hS.st _ _ (stGet_mem hrow)
            simp only [Row.rel] at this
            rcases this with ⟨h3, _⟩ | h3
            · rw [h3] at hok; cases hok
            · exact h3.1
          · rename_i s' xs hrow
            injection h3 with h3; subst h3
            have := hS.st _ _ (stGet_mem hrow)
            simp only [Row.rel] at this
            rcases this with ⟨h3, _⟩ | h3
            · rw [h3] at hok; cases hok
            · exact h3.1
          · rename_i cells hrow
            injection h3 with h3
            have := hS.st _ _ (stGet_mem hrow)
            simp only [Row.rel] at this
            rw [← h3]; exact this.2.1.1
          · cases h3
        have hr : ∀ w' : World, (execOp ev o).run P w' = .ok (.value (.slice (if c = l.toNat then some ⟨(x.ρ r).blk, (x.ρ r).base + off * (x.ρ r).s, none⟩ else some ⟨(x.ρ r).blk, (x.ρ r).base + off * (x.ρ r).s + l.toNat * s, none⟩) (h.toNat - l.toNat) (c - l.toNat))) w' := fun w' => by
          have := run_sliceBounds (P := P) (w := w') (isSlice := true) (len := m) (cap := c) hlo hhi h0 h1 h2 h4
          simp [execOp, ho, e1, Instr.sliceAt, run_underlying ht, Instr.slice, this, sizeOf, typeInfo, hi', hsz, addr_add]
        refine ⟨_, ?_, fun w' _ => hr w'⟩
        simp only [slcV, VRel]
        by_cases hcl : c = l.toNat
        · rw [if_pos hcl]
          exact .inl ⟨by omega, fun _ => by omega, _, by rw [show h.toNat - l.toNat = 0 by omega, show c - l.toNat = 0 by omega]⟩
        · rw [if_neg hcl]
          refine .inr ⟨c - l.toNat, hok, ?_, by omega, by omega, by omega⟩
          rw [hs, Nat.add_mul, Nat.add_assoc]
  · obtain ⟨hstr, rfl, rfl⟩ := hp
    rcases hk with ⟨hs1, _⟩ | ⟨_, et, i, ht, hi', hsz⟩
    · rw [hstr] at hs1; cases hs1
    · simp only [VRel] at hy
      obtain ⟨ad, e1⟩ := hy
      have hr : ∀ w' : World, (execOp ev o).run P w' = .ok (.value (.slice ad 0 0)) w' := fun w' => by
        have := run_sliceBounds (P := P) (w := w') (isSlice := true) (len := 0) (cap := 0) (l := 0) (h := 0) hlo hhi (by omega) (by omega) (by omega) (Nat.le_refl _)
        simp [execOp, ho, e1, Instr.sliceAt, run_underlying ht, Instr.slice, this, sizeOf, typeInfo, hi']
      exact ⟨_, by simp only [slcV, VRel]; exact ⟨ad, rfl⟩, fun w' _ => hr w'⟩
  · exact hp.elim
end
end Go.Vc

namespace Go.Vc
open Go.RowKit
section
variable {P : Program} {x : Cx} {o : Oper} {ev : Operand → Value}

theorem PRels.vrels : ∀ {ps : List PV} {vs : List Value}, PRels x.w x.F ps vs → VRels x (ps.map .pv) vs
  | [], _, h => by simpa only [PRels, VRels, List.map_nil] using h
  | p :: ps, _, h => by
    simp only [PRels] at h
    obtain ⟨v, r, rfl, h1, h2⟩ := h
    simp only [List.map_cons, VRels, VRel]
    exact ⟨v, r, rfl, h1, h2.vrels⟩

theorem cells_rel {v : AV} {cv : Value} (h : VRel x v cv) (ho : okc v = true) : VRels x v.cells cv.cells.toList := by
  have one : ∀ {u : AV} {c : Value}, VRel x u c → c.cells = #[c] → VRels x [u] c.cells.toList := fun {u c} hu hc => by
    rw [hc]; simp only [VRels]; exact ⟨c, [], rfl, hu, rfl⟩
  cases v with
  | un => simp [okc] at ho
  | whn c v => simp [okc] at ho
  | agg cs => simp only [VRel] at h; obtain ⟨vs, rfl, h⟩ := h; exact h
  | pv p =>
    cases p with
    | agg cs => simp only [VRel, PRel] at h; obtain ⟨vs, rfl, h⟩ := h; exact h.vrels
    | sc c =>
      have h' := h
      simp only [VRel, PRel] at h
      subst h
      cases cv <;> first | (simp [okc] at ho; done) | exact one h' rfl
    | lst xs => have h' := h; simp only [VRel, PRel] at h; obtain ⟨_, _, _, rfl, _⟩ := h; exact one h' rfl
    | tup xs => have h' := h; simp only [VRel, PRel] at h; obtain ⟨_, rfl, _⟩ := h; exact one h' rfl
    | fn f xs => have h' := h; simp only [VRel, PRel] at h; obtain ⟨_, rfl, _⟩ := h; exact one h' rfl
    | pt xs => have h' := h; simp only [VRel, PRel] at h; obtain ⟨_, _, rfl, _⟩ := h; exact one h' rfl
  | tup vs => have h' := h; simp only [VRel] at h; obtain ⟨_, rfl, _⟩ := h; exact one h' rfl
  | e0 => have h' := h; simp only [VRel] at h; obtain ⟨_, rfl⟩ := h; exact one h' rfl
  | lit xs => have h' := h; simp only [VRel] at h; obtain ⟨_, _, _, rfl, _⟩ := h; exact one h' rfl
  | row r off n => have h' := h; simp only [VRel] at h; rcases h with ⟨_, _, _, rfl⟩ | ⟨_, _, rfl, _⟩ <;> exact one h' rfl
  | ptr r off => have h' := h; simp only [VRel] at h; subst h; exact one h' rfl
  | rptr r i off => have h' := h; simp only [VRel] at h; subst h; exact one h' rfl
  | eptr xs i off => have h' := h; simp only [VRel] at h; obtain ⟨_, _, rfl, _⟩ := h; exact one h' rfl
  | cptr xs off => have h' := h; simp only [VRel] at h; obtain ⟨_, _, rfl, _⟩ := h; exact one h' rfl
  | fn f xs => have h' := h; simp only [VRel] at h; obtain ⟨_, rfl, _⟩ := h; exact one h' rfl
  | mp r => have h' := h; simp only [VRel] at h; subst h; exact one h' rfl
  | it r => have h' := h; simp only [VRel] at h; subst h; exact one h' rfl

theorem VRels.length : ∀ {vs : List AV} {cs : List Value}, VRels x vs cs → cs.length = vs.length
  | [], _, h => by simp only [VRels] at h; subst h; rfl
  | _ :: vs, _, h => by simp only [VRels] at h; obtain ⟨v, r, rfl, _, h⟩ := h; simp [h.length]
theorem PRels.length {w : World} {F : Nat → Prop} : ∀ {vs : List PV} {cs : List Value}, PRels w F vs cs → cs.length = vs.length
  | [], _, h => by simp only [PRels] at h; subst h; rfl
  | _ :: vs, _, h => by simp only [PRels] at h; obtain ⟨v, r, rfl, _, h⟩ := h; simp [h.length]

theorem VRels.set : ∀ {vs : List AV} {cs : List Value} {i : Nat} {v : AV} {c : Value}, VRels x vs cs → VRel x v c → VRels x (vs.set i v) (cs.set i c)
  | [], _, _, _, _, h, _ => by simp only [VRels] at h; subst h; simp [VRels]
  | u :: vs, _, 0, v, c, h, hv => by
    simp only [VRels] at h
    obtain ⟨v', r, rfl, h1, h2⟩ := h
    simp only [List.set_cons_zero, VRels]
    exact ⟨c, r, rfl, hv, h2⟩
  | u :: vs, _, i + 1, v, c, h, hv => by
    simp only [VRels] at h
    obtain ⟨v', r, rfl, h1, h2⟩ := h
    simp only [List.set_cons_succ, VRels]
    exact ⟨v', r.set i c, rfl, h1, h2.set hv⟩

def layC (cs : List Value) (off : Nat) : List Value → List Value
  | [] => cs
  | v :: vs => layC (cs.set off v) (off + 1) vs
theorem lay_rel : ∀ {vs : List AV} {vvs : List Value} {cs : List AV} {cvs : List Value} {off : Nat}, VRels x vs vvs → VRels x cs cvs → VRels x (lay cs off vs) (layC cvs off vvs)
  | [], _, _, _, _, h, hc => by simp only [VRels] at h; subst h; exact hc
  | v :: vs, _, cs, cvs, off, h, hc => by
    simp only [VRels] at h
    obtain ⟨c, r, rfl, h1, h2⟩ := h
    simp only [lay, layC]
    exact lay_rel h2 (hc.set h1)
theorem layC_fold (off : Nat) : ∀ (vs : List Value) (k : Nat) (cs : List Value), ((vs.zipIdx k).foldl (fun (cs : Array Value) (q : Value × Nat) => cs.setIfInBounds (off + q.2) q.1) ⟨cs⟩) = ⟨layC cs (off + k) vs⟩
  | [], k, cs => rfl
  | v :: vs, k, cs => by
    simp only [List.zipIdx_cons, List.foldl_cons, layC]
    have := layC_fold off vs (k + 1) (cs.set (off + k) v)
    rw [show off + (k + 1) = off + k + 1 by omega] at this
    rw [← this]
    congr 1
    exact List.setIfInBounds_toArray ..
theorem lay_length : ∀ (vs : List AV) (cs : List AV) (off : Nat), (lay cs off vs).length = cs.length
  | [], _, _ => rfl
  | v :: vs, cs, off => by simp only [lay, lay_length vs]; simp
theorem layC_length : ∀ (vs : List Value) (cs : List Value) (off : Nat), (layC cs off vs).length = cs.length
  | [], _, _ => rfl
  | v :: vs, cs, off => by simp only [layC, layC_length vs]; simp

/-- the parts of a composite literal, as the IR has them -/
def PartsOK (place : Nat → Option (Nat × Nat)) : List (Nat × Operand) → List (Nat × Nat × Opd) → Prop
  | [], qs => qs = []
  | (i, y) :: ps, qs => ∃ off n z r, qs = (off, n, z) :: r ∧ place i = some (off, n) ∧ Opd.of y = some z ∧ PartsOK place ps r

theorem fill_rel {e : Env} {σ : St} {a : Act} (hS : SRel e σ x a) {place : Nat → Option (Nat × Nat)} : ∀ {ps : List (Nat × Operand)} {qs : List (Nat × Nat × Opd)} {cs : List AV} {cvs : List Value},
    PartsOK place ps qs → cds σ (qs.map (·.2.2)) = true → mkP σ cs.length qs → VRels x cs cvs →
    ∃ out, Instr.fill place ⟨cvs⟩ (ps.map fun q => (q.1, a.eval q.2)) = some ⟨out⟩ ∧ VRels x (mkV σ qs cs) out
  | [], qs, cs, cvs, h, _, _, hc => by
    simp only [PartsOK] at h; subst h
    exact ⟨cvs, rfl, hc⟩
  | (i, y) :: ps, qs, cs, cvs, h, hcd, hp, hc => by
    simp only [PartsOK] at h
    obtain ⟨off, n, z, r, rfl, h1, h2, h3⟩ := h
    simp only [List.map_cons, cds, Bool.and_eq_true] at hcd
    simp only [mkP] at hp
    obtain ⟨p1, p2, p3, p4⟩ := hp
    have hv := Opd.of_sv hS h2 hcd.1
    have hcl := cells_rel hv p1
    have hlen : (a.eval y).cells.size = n := by have := hcl.length; rw [p2] at this; simpa using this
    have hcs : cvs.length = cs.length := hc.length
    simp only [List.map_cons, Instr.fill, h1]
    rw [if_neg (by simp [hlen]; omega)]
    have hf := layC_fold off (a.eval y).cells.toList 0 cvs
    simp only [Nat.add_zero] at hf
    have hf' : ((a.eval y).cells.zipIdx.foldl (fun (cs : Array Value) (q : Value × Nat) => cs.setIfInBounds (off + q.2) q.1) ⟨cvs⟩) = ⟨layC cvs off (a.eval y).cells.toList⟩ := by
      rw [← hf, ← Array.foldl_toList, Array.toList_zipIdx]
    obtain ⟨out, g1, g2⟩ := fill_rel hS (cs := lay cs off (z.sv σ).cells) (cvs := layC cvs off (a.eval y).cells.toList) h3 hcd.2 (by rw [lay_length]; exact p4) (lay_rel hcl hc)
    refine ⟨out, ?_, g2⟩
    rw [← g1, ← hf']

/-- where the fields lie, and their sizes -/
def placesOf (P : Program) : List Field → Option (List (Nat × Nat))
  | [] => some []
  | f :: fs => match P.info? f.type, placesOf P fs with
    | some i, some r => some ((f.offset, i.size) :: r)
    | _, _ => none
theorem run_places {w : World} : ∀ {fs : List Field} {ps : List (Nat × Nat)}, placesOf P fs = some ps → (fs.mapM fun f => (Functor.map (Prod.mk f.offset) (sizeOf f.type) : Sem (Nat × Nat))).run P w = .ok ps w
  | [], ps, h => by simp only [placesOf, Option.some.injEq] at h; subst h; simp
  | f :: fs, ps, h => by
    simp only [placesOf] at h
    split at h
    · rename_i i r h1 h2
      injection h with h; subst h
      simp only [List.mapM_cons, Sem.run_bind]
      have e1 : (Functor.map (Prod.mk f.offset) (sizeOf f.type) : Sem (Nat × Nat)).run P w = .ok (f.offset, i.size) w := by simp [sizeOf, typeInfo, h1]
      simp only [e1, Result.andThen_ok, run_places h2, Sem.run_pure]
    · cases h

theorem q_mk {e : Env} {σ : St} {a : Act} (hS : SRel e σ x a) {t : TypeId} {parts : Array (Nat × Operand)} (ho : o.op = .build t parts) {fields : Array Field} (ht : P.underlying t = some (.struct fields))
    {i : TypeInfo} {zv : Value} (hi : P.info? t = some i) (hz : i.zero = some zv) {zero : List AV} (hzero : VRels x zero zv.cells.toList) {places : List (Nat × Nat)}
    (hpl : placesOf P fields.toList = some places) {qs : List (Nat × Nat × Opd)} (hq : PartsOK (fun i => places[i]?) parts.toList qs)
    (hcd : cds σ (qs.map (·.2.2)) = true) (hp : mkP σ zero.length qs) : QOK P x o a.eval (mkAggN (mkV σ qs zero)) := by
  obtain ⟨out, h1, h2⟩ := fill_rel hS hq hcd hp hzero
  refine ⟨.agg ⟨out⟩, mkAggN_rel h2, fun w' _ => ?_⟩
  have e1 : (parts.map fun q => (q.1, a.eval q.2)).toList = parts.toList.map fun q => (q.1, a.eval q.2) := by simp
  have h1' : Instr.fill (fun i => places[i]?) zv.cells (parts.toList.map fun q => (q.1, a.eval q.2)) = some ⟨out⟩ := h1
  have hm : (fields.mapM fun f => (Functor.map (Prod.mk f.offset) (sizeOf f.type) : Sem (Nat × Nat))).run P w' = .ok ⟨places⟩ w' := by
    have := run_places (w := w') hpl
    rw [show fields = fields.toList.toArray by simp, List.mapM_toArray]
    simp [this]
  simp only [execOp, ho, Instr.build, Sem.run_bind, zeroValue, typeInfo]
  simp [hi, hz, run_underlying ht, hm, h1']
theorem PartsOK.mono {p q : Nat → Option (Nat × Nat)} (h : ∀ i r, p i = some r → q i = some r) : ∀ {ps : List (Nat × Operand)} {qs : List (Nat × Nat × Opd)}, PartsOK p ps qs → PartsOK q ps qs
  | [], _, hp => by simpa only [PartsOK] using hp
  | (i, y) :: ps, _, hp => by
    simp only [PartsOK] at hp ⊢
    obtain ⟨off, n, z, r, e1, e2, e3, e4⟩ := hp
    exact ⟨off, n, z, r, e1, h _ _ e2, e3, PartsOK.mono h e4⟩
theorem q_mkA {e : Env} {σ : St} {a : Act} (hS : SRel e σ x a) {t ea : TypeId} {n : Nat} {parts : Array (Nat × Operand)} (ho : o.op = .build t parts) (ht : P.underlying t = some (.array n ea)) {i ie : TypeInfo} {zv : Value} (hi : P.info? t = some i) (hie : P.info? ea = some ie) (hz : i.zero = some zv)
    {zero : List AV} (hzero : VRels x zero zv.cells.toList) {qs : List (Nat × Nat × Opd)} (hq : PartsOK (fun i => ((List.range n).map fun j => (j * ie.size, ie.size))[i]?) parts.toList qs)
    (hcd : cds σ (qs.map (·.2.2)) = true) (hp : mkP σ zero.length qs) : QOK P x o a.eval (mkAggN (mkV σ qs zero)) := by
  have hq2 : PartsOK (fun i => some (i * ie.size, ie.size)) parts.toList qs := hq.mono fun j r hj => by
    simp only [List.getElem?_map, Option.map_eq_some_iff] at hj
    obtain ⟨m, hm, rfl⟩ := hj
    rw [List.getElem?_range] at hm
    · injection hm with hm; subst hm; rfl
    · apply Classical.byContradiction
      intro hno
      rw [List.getElem?_eq_none (by simpa using hno)] at hm
      cases hm
  obtain ⟨out, h1, h2⟩ := fill_rel hS hq2 hcd hp hzero
  refine ⟨.agg ⟨out⟩, mkAggN_rel h2, fun w' _ => ?_⟩
  have e1 : (parts.map fun q => (q.1, a.eval q.2)).toList = parts.toList.map fun q => (q.1, a.eval q.2) := by simp
  have h1' : Instr.fill (fun i => some (i * ie.size, ie.size)) zv.cells (parts.toList.map fun q => (q.1, a.eval q.2)) = some ⟨out⟩ := h1
  have e2 : (sizeOf ea).run P w' = .ok ie.size w' := by simp [sizeOf, typeInfo, hie]
  simp only [execOp, ho, Instr.build, Sem.run_bind, zeroValue, typeInfo]
  simp [hi, hz, run_underlying ht, e2, h1']
end
end Go.Vc

namespace Go.Vc
open Go.RowKit
section
variable {P : Program} {x : Cx} {o : Oper} {ev : Operand → Value}

/-! ### lists of operands -/
def opdsOf : List Operand → Option (List Opd)
  | [] => some []
  | y :: ys => match Opd.of y, opdsOf ys with
    | some z, some zs => some (z :: zs)
    | _, _ => none
theorem opds_rel {e : Env} {σ : St} {a : Act} (hS : SRel e σ x a) : ∀ {ys : List Operand} {zs : List Opd}, opdsOf ys = some zs → cds σ zs = true → VRels x (evs σ zs) (ys.map a.eval)
  | [], zs, h, _ => by simp only [opdsOf, Option.some.injEq] at h; subst h; simp [evs, VRels]
  | y :: ys, zs, h, hc => by
    simp only [opdsOf] at h
    split at h
    · rename_i z zs' h1 h2
      injection h with h; subst h
      simp only [cds, Bool.and_eq_true] at hc
      simp only [evs, List.map_cons, VRels]
      exact ⟨_, _, rfl, Opd.of_sv hS h1 hc.1, opds_rel hS h2 hc.2⟩
    · cases h

theorem q_clo {e : Env} {σ : St} {a : Act} (hS : SRel e σ x a) {f : FuncId} {captured : Array Operand} (ho : o.op = .makeFunc (.func f) #[] captured) {zs : List Opd} (hz : opdsOf captured.toList = some zs)
    (hc : cds σ zs = true) : QOK P x o a.eval (allPvs (evs σ zs) f) := by
  have h := opds_rel hS hz hc
  refine ⟨.func (.func f) #[] ⟨captured.toList.map a.eval⟩, ?_, fun w' _ => by simp [execOp, ho, Instr.makeFunc]; exact Array.toList_inj.1 (by simp)⟩
  unfold allPvs
  split
  · rename_i ps hp
    simp only [VRel, PRel]
    exact ⟨_, rfl, allPv_rel hp h⟩
  · simp only [VRel]
    exact ⟨_, rfl, h⟩

/-! ### cells and lists of values -/
theorem ACells.list {cs : List AV} {b o' : Nat} (h : ACells x cs b o') : ∃ vs, VRels x cs vs ∧ CellsAt x.w b o' vs := by
  obtain ⟨vs, _, h2, h3⟩ := h.cut 0 cs.length (by omega)
  exact ⟨vs, by simpa using h2, by simpa using h3⟩
theorem ACells.of : ∀ {cs : List AV} {vs : List Value} {b o' : Nat}, VRels x cs vs → CellsAt x.w b o' vs → ACells x cs b o'
  | [], _, _, _, _, _ => by simp only [ACells]
  | c :: cs, vs, b, o', h, hc => by
    simp only [VRels] at h
    obtain ⟨v, r, rfl, h1, h2⟩ := h
    simp only [ACells]
    refine ⟨⟨v, by simpa using hc 0 v rfl, h1⟩, ACells.of h2 fun j c' hj => ?_⟩
    have := hc (j + 1) c' (by simpa using hj)
    rw [← this]; congr 2; omega
theorem PCells.of {w : World} {F : Nat → Prop} : ∀ {cs : List PV} {vs : List Value} {b o' : Nat}, PRels w F cs vs → CellsAt w b o' vs → PCells w F cs b o'
  | [], _, _, _, _, _ => by simp only [PCells]
  | c :: cs, vs, b, o', h, hc => by
    simp only [PRels] at h
    obtain ⟨v, r, rfl, h1, h2⟩ := h
    simp only [PCells]
    refine ⟨⟨v, by simpa using hc 0 v rfl, h1⟩, PCells.of h2 fun j c' hj => ?_⟩
    have := hc (j + 1) c' (by simpa using hj)
    rw [← this]; congr 2; omega

theorem CellsAt.left {w : World} {b o' : Nat} {u v : List Value} (h : CellsAt w b o' (u ++ v)) : CellsAt w b o' u := fun j c hj => h j c (by
  have := (List.getElem?_eq_some_iff.1 hj).1
  rw [List.getElem?_append_left this]; exact hj)
theorem CellsAt.right {w : World} {b o' : Nat} {u v : List Value} (h : CellsAt w b o' (u ++ v)) : CellsAt w b (o' + u.length) v := fun j c hj => by
  have := h (u.length + j) c (by rw [List.getElem?_append_right (by omega)]; simpa using hj)
  rw [← this]; congr 2; omega
theorem CellsAt.of_heap {w : World} {b : Nat} {cs : List Value} {t : TypeId} {fz : Nat × Nat} (h : w.heap[b]? = some (.cells ⟨cs⟩ t fz)) : CellsAt w b 0 cs := fun j c hj => by
  simp only [World.cell?, h, Nat.zero_add]
  simpa using hj
theorem CellsAt.off {w : World} {b o' k : Nat} {cs : List Value} (h : CellsAt w b o' cs) : CellsAt w b (o' + k) (cs.drop k) := fun j c hj => by
  have := h (k + j) c (by simpa using hj)
  rw [← this]; congr 2; omega

def Value.allCells : List Value → List Value
  | [] => []
  | v :: vs => v.cells.toList ++ Value.allCells vs

theorem AElems.of : ∀ {vs : List AV} {cvs : List Value} {b o' : Nat}, VRels x vs cvs → (∀ v ∈ vs, okc v = true) → CellsAt x.w b o' (Value.allCells cvs) → AElems x vs b o'
  | [], _, _, _, _, _, _ => by simp only [AElems]
  | v :: vs, _, b, o', h, ho, hc => by
    simp only [VRels] at h
    obtain ⟨c, r, rfl, h1, h2⟩ := h
    simp only [Value.allCells] at hc
    have hcr := cells_rel h1 (ho v (by simp))
    have hl := hcr.length
    have rest := AElems.of h2 (fun u hu => ho u (List.mem_cons_of_mem _ hu)) hc.right
    rw [hl] at rest
    have h0 := ACells.of hcr hc.left
    by_cases g1 : ∃ cs, v = .agg cs
    · obtain ⟨cs, rfl⟩ := g1
      simp only [AElems]; exact ⟨h0, rest⟩
    by_cases g2 : ∃ cs, v = .pv (.agg cs)
    · obtain ⟨cs, rfl⟩ := g2
      simp only [AElems]
      simp only [VRel, PRel] at h1
      obtain ⟨us, rfl, h1⟩ := h1
      refine ⟨PCells.of h1 hc.left, ?_⟩
      simpa [AV.cells, PV.cells] using rest
    have e : v.cells = [v] := by
      cases v with
      | agg cs => exact absurd ⟨cs, rfl⟩ g1
      | pv p =>
        cases p with
        | agg cs => exact absurd ⟨cs, rfl⟩ g2
        | _ => rfl
      | _ => rfl
    rw [e] at h0 rest
    rw [AElems_one (fun cs e => g1 ⟨cs, e⟩) (fun cs e => g2 ⟨cs, e⟩)]
    simp only [ACells, and_true] at h0
    exact ⟨h0, by simpa using rest⟩

theorem AElems.pure : ∀ {vs : List AV} {ps : List PV} {b o' : Nat}, allPv vs = some ps → AElems x vs b o' → PElems x.w x.F ps b o'
  | [], ps, _, _, h, _ => by simp only [allPv, Option.some.injEq] at h; subst h; simp only [PElems]
  | v :: vs, ps, b, o', h, hA => by
    cases v with
    | pv p =>
      simp only [allPv] at h
      split at h
      · rename_i qs hq
        injection h with h; subst h
        cases p with
        | agg cs => simp only [AElems] at hA; simp only [PElems]; exact ⟨hA.1, AElems.pure hq hA.2⟩
        | _ => simp only [AElems] at hA; simp only [PElems]; exact ⟨by simpa only [VRel] using hA.1, AElems.pure hq hA.2⟩
      · cases h
    | e0 =>
      simp only [allPv] at h
      split at h
      · rename_i qs hq
        injection h with h; subst h
        simp only [AElems] at hA
        simp only [PElems]
        obtain ⟨⟨c, h1, h2⟩, h3⟩ := hA
        simp only [VRel] at h2
        obtain ⟨ad, rfl⟩ := h2
        exact ⟨⟨_, h1, by simp only [PRel]; exact ⟨ad, 0, 0, rfl, rfl, Nat.le_refl _, fun hn => absurd hn (by omega)⟩⟩, AElems.pure hq h3⟩
      · cases h
    | _ => simp [allPv] at h

/-- 'composite literal of a slice': the parts one behind the other -/
theorem layC_append : ∀ (c pre rest : List Value), c.length ≤ rest.length → layC (pre ++ rest) pre.length c = pre ++ c ++ rest.drop c.length
  | [], pre, rest, _ => by simp [layC]
  | v :: c, pre, [], h => by simp at h
  | v :: c, pre, u :: rest, h => by
    simp only [layC]
    have e : (pre ++ u :: rest).set pre.length v = (pre ++ [v]) ++ rest := by simp
    have := layC_append c (pre ++ [v]) rest (by simpa using h)
    rw [e]
    simp only [List.length_append, List.length_cons, List.length_nil, Nat.zero_add] at this
    rw [this]; simp

theorem fill_slice {s : Nat} : ∀ (vs : List Value) (j : Nat) (pre rest : List Value), pre.length = j * s → rest.length = vs.length * s → (∀ v ∈ vs, v.cells.size = s) →
    Instr.fill (fun i => some (i * s, s)) ⟨pre ++ rest⟩ ((vs.zipIdx j).map fun q => (q.2, q.1)) = some ⟨pre ++ Value.allCells vs⟩
  | [], j, pre, rest, _, hr, _ => by
    have : rest = [] := List.eq_nil_of_length_eq_zero (by simpa using hr)
    subst this
    simp [Instr.fill, Value.allCells]
  | v :: vs, j, pre, rest, hp, hr, hs => by
    have h1 := hs v (by simp)
    have h2 : (vs.length + 1) * s = vs.length * s + s := Nat.succ_mul _ _
    simp only [List.length_cons] at hr
    simp only [List.zipIdx_cons, List.map_cons, Instr.fill]
    rw [if_neg (by simp [h1, hp]; omega)]
    have hf := layC_fold (j * s) v.cells.toList 0 (pre ++ rest)
    simp only [Nat.add_zero] at hf
    have hf' : (v.cells.zipIdx.foldl (fun (cs : Array Value) (q : Value × Nat) => cs.setIfInBounds (j * s + q.2) q.1) ⟨pre ++ rest⟩) = ⟨layC (pre ++ rest) (j * s) v.cells.toList⟩ := by
      rw [← hf, ← Array.foldl_toList, Array.toList_zipIdx]
    have hl : v.cells.toList.length = s := by simpa using h1
    rw [hf', ← hp, layC_append _ _ _ (by rw [hl]; omega), hl]
    have := fill_slice vs (j + 1) (pre ++ v.cells.toList) (rest.drop s) (by simp [hp, h1, Nat.succ_mul]) (by simp; omega) (fun u hu => hs u (List.mem_cons_of_mem _ hu))
    rw [this]
    simp [Value.allCells]

theorem allCells_length {s : Nat} : ∀ (vs : List Value), (∀ v ∈ vs, v.cells.size = s) → (Value.allCells vs).length = vs.length * s
  | [], _ => by simp [Value.allCells]
  | v :: vs, h => by
    have h1 := h v (by simp)
    simp only [Value.allCells, List.length_append, allCells_length vs fun u hu => h u (List.mem_cons_of_mem _ hu), List.length_cons, Nat.succ_mul]
    simp [h1]; omega

theorem run_buildSlice {w : World} {t et : TypeId} {i : TypeInfo} {zv : Value} (ht : P.underlying t = some (.slice et)) (hi : P.info? et = some i) (hz : i.zero = some zv) (hs : 0 < i.size) (vs : List Value)
    (hv : ∀ v ∈ vs, v.cells.size = i.size) (hn : vs.length * i.size ≤ 16777216) :
    (Instr.buildSlice t vs.length ((vs.zipIdx).map fun q => (q.2, q.1)).toArray).run P w = .ok (.slice (some ⟨w.heap.size, 0, none⟩) vs.length vs.length) (w.alloc (.cells ⟨Value.allCells vs⟩ et)) := by
  have hlen : ∀ zero : Array Value, ((Array.range (vs.length * i.size)).map (fun k => zero[k % zero.size]!)).toList.length = vs.length * i.size := by intro zero; simp
  have hfill : ∀ c : Array Value, c.toList.length = vs.length * i.size → Instr.fill (fun k => some (k * i.size, i.size)) c ((vs.zipIdx).map fun q => (q.2, q.1)) = some ⟨Value.allCells vs⟩ := fun c hc => by
    have := fill_slice (s := i.size) vs 0 [] c.toList (by simp) hc hv
    simpa using this
  simp only [Instr.buildSlice, Sem.run_bind, run_underlying ht, Result.andThen_ok, sizeOf, typeInfo]
  by_cases h0 : vs.length * i.size = 0
  · have : vs = [] := by
      rcases Nat.mul_eq_zero.1 h0 with h | h
      · exact List.eq_nil_of_length_eq_zero h
      · omega
    subst this
    simp [hi, Instr.fill, Value.allCells, newRow, newObj, Sem.run]
    congr 2
    exact Array.eq_empty_of_size_eq_zero (by simp)
  · have hgt : ¬ (2 ^ 24 < vs.length * i.size) := by omega
    simp [hi, hgt, h0, zeroValue, typeInfo, hz, hfill, newRow, newObj, Sem.run]

/-! ### structs compared; the lesser, the greater -/
def fieldKinds (P : Program) : Nat → List Field → Option (List Nat)
  | _, [] => some []
  | i, f :: fs => if f.name ≠ "_" ∧ f.offset = i then match P.underlying f.type, fieldKinds P (i + 1) fs with
      | some (.int _), some r => some (0 :: r)
      | some .string, some r => some (1 :: r)
      | some .bool, some r => some (2 :: r)
      | _, _ => none
    else none

theorem run_part_one {w : World} {t : TypeId} {d : TypeDesc} (ht : P.underlying t = some d) (ha : aggOf P t = false) {cs : Array Value} {i : Nat} {v : Value} (hv : cs[i]? = some v) : (part t cs i).run P w = .ok v w := by
  simp [part, run_isAgg ht, ha, hv]

theorem sameP_nil {ps qs : List PV} (h : sameP [] ps qs) : ps = [] ∧ qs = [] := by
  unfold sameP at h; split at h <;> simp_all
theorem sameP_0 {r : List Nat} {ps qs : List PV} (h : sameP (0 :: r) ps qs) : ∃ k a ps' b qs', ps = .sc (.int k a) :: ps' ∧ qs = .sc (.int k b) :: qs' ∧ sameP r ps' qs' := by
  unfold sameP at h; split at h <;> first | exact h.elim | (obtain ⟨rfl, h⟩ := h; injections; subst_vars; exact ⟨_, _, _, _, _, rfl, rfl, h⟩) | simp_all
theorem sameP_1 {r : List Nat} {ps qs : List PV} (h : sameP (1 :: r) ps qs) : ∃ a ps' b qs', ps = .sc (.string a) :: ps' ∧ qs = .sc (.string b) :: qs' ∧ sameP r ps' qs' := by
  unfold sameP at h; split at h <;> first | exact h.elim | (injections; subst_vars; exact ⟨_, _, _, _, rfl, rfl, h⟩) | simp_all
theorem sameP_2 {r : List Nat} {ps qs : List PV} (h : sameP (2 :: r) ps qs) : ∃ a ps' b qs', ps = .sc (.bool a) :: ps' ∧ qs = .sc (.bool b) :: qs' ∧ sameP r ps' qs' := by
  unfold sameP at h; split at h <;> first | exact h.elim | (injections; subst_vars; exact ⟨_, _, _, _, rfl, rfl, h⟩) | simp_all

theorem run_eqFields {w : World} {W : World} {F : Nat → Prop} (n : Nat) : ∀ (fs : List Field) (i : Nat) (ks : List Nat) (ps qs : List PV) (us vs us0 vs0 : List Value), fieldKinds P i fs = some ks → sameP ks ps qs → PRels W F ps us → PRels W F qs vs →
    us0.length = i → vs0.length = i → (Op.eqFields (n + 1) ⟨us0 ++ us⟩ ⟨vs0 ++ vs⟩ fs).run P w = .ok (sameV ps qs) w
  | [], i, ks, ps, qs, us, vs, us0, vs0, hk, hs, _, _, _, _ => by
    simp only [fieldKinds, Option.some.injEq] at hk
    subst hk
    obtain ⟨rfl, rfl⟩ := sameP_nil hs
    simp [Op.eqFields, sameV]
  | f :: fs, i, ks, ps, qs, us, vs, us0, vs0, hk, hs, hu, hv, hl, hl' => by
    simp only [fieldKinds] at hk
    split at hk
    · rename_i hf
      have step : ∀ {d : TypeDesc} {r : List Nat} {p q : PV} {ps' qs' : List PV} (b : Bool), P.underlying f.type = some d → aggOf P f.type = false → fieldKinds P (i + 1) fs = some r →
          ps = p :: ps' → qs = q :: qs' → sameP r ps' qs' → (∀ u v, PRel W F p u → PRel W F q v → (Op.equalIn (n + 1) f.type u v).run P w = .ok b w) → sameV ps qs = (b && sameV ps' qs') →
          (Op.eqFields (n + 1) ⟨us0 ++ us⟩ ⟨vs0 ++ vs⟩ (f :: fs)).run P w = .ok (sameV ps qs) w := by
        intro d r p q ps' qs' b hd ha hr hps hqs hsr heq hval
        subst hps; subst hqs
        simp only [PRels] at hu hv
        obtain ⟨u, ur, rfl, hu1, hu2⟩ := hu
        obtain ⟨v, vr, rfl, hv1, hv2⟩ := hv
        have ih := run_eqFields (w := w) n fs (i + 1) r ps' qs' ur vr (us0 ++ [u]) (vs0 ++ [v]) hr hsr hu2 hv2 (by simp [hl]) (by simp [hl'])
        have e1 : (part f.type ⟨us0 ++ u :: ur⟩ f.offset).run P w = .ok u w := run_part_one hd ha (by rw [hf.2, ← hl]; simp)
        have e2 : (part f.type ⟨vs0 ++ v :: vr⟩ f.offset).run P w = .ok v w := run_part_one hd ha (by rw [hf.2, ← hl']; simp)
        simp only [Op.eqFields, hf.1, ne_eq, not_false_eq_true, if_true, Sem.run_bind, e1, e2, Result.andThen_ok, heq u v hu1 hv1]
        rw [hval]
        cases b
        · simp
        · simpa using ih
      split at hk
      · rename_i k r hd hr
        injection hk with hk; subst hk
        obtain ⟨ka, a, ps', b, qs', h2, h3, hs'⟩ := sameP_0 hs
        refine step (decide (a = b)) hd (by simp [aggOf, hd]) hr h2 h3 hs' (fun u v hu hv => ?_) (by rw [h2, h3]; rfl)
        simp only [PRel] at hu hv
        subst hu; subst hv
        rw [run_equalIn_int w n f.type ka k a b hd]
        rfl
      · rename_i r hd hr
        injection hk with hk; subst hk
        obtain ⟨a, ps', b, qs', h2, h3, hs'⟩ := sameP_1 hs
        refine step (decide (a = b)) hd (by simp [aggOf, hd]) hr h2 h3 hs' (fun u v hu hv => ?_) (by rw [h2, h3]; rfl)
        simp only [PRel] at hu hv
        subst hu; subst hv
        rw [run_equalIn_string w n f.type a b hd]
        simp [toList_eq]
      · rename_i r hd hr
        injection hk with hk; subst hk
        obtain ⟨a, ps', b, qs', h2, h3, hs'⟩ := sameP_2 hs
        refine step (decide (a = b)) hd (by simp [aggOf, hd]) hr h2 h3 hs' (fun u v hu hv => ?_) (by rw [h2, h3]; rfl)
        simp only [PRel] at hu hv
        subst hu; subst hv
        rw [run_equalIn_bool' w n f.type a b hd]
        cases a <;> cases b <;> rfl
      · cases hk
    · cases hk

theorem q_seq {neg : Bool} {t t' : TypeId} {y z : Operand} (ho : o.op = .binOp (if neg then .neq else .eql) t y z t') {fields : Array Field} (ht : P.underlying t = some (.struct fields)) {ks : List Nat}
    (hk : fieldKinds P 0 fields.toList = some ks) (h1 : P.stoodInHeld t = false) (h2 : P.eqGuardType P.depth t = false) {u v : AV} (hy : VRel x u (ev y)) (hz : VRel x v (ev z)) (hp : seqP ks u v) : QOK P x o ev (seqV neg u v) := by
  unfold seqP at hp
  split at hp
  · rename_i ps qs
    simp only [VRel, PRel] at hy hz
    obtain ⟨us, hy, hu⟩ := hy
    obtain ⟨vs, hz, hv⟩ := hz
    have hf : P.underlying t = some (.struct (P.fieldsOf t)) := by simp [Program.fieldsOf, ht]
    have he : ∀ w' : World, (Op.equalIn 10000 t (.agg ⟨us⟩) (.agg ⟨vs⟩)).run P w' = .ok (sameV ps qs) w' := fun w' => by
      rw [run_equalIn_struct w' 9999 t _ _ hf h1]
      have hf' : P.fieldsOf t = fields := by simp [Program.fieldsOf, ht]
      rw [hf']
      exact run_eqFields 9998 fields.toList 0 ks ps qs us vs [] [] hk hp hu hv rfl rfl
    cases neg
    · exact QOK.sc rfl fun w' => by
        simp only [execOp, ho, hy, hz, Bool.false_eq_true, if_false, Sem.run_bind, run_eqGuard_agg w' .eql t y z _ _ h2, run_eql_struct, he, Result.andThen_ok]
        simp
    · exact QOK.sc rfl fun w' => by
        simp only [execOp, ho, hy, hz, if_true, Sem.run_bind, run_eqGuard_agg w' .neq t y z _ _ h2, run_neq_struct, he, Result.andThen_ok]
        simp
  · exact hp.elim

theorem q_mm {mx : Bool} {y z : Operand} {ts : Array TypeId} (ho : o.op = .call { callee := .builtin (if mx then .max else .min), args := #[y, z], argTypes := ts }) {u v : AV} (hy : VRel x u (ev y)) (hz : VRel x v (ev z)) (hp : mmP u v) :
    QOK P x o ev (mmV mx u v) := by
  unfold mmP at hp
  split at hp
  · rename_i k a k' b
    simp only [VRel, PRel] at hy hz
    cases mx
    · exact QOK.sc rfl fun w' => by simp [execOp, ho, hy, hz, resolve, invoke, builtin, run_min_int2]
    · exact QOK.sc rfl fun w' => by simp [execOp, ho, hy, hz, resolve, invoke, builtin, run_max_int2]
  · exact hp.elim
end
end Go.Vc
