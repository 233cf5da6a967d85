/- A part of the proofs of the seat YtmgbbmhljopepaaGreatDoor: the layer that turns the code of a function into what is to be shown (verification conditions), proved sound. -/
import Derived.Test.YtmgbbmhljopepaaGreatDoorVd
import Derived.Sort.Row
import Derived.Sort.Grow
import Derived.Sort.EncStr
namespace Go.Vc
open Go.RowKit Go.Sort
set_option linter.unusedSimpArgs false
set_option linter.unusedVariables false
set_option linter.constructorNameAsVariable false
section
variable {P : Program} {α : Type} [Inhabited α] {pv : α → PV} {enc : α → Value}
omit [Inhabited α] in
theorem rels_one {w : World} {F : Nat → Prop} (he : ∀ x, pv x = .sc (enc x)) : ∀ {d : List α} {vs : List Value}, PRels w F (d.map pv) vs ↔ vs = d.map enc
 | [], vs => by simp [PRels]
 | x :: d, vs => by
  simp only [List.map_cons, PRels, he, PRel]
  constructor
  ·rintro ⟨v, r, rfl, rfl, h⟩
   rw [(rels_one he).1 h]
  ·rintro rfl
   exact ⟨_, _, rfl, rfl, (rels_one he).2 rfl⟩
omit [Inhabited α] in
theorem flat_1 (he : ∀ x, pv x = .sc (enc x)) : ∀ d : List α, flat (d.map pv) = d.map pv
 | [] => rfl
 | x :: d => by simp only [List.map_cons, flat, flat_1 he d, he, PV.cells]; rfl
theorem fnS_sort1 {f : FuncId} (hent : ∀ args w, (callFunc f args).run P w = .ok (.enter f args) w) (he : ∀ x, pv x = .sc (enc x)) (h1 : ∀ x, (enc x).oneCell' = true) (srt : List α → List α) (hsl : ∀ d, (srt d).length = d.length) (hs0 : srt [] = [])
  (hC : ∀ (blk off cap : Nat) (zs : List α) (w : World), Holds enc w blk off zs.toArray → blk < w.heap.size → zs.length < 4611686018427387904 →
   Calls P f #[.slice (some ⟨blk, off, none⟩) zs.length cap] w fun e w' => e = .returned (.tuple #[]) ∧ ∃ n os, w' = grow (putRow enc (Sort.ahead w n) blk off (srt zs).toArray) os)
  (hN : ∀ (p : Option Addr) (cap : Nat) (w : World), Calls P f #[.slice p 0 cap] w fun e w' => e = .returned (.tuple #[]) ∧ w' = w)
  (d : List α) (hd : d.length < 1000000) (nm : Nat) : FnS P f [.row nm 0 d.length] [(nm, .sl 1 (d.map pv))] (.tup []) [(nm, .sl 1 ((srt d).map pv))] := by
 have hwf : ∀ d : List α, WfL 1 (d.map pv) := fun d p hp => by
  obtain ⟨x, _, rfl⟩ := List.mem_map.1 hp
  rw [he]
  refine ⟨rfl, fun c hc => ?_⟩
  simp only [PV.cells, List.mem_singleton] at hc
  subst hc
  exact h1 x
 refine ⟨hent, fun x vs hlt htb hlent hv => ?_⟩
 simp only [VRels] at hv
 obtain ⟨u, r, rfl, hu, rfl⟩ := hv
 have hrow := hlent.st nm (.sl 1 (d.map pv)) (by simp)
 have own0 : ∀ {b : Nat} {row : Row}, Own [(nm, row)] x.ρ b ↔ (x.ρ nm).ok = true ∧ (x.ρ nm).blk = b := fun {b row} => by
  constructor
  ·rintro ⟨r, w, h1, h2, h3⟩
   simp only [List.mem_singleton, Prod.mk.injEq] at h1
   obtain ⟨rfl, _⟩ := h1
   exact ⟨h2, h3⟩
  ·exact fun h => ⟨nm, row, by simp, h.1, h.2⟩
 have fin : ∀ {w' : World} {row' : Row}, BelowL (Own [(nm, Row.sl 1 (d.map pv))] x.ρ) x.w w' → row'.rel ⟨w', x.F, x.ρ⟩ (x.ρ nm) → ResS x [(nm, .sl 1 (d.map pv))] ⟨w', x.F, x.ρ⟩ (.tup []) [(nm, row')] (.tuple #[]) := fun {w' row'} hb hr => {
  below := hb
  val := by simp only [VRel, VRels]; exact ⟨[], rfl, rfl⟩
  st := fun r row hm => by
   simp only [List.mem_singleton, Prod.mk.injEq] at hm
   obtain ⟨rfl, rfl⟩ := hm
   exact hr
  keys := by simp
  inj := fun r row r' row' hm hm' hne => by
   simp only [List.mem_singleton, Prod.mk.injEq] at hm hm'
   exact absurd (hm.1.trans hm'.1.symm) hne
  own := fun r row hm hok => by
   simp only [List.mem_singleton, Prod.mk.injEq] at hm
   obtain ⟨rfl, _⟩ := hm
   exact .inr (own0.2 ⟨hok, rfl⟩)
  F := fun b => by
   rw [own0, own0]
   by_cases h : (x.ρ nm).ok = true ∧ (x.ρ nm).blk = b
   ·refine ⟨fun _ => .inr h, fun _ => ?_⟩
    rw [← h.2]; exact hlent.F nm (.sl 1 (d.map pv)) (by simp) h.1
   ·exact ⟨fun hF => .inl ⟨hF, h⟩, fun hF => hF.elim (·.1) fun h' => absurd h' h⟩
  stay := fun _ _ => rfl }
 have none_ : ∀ (p : Option Addr) (cap : Nat), u = .slice p 0 cap → d = [] → Calls P f ⟨[u]⟩ x.w fun en w' => ∃ cv y, en = .returned cv ∧ y.w = w' ∧ ResS x [(nm, .sl 1 (d.map pv))] y (.tup []) [(nm, .sl 1 ((srt d).map pv))] cv := by
  intro p cap hu0 hd0
  subst hd0; subst hu0
  refine (hN p cap x.w).mono fun en w' ⟨e1, e2⟩ => ?_
  subst e1; subst e2
  exact ⟨_, ⟨x.w, x.F, x.ρ⟩, rfl, rfl, fin (BelowL.refl _ _) (by rw [hs0]; exact hrow)⟩
 simp only [VRel] at hu
 simp only [Row.rel] at hrow
 rcases hu with ⟨hn, _, ad, e1⟩ | ⟨c, hok, e1, hnc, hcap, hlen⟩
 ·have : d = [] := List.eq_nil_of_length_eq_zero hn
  exact none_ ad 0 (by rw [e1]) this
 rcases hrow with ⟨h0, _⟩ | ⟨hls, _, ⟨hln, hxc⟩, hwfd, ⟨⟨arr⟩, tb, hh, harr, hao⟩, hE⟩
 ·rw [h0] at hok; cases hok
 have hlenk : (d.map pv).length = d.length := List.length_map _
 rw [hls] at harr
 have hbase : (x.ρ nm).base + 0 * (x.ρ nm).s = (x.ρ nm).base := by omega
 rw [hbase] at e1
 have hblk : (x.ρ nm).blk < x.w.heap.size := (Array.getElem?_eq_some_iff.1 hh).1
 have hcells : CellsAt x.w (x.ρ nm).blk (x.ρ nm).base (d.map enc) := by
  rw [PElems.flat_iff, flat_1 he] at hE
  obtain ⟨cvs, k1, k2⟩ := hE.list
  rw [(rels_one he).1 k1] at k2
  exact k2
 have gets : ∀ (D : List α) (j : Nat), j < D.length → (D.map enc)[j]? = some (enc D.toArray[j]!) := fun D j hj => by
  rw [List.getElem?_map, List.getElem?_eq_getElem hj]
  simp [getElem!_pos, hj]
 have hH : Holds enc x.w (x.ρ nm).blk (x.ρ nm).base d.toArray := fun j hj => by
  have hj' : j < d.length := by simpa using hj
  exact ⟨hcells j _ (gets d j hj'), by simp [World.frozen?, hh]⟩
 rw [e1]
 have hS := hC (x.ρ nm).blk (x.ρ nm).base c d x.w hH hblk (by omega)
 refine hS.mono fun en w' ⟨e2, n, os, e3⟩ => ?_
 subst e2
 obtain ⟨D, hD⟩ : ∃ D : List α, D = srt d := ⟨_, rfl⟩
 have hDl : D.length = d.length := by rw [hD]; exact hsl d
 rw [← hD] at e3 ⊢
 have heap0 : (putRow enc (Sort.ahead x.w n) (x.ρ nm).blk (x.ρ nm).base D.toArray).heap = x.w.heap.modify (x.ρ nm).blk (onCells (putCells enc (x.ρ nm).base D.toArray)) := rfl
 have hsz0 : (putRow enc (Sort.ahead x.w n) (x.ρ nm).blk (x.ρ nm).base D.toArray).heap.size = x.w.heap.size := by rw [heap0]; simp
 have hheap : ∀ b, b < x.w.heap.size → w'.heap[b]? = (x.w.heap.modify (x.ρ nm).blk (onCells (putCells enc (x.ρ nm).base D.toArray)))[b]? := fun b hb => by
  rw [e3]
  unfold grow
  simp only
  rw [Array.getElem?_append_left (by rw [hsz0]; exact hb), heap0]
 have hat : w'.heap[(x.ρ nm).blk]? = some (.cells (putCells enc (x.ρ nm).base D.toArray ⟨arr⟩) tb (0, 0)) := by
  rw [hheap _ hblk, Array.getElem?_modify, if_pos rfl, hh]
  rfl
 have hcells' : CellsAt w' (x.ρ nm).blk (x.ρ nm).base (D.map enc) := fun j v hj => by
  have hj' : j < D.length := by simpa using (List.getElem?_eq_some_iff.1 hj).1
  have h2 : Holds enc w' (x.ρ nm).blk (x.ρ nm).base D.toArray := by
   rw [e3]
   exact holds_grow _ _ _ _ _ _ (by rw [hsz0]; exact hblk) (holds_putRow _ _ _ _ d.toArray _ (fun j hj => hH j hj) (by simpa using hDl))
  rw [(h2 j (by simpa using hj')).1]
  rw [gets D j hj'] at hj
  exact hj
 refine ⟨_, ⟨w', x.F, x.ρ⟩, rfl, rfl, fin ?_ ?_⟩
 ·refine ⟨by rw [e3]; rfl, by rw [e3]; rfl, by rw [e3]; rfl, ?_, fun b hb hL => ?_, ?_⟩
  ·rw [e3]; unfold grow; simp only [Array.size_append, hsz0]; omega
  ·rw [hheap b hb, Array.getElem?_modify, if_neg]
   intro hbe
   exact hL (own0.2 ⟨hok, hbe⟩)
  ·rw [e3]
   show x.w.drawn ≤ x.w.drawn + n
   omega
 ·simp only [Row.rel]
  refine .inr ⟨hls, hok, ⟨by rw [List.length_map, hDl]; rw [hlenk] at hln; exact hln, by rw [List.length_map, hDl]; rw [hlenk] at hxc; exact hxc⟩, hwf D, ⟨_, tb, hat, ?_, ?_⟩, ?_⟩
  ·rw [hls]
   simp only [putCells, Array.size_mapIdx]
   simpa using harr
  ·intro cc hcc
   simp only [putCells, Array.toList_mapIdx, List.mem_mapIdx] at hcc
   obtain ⟨i, hi, rfl⟩ := hcc
   split
   ·exact h1 _
   ·exact hao _ (List.getElem_mem hi)
  ·rw [PElems.flat_iff, flat_1 he]
   exact PCells.of ((rels_one he).2 rfl) hcells'
end
end Go.Vc
