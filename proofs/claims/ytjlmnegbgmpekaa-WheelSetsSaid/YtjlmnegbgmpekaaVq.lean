/- A part of the proofs of the seat Ytjlmnegbgmpekaa: the layer that turns the code of a function into what is to be shown (verification conditions), proved sound. -/
import Derived.Test.YtjlmnegbgmpekaaVd
import Derived.Shelf.SlSortCmp.NoneTotal
namespace Go.Vc
open Go.RowKit Go.Proofs Go.Shelf Go.Lib Go.Sort
set_option linter.unusedSimpArgs false
set_option linter.unusedVariables false
set_option linter.constructorNameAsVariable false

/-! ## 'slices.SortFunc', out of the shelf -/
theorem below_grow {w w' : World} (h : Go.Vc.Below w.heap.size w w') : ∃ q os', w' = grow (w.drewN q) os' := by
  refine ⟨w'.drawn - w.drawn, w'.heap.extract w.heap.size w'.heap.size, ?_⟩
  obtain ⟨h1, h2, h3, h4, h5, h6⟩ := h
  have e1 : w.drawn + (w'.drawn - w.drawn) = w'.drawn := by omega
  have e2 : w.heap ++ w'.heap.extract w.heap.size w'.heap.size = w'.heap := by
    apply Array.ext_getElem?
    intro k
    rw [Array.getElem?_append]
    by_cases hk : k < w.heap.size
    · rw [if_pos hk]; exact (h5 k hk).symm
    · rw [if_neg hk, Array.getElem?_extract]
      by_cases hk2 : k < w'.heap.size
      · rw [if_pos (by omega)]; congr 1; omega
      · rw [if_neg (by omega), Array.getElem?_eq_none (by omega)]
  cases w; cases w'
  simp only [grow, World.drewN] at *
  subst h1; subst h2; subst h3
  simp [e1, e2]
section
variable {P : Program} {α : Type} [Inhabited α] {pv : α → PV} {enc : α → List Value} {k : Nat}

omit [Inhabited α] in
theorem flat_enc (he : ∀ x, pv x = .agg ((enc x).map .sc)) : ∀ d : List α, flat (d.map pv) = (d.flatMap enc).map .sc
  | [] => rfl
  | x :: d => by simp only [List.map_cons, flat, he, PV.cells, flat_enc he d, List.flatMap_cons, List.map_append]
theorem rels_sc_eq {w : World} {F : Nat → Prop} : ∀ {L : List Value} {vs : List Value}, PRels w F (L.map .sc) vs → vs = L
  | [], _, h => by simpa [PRels] using h
  | v :: L, _, h => by
    simp only [List.map_cons, PRels, PRel] at h
    obtain ⟨u, r, rfl, rfl, h⟩ := h
    rw [rels_sc_eq h]
theorem flatMap_get (hk : ∀ x, (enc x).length = k) (hk0 : 0 < k) : ∀ (d : List α) (j : Nat), j < d.length * k → (d.flatMap enc)[j]? = (enc (d.toArray[j / k]!))[j % k]?
  | [], j, h => by simp at h
  | x :: d, j, h => by
    rw [List.flatMap_cons]
    by_cases hj : j < k
    · rw [List.getElem?_append_left (by rw [hk]; exact hj), Nat.div_eq_of_lt hj, Nat.mod_eq_of_lt hj]
      rfl
    · rw [List.getElem?_append_right (by rw [hk]; omega), hk]
      have h' : j - k < d.length * k := by rw [List.length_cons, Nat.succ_mul] at h; omega
      rw [flatMap_get hk hk0 d (j - k) h']
      have e1 : j / k = (j - k) / k + 1 := by
        have : j = (j - k) + k := by omega
        conv => lhs; rw [this]
        exact Nat.add_div_right _ hk0
      have e2 : j % k = (j - k) % k := by
        have : j = (j - k) + k := by omega
        conv => lhs; rw [this]
        exact Nat.add_mod_right _ _
      rw [e1, e2]
      congr 2
      simp [List.getElem!_eq_getElem?_getD]
omit [Inhabited α] in
theorem flatMap_len (hk : ∀ x, (enc x).length = k) : ∀ d : List α, (d.flatMap enc).length = d.length * k
  | [] => by simp
  | x :: d => by rw [List.flatMap_cons, List.length_append, hk, flatMap_len hk d, List.length_cons, Nat.succ_mul]; omega
theorem flatK_at (hk : ∀ x, (enc x).length = k) (hk0 : 0 < k) (d : List α) (j : Nat) (h : j < d.length * k) : (d.flatMap enc)[j]? = some (flatK enc k d.toArray)[j]! := by
  rw [flatMap_get hk hk0 d j h, get_flatK enc k d.toArray j (by simpa using h)]
  have hm : j % k < (enc d.toArray[j / k]!).length := by rw [hk]; exact Nat.mod_lt _ hk0
  rw [List.getElem?_eq_getElem hm]
  congr 1
  exact (getElem!_pos (enc d.toArray[j / k]!) (j % k) hm).symm

theorem fnS_sort {ρ : Ren} (L : SlLaysF0.n6 P ρ) (aE : ∀ w, (isAgg (ρ.t 24)).run P w = .ok true w) (zE : ∀ w, (Go.sizeOf (ρ.t 24)).run P w = .ok k w) (hk0 : 0 < k) (he : ∀ x, pv x = .agg ((enc x).map .sc)) (hk : ∀ x, (enc x).length = k)
    (h1 : ∀ x, ∀ v ∈ enc x, v.oneCell' = true) (cf : α → α → Int) (hO : SWO (ltOf cf)) (hT : ∀ x y, (ltOf cf) x y = false → (ltOf cf) y x = false → x = y) {g : FuncId} (hg : ∀ x y, Fn P g [pv x, pv y] (.pv (.sc (.int .i64 (cf x y)))) [])
    (d : List α) (hd : d.length < 1000000) (nm : Nat) : FnS P (ρ.f 6) [.row nm 0 d.length, .fn g []] [(nm, .sl k (d.map pv))] (.tup []) [(nm, .sl k ((d.mergeSort fun x y => !(ltOf cf) y x).map pv))] := by
  have hwf : ∀ d : List α, WfL k (d.map pv) := fun d p hp => by
    obtain ⟨x, _, rfl⟩ := List.mem_map.1 hp
    rw [he]
    simp only [PV.cells, List.length_map, hk, true_and]
    intro c hc
    obtain ⟨v, hv, rfl⟩ := List.mem_map.1 hc
    exact h1 x v hv
  refine ⟨L.f6.enters rfl, fun x vs hlt hlent hv => ?_⟩
  simp only [VRels] at hv
  obtain ⟨u, r, rfl, hu, fv, r', rfl, hf, rfl⟩ := hv
  have hfv : fv = .func (.func g) #[] #[] := by
    simp only [VRel, VRels] at hf
    obtain ⟨vs, rfl, rfl⟩ := hf
    rfl
  subst hfv
  have hrow := hlent.st nm (.sl k (d.map pv)) (by simp)
  have own0 : ∀ {b : Nat} {row : Row}, Own [(nm, row)] x.ρ b ↔ (x.ρ nm).ok = true ∧ (x.ρ nm).blk = b := fun {b row} => by
    constructor
    · rintro ⟨r, w, h1, h2, h3⟩
      simp only [List.mem_singleton, Prod.mk.injEq] at h1
      obtain ⟨rfl, _⟩ := h1
      exact ⟨h2, h3⟩
    · exact fun h => ⟨nm, row, by simp, h.1, h.2⟩
  -- the world behind it, and what is told of it
  have fin : ∀ {w' : World} {row' : Row}, BelowL (Own [(nm, Row.sl k (d.map pv))] x.ρ) x.w w' → row'.rel ⟨w', x.F, x.ρ⟩ (x.ρ nm) → ResS x [(nm, .sl k (d.map pv))] ⟨w', x.F, x.ρ⟩ (.tup []) [(nm, row')] (.tuple #[]) := fun {w' row'} hb hr => {
    below := hb
    val := by simp only [VRel, VRels]; exact ⟨[], rfl, rfl⟩
    st := fun r row hm => by
      simp only [List.mem_singleton, Prod.mk.injEq] at hm
      obtain ⟨rfl, rfl⟩ := hm
      exact hr
    keys := by simp
    inj := fun r row r' row' hm hm' hne => by
      simp only [List.mem_singleton, Prod.mk.injEq] at hm hm'
      exact absurd (hm.1.trans hm'.1.symm) hne
    own := fun r row hm hok => by
      simp only [List.mem_singleton, Prod.mk.injEq] at hm
      obtain ⟨rfl, _⟩ := hm
      exact .inr (own0.2 ⟨hok, rfl⟩)
    F := fun b => by
      rw [own0, own0]
      by_cases h : (x.ρ nm).ok = true ∧ (x.ρ nm).blk = b
      · refine ⟨fun _ => .inr h, fun _ => ?_⟩
        rw [← h.2]; exact hlent.F nm (.sl k (d.map pv)) (by simp) h.1
      · exact ⟨fun hF => .inl ⟨hF, h⟩, fun hF => hF.elim (·.1) fun h' => absurd h' h⟩
    stay := fun _ _ => rfl }
  have none_ : ∀ (p : Option Addr) (cap : Nat), u = .slice p 0 cap → d = [] → Calls P (ρ.f 6) ⟨[u, .func (.func g) #[] #[]]⟩ x.w fun en w' => ∃ cv y, en = .returned cv ∧ y.w = w' ∧ ResS x [(nm, .sl k (d.map pv))] y (.tup []) [(nm, .sl k ((d.mergeSort fun x y => !(ltOf cf) y x).map pv))] cv := by
    intro p cap hu0 hd0
    subst hd0; subst hu0
    refine (AnyF.slices_SortFunc_none L p cap (.func (.func g) #[] #[]) x.w).mono fun en w' ⟨e1, e2⟩ => ?_
    subst e1; subst e2
    exact ⟨_, ⟨x.w, x.F, x.ρ⟩, rfl, rfl, fin (BelowL.refl _ _) (by simpa using hrow)⟩
  simp only [VRel] at hu
  simp only [Row.rel] at hrow
  rcases hu with ⟨hn, _, ad, e1⟩ | ⟨c, hok, e1, hnc, hcap, hlen⟩
  · have : d = [] := List.eq_nil_of_length_eq_zero hn
    exact none_ ad 0 (by rw [e1]) this
  rcases hrow with ⟨h0, _⟩ | ⟨hls, _, ⟨hln, hxc⟩, hwfd, ⟨⟨arr⟩, tb, hh, harr, hao⟩, hE⟩
  · rw [h0] at hok; cases hok
  have hlenk : (d.map pv).length = d.length := List.length_map _
  rw [hls] at harr
  have hbase : (x.ρ nm).base + 0 * (x.ρ nm).s = (x.ρ nm).base := by omega
  rw [hbase] at e1
  have hblk : (x.ρ nm).blk < x.w.heap.size := (Array.getElem?_eq_some_iff.1 hh).1
  have hcells : CellsAt x.w (x.ρ nm).blk (x.ρ nm).base (d.flatMap enc) := by
    rw [PElems.flat_iff, flat_enc he] at hE
    obtain ⟨cvs, k1, k2⟩ := hE.list
    rw [rels_sc_eq k1] at k2
    exact k2
  have hH : HoldsK enc k x.w (x.ρ nm).blk (x.ρ nm).base d.toArray := fun j hj => by
    rw [size_flatK] at hj
    have hj' : j < d.length * k := by simpa using hj
    refine ⟨?_, by simp [World.frozen?, hh]⟩
    exact hcells j _ (flatK_at hk hk0 d j hj')
  have hcmp : CmpLays P g #[] enc k cf (x.ρ nm).blk (x.ρ nm).base d.toArray.size x.w := fun m os dk hdk a b => by
    have := (hg a b).2 (sortWorldK enc k x.w (x.ρ nm).blk (x.ρ nm).base m dk os) (fun _ => False) [.agg (enc a).toArray, .agg (enc b).toArray] (fun _ h => h.elim) (by
      simp only [PRels, he, PRel]
      exact ⟨_, _, rfl, ⟨_, rfl, rels_sc _⟩, _, _, rfl, ⟨_, rfl, rels_sc _⟩, rfl⟩)
    refine this.mono fun en w' ⟨cv, y, h2, h3, h4⟩ => ?_
    have h5 := h4.val
    simp only [VRel, PRel] at h5
    subst h2; subst h5; subst h3
    exact ⟨rfl, below_grow h4.below⟩
  rw [e1]
  have hS := AnyQ.slices_SortFunc_total L k aE zE enc hk h1 cf hO g #[] (x.ρ nm).blk (x.ρ nm).base c d.toArray x.w (hg default default).1 hcmp hH hblk (by simp; omega) hT
  simp only [List.size_toArray] at hS
  refine hS.mono fun en w' ⟨e2, n, os, e3⟩ => ?_
  subst e2
  obtain ⟨D, hD⟩ : ∃ D : List α, D = d.mergeSort fun x y => !(ltOf cf) y x := ⟨_, rfl⟩
  have hDl : D.length = d.length := by rw [hD]; exact List.length_mergeSort _
  rw [← hD] at e3 ⊢
  have heap0 : (putRowK enc k (Sort.ahead x.w n) (x.ρ nm).blk (x.ρ nm).base D.toArray).heap = x.w.heap.modify (x.ρ nm).blk (onCells (putCells id (x.ρ nm).base (flatK enc k D.toArray))) := rfl
  have hsz0 : (putRowK enc k (Sort.ahead x.w n) (x.ρ nm).blk (x.ρ nm).base D.toArray).heap.size = x.w.heap.size := by rw [heap0]; simp
  have hheap : ∀ b, b < x.w.heap.size → w'.heap[b]? = (x.w.heap.modify (x.ρ nm).blk (onCells (putCells id (x.ρ nm).base (flatK enc k D.toArray))))[b]? := fun b hb => by
    rw [e3]
    unfold sortWorldK grow
    simp only
    rw [Array.getElem?_append_left (by rw [hsz0]; exact hb), heap0]
  have hat : w'.heap[(x.ρ nm).blk]? = some (.cells (putCells id (x.ρ nm).base (flatK enc k D.toArray) ⟨arr⟩) tb (0, 0)) := by
    rw [hheap _ hblk, Array.getElem?_modify, if_pos rfl, hh]
    rfl
  have hH' : HoldsK enc k w' (x.ρ nm).blk (x.ρ nm).base D.toArray := by
    rw [e3]
    exact holdsK_sortWorldK_c enc k x.w (x.ρ nm).blk (x.ρ nm).base d.toArray D.toArray n os hH hblk (by simpa using hDl)
  have hcells' : CellsAt w' (x.ρ nm).blk (x.ρ nm).base (D.flatMap enc) := fun j v hj => by
    have hj' : j < D.length * k := by have := (List.getElem?_eq_some_iff.1 hj).1; rwa [flatMap_len hk] at this
    have := (hH' j (by rw [size_flatK]; simpa using hj')).1
    rw [this]
    rw [flatK_at hk hk0 D j hj'] at hj
    exact hj
  refine ⟨_, ⟨w', x.F, x.ρ⟩, rfl, rfl, fin ?_ ?_⟩
  · refine ⟨by rw [e3]; rfl, by rw [e3]; rfl, by rw [e3]; rfl, ?_, fun b hb hL => ?_, ?_⟩
    · rw [e3]; unfold sortWorldK grow; simp only [Array.size_append, hsz0]; omega
    · rw [hheap b hb, Array.getElem?_modify, if_neg]
      intro hbe
      exact hL (own0.2 ⟨hok, hbe⟩)
    · rw [e3]
      show x.w.drawn ≤ x.w.drawn + n
      omega
  · simp only [Row.rel]
    refine .inr ⟨hls, hok, ⟨by rw [List.length_map, hDl]; rw [hlenk] at hln; exact hln, by rw [List.length_map, hDl]; rw [hlenk] at hxc; exact hxc⟩, hwf D, ⟨_, tb, hat, ?_, ?_⟩, ?_⟩
    · rw [hls]
      simp only [putCells, Array.size_mapIdx]
      simpa using harr
    · intro cc hcc
      simp only [putCells, Array.toList_mapIdx, List.mem_mapIdx] at hcc
      obtain ⟨i, hi, rfl⟩ := hcc
      split
      · rename_i hin
        rw [size_flatK] at hin
        have hj' : i - (x.ρ nm).base < D.length * k := by simp at hin; omega
        have h5 := flatK_at hk hk0 D _ hj'
        have h6 := List.mem_of_getElem? h5
        obtain ⟨z, _, hz⟩ := List.mem_flatMap.1 h6
        exact h1 z _ hz
      · exact hao _ (List.getElem_mem hi)
    · rw [PElems.flat_iff, flat_enc he]
      exact PCells.of (rels_sc _) hcells'
end
end Go.Vc
