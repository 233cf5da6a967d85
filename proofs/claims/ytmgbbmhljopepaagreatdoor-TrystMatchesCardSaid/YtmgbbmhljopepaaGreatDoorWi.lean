/- A part of the proofs of the seat YtmgbbmhljopepaaGreatDoor: the contracts of functions, each proved out of its code. -/
import Derived.Test.YtmgbbmhljopepaaGreatDoorWh
import Derived.Test.YtmgbbmhljopepaaGreatDoorWe
import Derived.Test.YtmgbbmhljopepaaGreatDoorWf
import Derived.Test.YtmgbbmhljopepaaGreatDoorVe
import Derived.Test.YtmgbbmhljopepaaGreatDoorProg
namespace Go.Vc
open Go.Proofs
set_option linter.unusedSimpArgs false
set_option linter.unusedVariables false
theorem inN_iff {S : List Nat} {j : Nat} : inN S j = true ↔ j ∈ S := by simp [inN]
theorem cl_any {E : Nat → Bool} : ∀ {l : List Int} {s : Nat}, cl E (inI l) s = true ↔ ∃ x ∈ l, cl E (inI [x]) s = true
 | [], s => by
  constructor
  ·exact fun h => (cl_least (Q := fun _ => False) (fun s h => by simp [inI] at h) (fun s h => h.elim) s h).elim
  ·rintro ⟨x, hx, _⟩; cases hx
 | y :: l, s => by
  have e : inI (y :: l) = fun i => inI [y] i || inI l i := funext fun i => by simp [inI]
  rw [e, cl_or, Bool.or_eq_true, cl_any (l := l)]
  constructor
  ·rintro (h | ⟨x, hx, h⟩)
   ·exact ⟨y, by simp, h⟩
   ·exact ⟨x, List.mem_cons_of_mem _ hx, h⟩
  ·rintro ⟨x, hx, h⟩
   rcases List.mem_cons.1 hx with rfl | hx
   ·exact .inl h
   ·exact .inr ⟨x, hx, h⟩
theorem shut_mem {n : NF} {b : Int} {j : Nat} : shutP n b j = true ↔ j < n.size ∧ cl n.eps (inI [b]) j = true := by
 unfold shutP
 rw [inN_iff, closeN_mem]
theorem go_step {n : NF} (heg : n.Eg) {S : List Nat} (hS : ∀ s ∈ S, s < n.size) (a j : Nat) : (S.any fun s => wayP n (n.ways.getD s []) a j) = inN (stepN n (toI S) (a : Int)) j := by
 rw [Bool.eq_iff_iff, inN_iff]
 have hst : stepN n (toI S) (a : Int) = closeN n (goN n (toI S) (a : Int)) := by unfold stepN; rw [if_neg (by omega)]
 rw [hst, closeN_mem, cl_any, List.any_eq_true]
 unfold wayP
 constructor
 ·rintro ⟨s, hs, h⟩
  rw [List.any_eq_true] at h
  obtain ⟨e, he, h⟩ := h
  simp only [Bool.and_eq_true, decide_eq_true_eq] at h
  obtain ⟨h1, h2, h3⟩ := h
  obtain ⟨h4, h5⟩ := shut_mem.1 h3
  refine ⟨h4, e.2, ?_, h5⟩
  unfold goN
  rw [List.mem_flatMap]
  refine ⟨(s : Int), toI_mem.2 hs, ?_⟩
  have : waysAt n (s : Int) = n.ways.getD s [] := by unfold waysAt; rw [if_pos (by have := hS s hs; omega)]; simp
  rw [this, List.mem_map]
  exact ⟨e, List.mem_filter.2 ⟨he, by simpa using h1⟩, rfl⟩
 ·rintro ⟨hj, x, hx, h5⟩
  unfold goN at hx
  rw [List.mem_flatMap] at hx
  obtain ⟨y, hy, hx⟩ := hx
  obtain ⟨s, hs, rfl⟩ := List.mem_map.1 hy
  have : waysAt n (s : Int) = n.ways.getD s [] := by unfold waysAt; rw [if_pos (by have := hS s hs; omega)]; simp
  rw [this, List.mem_map] at hx
  obtain ⟨e, he, rfl⟩ := hx
  obtain ⟨he, h1⟩ := List.mem_filter.1 he
  refine ⟨s, hs, List.any_eq_true.2 ⟨e, he, ?_⟩⟩
  obtain ⟨_, h2, h3⟩ := heg.e s e he
  have hst2 : isSt n e.2 = true := isSt_iff.2 ⟨e.2.toNat, by omega, by omega⟩
  simp only [Bool.and_eq_true]
  exact ⟨h1, hst2, shut_mem.2 ⟨hj, h5⟩⟩
structure SetOk (S : List Nat) : Prop where
 ris : S.Pairwise (· < ·)
 lt : ∀ x ∈ S, x < 192
theorem SetOk.elems {S : List Nat} (h : SetOk S) : elemsB (inN S) 3 = S := by
 refine risI_ext (range_filter_ris _ _) h.ris fun y => ?_
 unfold elemsB
 rw [List.mem_filter, List.mem_range, inN_iff]
 exact ⟨fun h1 => h1.2, fun h1 => ⟨h.lt y h1, h1⟩⟩
theorem same_sets {S T : List Nat} (hS : SetOk S) (hT : SetOk T) : sameV [pU (wd (inN S) 0 : Nat), pU (wd (inN S) 1 : Nat), pU (wd (inN S) 2 : Nat)] [pU (wd (inN T) 0 : Nat), pU (wd (inN T) 1 : Nat), pU (wd (inN T) 2 : Nat)] = decide (S = T) := by
 by_cases h : S = T
 ·subst h; simp [sameV]
 ·rw [decide_eq_false h, ← Bool.not_eq_true]
  intro he
  simp only [sameV, Bool.and_true, Bool.and_eq_true, decide_eq_true_eq] at he
  apply h
  refine risI_ext hS.ris hT.ris fun y => ?_
  have hw : ∀ k, k < 3 → wd (inN S) k = wd (inN T) k := fun k hk => by
   rcases (show k = 0 ∨ k = 1 ∨ k = 2 by omega) with rfl | rfl | rfl
   ·exact Int.ofNat.inj he.1
   ·exact Int.ofNat.inj he.2.1
   ·exact Int.ofNat.inj he.2.2
  have hb := wd_inj hw
  constructor
  ·intro hy; have := hb y (hS.lt y hy); rw [inN_iff.2 hy] at this; exact inN_iff.1 this.symm
  ·intro hy; have := hb y (hT.lt y hy); rw [inN_iff.2 hy] at this; exact inN_iff.1 this
def mapK : Nat → List (List Nat) → List (PV × PV)
 | _, [] => []
 | k, T :: L => (pSet (inN T), pI (k : Int)) :: mapK (k + 1) L
theorem mapK_app : ∀ (L : List (List Nat)) (k : Nat) (T : List Nat), mapK k (L ++ [T]) = mapK k L ++ [(pSet (inN T), pI ((k + L.length : Nat) : Int))]
 | [], k, T => rfl
 | U :: L, k, T => by simp [mapK, mapK_app L (k + 1) T]; omega
theorem lkp_K {T : List Nat} (hT : SetOk T) : ∀ {L : List (List Nat)} (k : Nat), (∀ U ∈ L, SetOk U) → lkp (pSet (inN T)) (mapK k L) = if T ∈ L then some (pI ((k + L.idxOf T : Nat) : Int)) else none
 | [], k, _ => by simp [mapK, lkp]
 | U :: L, k, h => by
  have ih := lkp_K hT (L := L) (k + 1) fun V hV => h V (List.mem_cons_of_mem _ hV)
  simp only [mapK, lkp, keyEq, same_sets hT (h U (by simp))]
  by_cases he : T = U
  ·subst he; simp
  ·rw [decide_eq_false he]
   simp only [Bool.false_eq_true, if_false, ih, List.mem_cons, he, false_or]
   split
   ·rw [List.idxOf_cons, show (U == T) = false by simp [Ne.symm he]]
    simp; omega
   ·rfl
theorem mput_K {T : List Nat} (hT : SetOk T) {v : PV} : ∀ {L : List (List Nat)} (k : Nat), (∀ U ∈ L, SetOk U) → T ∉ L → mput (pSet (inN T)) v (mapK k L) = mapK k L ++ [(pSet (inN T), v)]
 | [], k, _, _ => rfl
 | U :: L, k, h, hn => by
  have he : T ≠ U := fun e => hn (by simp [e])
  simp only [mapK, mput, keyEq, same_sets hT (h U (by simp)), decide_eq_false he, Bool.false_eq_true, if_false, List.cons_append, List.cons.injEq, true_and]
  exact mput_K hT (k + 1) (fun V hV => h V (List.mem_cons_of_mem _ hV)) fun hm => hn (List.mem_cons_of_mem _ hm)
theorem like_K (p : Nat → Bool) : ∀ (L : List (List Nat)) (k : Nat), keysLike (.st [0, 0, 0]) (pSet p) (mapK k L)
 | [], _ => trivial
 | U :: L, k => by
  simp only [mapK, keysLike, keyLike]
  exact ⟨by simp [sameP], like_K p L (k + 1)⟩
structure NF.Ok (n : NF) : Prop where
 good : n.Good
 size : n.size ≤ 180
 ways : ∀ s, (n.ways.getD s []).length ≤ 200
 signs : n.signs.length ≤ 160
 eg : n.Eg
 dn : n.Dn
 done : n.done.length ≤ 1000
 ris : RisB n.signs
 beg : n.beg.length ≤ 1000
theorem set_close {n : NF} (h : n.size ≤ 180) (l : List Int) : SetOk (closeN n l) := ⟨closeN_ris n l, fun x hx => by have := (closeN_mem.1 hx).1; omega⟩
theorem set_step {n : NF} (h : n.size ≤ 180) (l : List Int) (a : Int) : SetOk (stepN n l a) := by
 unfold stepN
 split
 ·exact ⟨by simp, by simp⟩
 ·exact set_close h _
theorem row_ok {n : NF} (h : n.size ≤ 180) {S : List Nat} {L : List (List Nat)} (hL : ∀ T ∈ L, SetOk T) (k : Nat) : ∀ T ∈ rowL n S L k, SetOk T := fun T hT => by
 rcases rowL_mem.1 hT with h1 | ⟨a, _, h1, _⟩
 ·exact hL T h1
 ·rw [h1]; exact set_step h _ _
theorem bfs_ok {n : NF} (h : n.size ≤ 180) : ∀ i, ∀ T ∈ bfsL n i, SetOk T
 | 0 => fun T hT => by
  simp only [bfsL, List.mem_singleton] at hT
  rw [hT]; exact set_close h _
 | i + 1 => row_ok h (bfs_ok h i) _
theorem bfs_lt {n : NF} (h : n.size ≤ 180) {i : Nat} {T : List Nat} (hT : T ∈ bfsL n i) : ∀ s ∈ T, s < n.size := by
 have key : ∀ i, ∀ T ∈ bfsL n i, ∀ s ∈ T, s < n.size := by
  intro i
  induction i with
  | zero =>
   intro T hT s hs
   simp only [bfsL, List.mem_singleton] at hT
   subst hT
   exact (closeN_mem.1 hs).1
  | succ i ih =>
   intro T hT s hs
   simp only [bfsL] at hT
   rcases rowL_mem.1 hT with h1 | ⟨a, _, h1, _⟩
   ·exact ih T h1 s hs
   ·rw [h1] at hs
    unfold stepN at hs
    split at hs
    ·cases hs
    ·exact (closeN_mem.1 hs).1
 exact key i T hT
abbrev setsL (L : List (List Nat)) : List PV := L.map fun T => pSet (inN T)
abbrev pDf (d : DF) : PV := .agg [ss d.signs, .lst (d.next.map ints), .lst (d.done.map pNs)]
def zDf : DF := ⟨[], [], []⟩
def dfaM (n : NF) : Option Nat → DF
 | some k => dfaOf n k
 | none => zDf
def dfaX : Option Nat → Int
 | some _ => 0
 | none => 6
def dfaR (n : NF) (most : Int) : DF := if most < 1 then zDf else dfaM n (dfaK n most.toNat)
def dfaE (n : NF) (most : Int) : Int := if most < 1 then 1 else dfaX (dfaK n most.toNat)
theorem fn46 (l : List ByteArray) (h : l.length ≤ 100000) : Fn Tryz.prog 46 [ss l] (.pv (ss l)) [] := by
 refine Fn.row (n := l.length) (s := 1) ?_ (by simp)
 refine Run46 [true] (by simp) ?_
 simp only [go_sem, M46]
 refine runR_isnil rfl rfl ?_
 intro b hb
 simp only [go_sem, wf_ss]
 refine ⟨fun h => ?_, fun h => ⟨⟨by omega, by omega⟩, ?_⟩⟩
 ·have : l = [] := by simpa using hb h
  subst this
  simp
 ·simp
theorem fn53 (l : List Nat) (h : l.length ≤ 100000) : Fn Tryz.prog 53 [pNs l] (.pv (pNs l)) [] := by
 refine Fn.row (n := l.length) (s := 1) ?_ (by simp [toI])
 have hw := wf_ints (toI l)
 have hll : (toI l).length = l.length := by simp [toI]
 refine Run53 [true] (by simp) ?_
 simp only [go_sem, M53]
 refine runR_isnil rfl rfl ?_
 intro b hb
 simp only [go_sem, hw, hll]
 refine ⟨fun h => ?_, fun h => ⟨⟨by omega, by omega⟩, ?_⟩⟩
 ·have : l = [] := by simpa [toI] using hb h
  subst this
  simp [toI]
 ·simp
end Go.Vc

namespace Go.Vc
open Go.Proofs
set_option linter.unusedSimpArgs false
set_option linter.unusedVariables false
theorem fn53i (l : List Int) (h : l.length ≤ 100000) : Fn Tryz.prog 53 [ints l] (.pv (ints l)) [] := by
 refine Fn.row (n := l.length) (s := 1) ?_ (by simp)
 have hw := wf_ints l
 refine Run53 [true] (by simp) ?_
 simp only [go_sem, M53, hw]
 refine runR_isnil rfl rfl ?_
 intro b hb
 simp only [go_sem, hw]
 refine ⟨fun h => ?_, fun h => ⟨⟨by omega, by omega⟩, ?_⟩⟩
 ·have : l = [] := by simpa using hb h
  subst this
  simp
 ·simp
theorem goC_ok {d : DI} {lv : List Bool} (hn : d.next.length ≤ 1000) : ∀ {f : Nat} {cl : List Nat} {c : Nat}, cl.length = d.next.length → (∀ x ∈ cl, x ≤ 1000) → (goC d lv f cl c).length = d.next.length ∧ ∀ x ∈ goC d lv f cl c, x ≤ 1000
 | 0, cl, c, h1, h2 => ⟨h1, h2⟩
 | f + 1, cl, c, h1, h2 => by
  rw [goC]
  split
  ·exact ⟨h1, h2⟩
  ·exact goC_ok hn (by rw [clsOf_len]; simp [keysC]) (cls_le (by simp [keysC]; exact hn))
theorem classR_ok {d : DI} {lv : List Bool} (hn : d.next.length ≤ 1000) : (classR d lv).length = d.next.length ∧ ∀ x ∈ classR d lv, x ≤ 1000 :=
 goC_ok hn (by rw [clsOf_len]; simp [keys0]) (cls_le (by simp [keys0]; exact hn))
def enI : Nat → List Nat → List (PV × PV)
 | _, [] => []
 | k, c :: L => (pI (c : Int), pI (k : Int)) :: enI (k + 1) L
theorem enI_app : ∀ (L : List Nat) (k c : Nat), enI k (L ++ [c]) = enI k L ++ [(pI (c : Int), pI ((k + L.length : Nat) : Int))]
 | [], k, c => rfl
 | u :: L, k, c => by simp [enI, enI_app L (k + 1) c]; omega
theorem lkp_I (c : Nat) : ∀ {L : List Nat} (k : Nat), lkp (pI (c : Int)) (enI k L) = if c ∈ L then some (pI ((k + ixOf L c : Nat) : Int)) else none
 | [], k => by simp [enI, lkp]
 | u :: L, k => by
  have ih := lkp_I c (L := L) (k + 1)
  simp only [enI, lkp, keyEq]
  by_cases he : c = u
  ·subst he; simp [ixOf_cons]
  ·have h2 : ¬ ((c : Int) = (u : Int)) := by omega
   simp only [h2, decide_false, Bool.false_eq_true, if_false, ih, List.mem_cons, he, false_or]
   split
   ·rw [ixOf_cons, if_neg (Ne.symm he)]
    congr 3; omega
   ·rfl
theorem mput_I {c : Nat} {v : PV} : ∀ {L : List Nat} (k : Nat), c ∉ L → mput (pI (c : Int)) v (enI k L) = enI k L ++ [(pI (c : Int), v)]
 | [], k, _ => rfl
 | u :: L, k, hn => by
  have he : c ≠ u := fun e => hn (by simp [e])
  simp only [enI, mput, keyEq, decide_eq_false (show ¬ ((c : Int) = (u : Int)) by omega), Bool.false_eq_true, if_false, List.cons_append, List.cons.injEq, true_and]
  exact mput_I (k + 1) fun hm => hn (List.mem_cons_of_mem _ hm)
theorem like_I (x : Int) : ∀ (L : List Nat) (k : Nat), keysLike .int (pI x) (enI k L)
 | [], _ => trivial
 | u :: L, k => by
  simp only [enI, keysLike, keyLike]
  exact ⟨trivial, like_I x L (k + 1)⟩
abbrev nmW (lv : List Bool) (cl first : List Nat) (row : List Int) (k : Nat) : Int := numF lv cl (rowF lv cl first row k) (row.getD k 0)
theorem rowW_tb (lv : List Bool) (cl first : List Nat) (row : List Int) : ∀ j, rowW lv cl first row j = tb j (nmW lv cl first row)
 | 0 => rfl
 | j + 1 => by
  rw [rowW, rowW_tb lv cl first row j]
  unfold tb
  rw [List.range_succ, List.map_append]
  rfl
abbrev wsN (lv : List Bool) (cl first : List Nat) (row : List Int) (j : Nat) : List PV := tb row.length fun k => if k < j then pI (nmW lv cl first row k) else pI 0
theorem wsN_set {lv : List Bool} {cl first : List Nat} {row : List Int} {j : Nat} (h : j < row.length) : (wsN lv cl first row j).set j (pI (nmW lv cl first row j)) = wsN lv cl first row (j + 1) := by
 rw [tb_set h]
 refine tb_ext fun k hk => ?_
 by_cases h1 : k = j
 ·subst h1; rw [if_pos rfl, if_pos (by omega)]
 ·rw [if_neg h1]
  by_cases h2 : k < j
  ·rw [if_pos h2, if_pos (by omega)]
  ·rw [if_neg h2, if_neg (by omega)]
theorem wsN_end (lv : List Bool) (cl first : List Nat) (row : List Int) : wsN lv cl first row row.length = (rowW lv cl first row row.length).map fun n => pI n := by
 rw [rowW_tb, tb_map]
 exact tb_ext fun k hk => by rw [if_pos hk]
theorem wsN_at {lv : List Bool} {cl first : List Nat} {row : List Int} {j : Nat} (h : j < row.length) : (wsN lv cl first row j).getD j default = pI 0 := by rw [tb_get h, if_neg (by omega)]
theorem may_ok {d : DI} (hs : d.Sm) (hI : ∀ i, ∀ n ∈ d.done.getD i [], I64 n) (hm : mayB d = true) : d.Ok := by
 unfold mayB at hm
 simp only [Bool.and_eq_true, decide_eq_true_eq, List.all_eq_true, List.mem_range] at hm
 obtain ⟨h1, h2, h3, h4⟩ := hm
 refine ⟨by omega, hs.next, h2, hs.signs, hs.nexts, fun i t ht => ?_, ⟨hs.dones, hI⟩⟩
 by_cases hi : i < d.next.length
 ·have := h4 i hi
  unfold okRow at this
  simp only [Bool.and_eq_true, decide_eq_true_eq, List.all_eq_true] at this
  exact this.2.1 t ht
 ·rw [List.getD_eq_getElem?_getD, List.getElem?_eq_none (by omega)] at ht
  cases ht
def zDi : DI := ⟨[], [], []⟩
abbrev clsL (cl first : List Nat) : List Nat := first.map fun s => cl.getD s 0
set_option maxHeartbeats 2000000 in
theorem fn22 (d : DI) (hs : d.Sm) (hI : ∀ i, ∀ n ∈ d.done.getD i [], I64 n) : Fn Tryz.prog 22 [pDi d] (.pv (.tup [pDi (if mayB d = true then leastR d else zDi), pI (if mayB d = true then 0 else 1)])) [] := by
 refine Run22 [] (by simp) ?_
 simp only [go_sem, M22]
 refine runR_call (by simp only [go_sem]) rfl (fn23 d hs) (.inl rfl) trivial ?_
 cases hm : mayB d with
 | false =>
  simp only [go_sem]
  rfl
 | true =>
  have hd := may_ok hs hI hm
  have hn := hd.n
  have hn0 := hd.n0
  simp only [go_sem]
  refine runR_call (by simp only [go_sem]) rfl (fn51 d hd) (.inl rfl) trivial ?_
  simp only [go_sem]
  refine runR_call (by simp only [go_sem]) rfl (fn52 d (liveL d) hd (liveL_len d)) (.inl rfl) trivial ?_
  simp only [go_sem]
  refine runR_call (by simp only [go_sem]) rfl (fn46 d.signs (by have := hd.signs; omega)) (.inl rfl) trivial ?_
  unfold leastR leastOf
  have hlv := liveL_len d
  obtain ⟨hcl, hc⟩ := classR_ok (d := d) (lv := liveL d) hn
  generalize liveL d = lv at hlv hcl hc
  generalize classR d lv = cl at hcl hc
  have hcll : (toI cl).length = d.next.length := by simp [toI, hcl]
  have hcg : ∀ k (h : k < cl.length), (toI cl)[k]'(by simpa [toI] using h) = (cl.getD k 0 : Int) := fun k h => by simp [toI, List.getD_eq_getElem?_getD, h]
  simp only [go_sem, getD_map (show 0 < (toI cl).length by omega), hcg 0 (by omega), hcll, wf_ints]
  refine ⟨by omega, ⟨by rintro v rfl c hc; simp only [List.mem_cons, List.not_mem_nil, or_false, List.map_cons, List.map_nil] at hc; subst hc; rfl, _, rfl⟩, ?_⟩
  have hFO : ∀ i, FirstOk d.next.length cl (firstL d lv cl i) := firstOk hd.rows hn0
  refine run_loopX (T := Nat) [1, 2, 4, 5, 6, 7, 8, 9] [1, 2, 6, 29, 34, 107, 118]
   (fun i => ⟨[(1, .ptr 1 0), (2, .ptr 2 0), (4, .pv (bools lv)), (5, .pv (pNs cl)), (6, .ptr 6 0), (7, .mp 29), (8, .row 34 0 (firstL d lv cl i).length), (9, .pv (pI i))],
    [(1, .box (dBox d)), (2, .box [.e0, .e0, .e0]), (6, .box [.pv (ss d.signs), .row 107 0 i, .row 118 0 i]), (29, .mp (enI 0 (clsL cl (firstL d lv cl i)))), (34, .sl 1 ((toI (firstL d lv cl i)).map fun n => pI n)),
     (107, .sl 1 ((tb i (waysF d lv cl)).map ints)), (118, .sl 1 ((tb i fun k => d.done.getD ((firstL d lv cl k).getD k 0) []).map ints))]⟩)
   (fun i => i ≤ (firstL d lv cl i).length ∧ endF d lv cl (d.next.length + 1 - i) i = leastK d lv cl) (fun i => d.next.length + 1 - i) 0 ?_ ⟨by simp, rfl⟩ ?_
  ·refine ⟨_, Weak.virtBs _ [(6, 1, 107, 1), (6, 2, 118, 1)], ?_⟩
   simp only [go_sem]
   rfl
  rintro i ⟨hi, hend⟩
  have hLn := (hFO i).len
  by_cases hlt : i < (firstL d lv cl i).length
  ·rw [show d.next.length + 1 - i = (d.next.length - i) + 1 by omega, endF, if_neg (by omega)] at hend
   obtain ⟨at_, hat⟩ : ∃ a, a = (firstL d lv cl i).getD i 0 := ⟨_, rfl⟩
   have hfx : (firstL d lv cl i)[i] = at_ := by rw [hat]; simp [List.getD_eq_getElem?_getD, hlt]
   have hatn : at_ < d.next.length := (hFO i).lt _ (by rw [← hfx]; exact List.getElem_mem hlt)
   have hfg : (toI (firstL d lv cl i))[i]'(by simpa [toI] using hlt) = (at_ : Int) := by simp [toI, hfx]
   obtain ⟨row, hrow⟩ : ∃ row, row = d.next.getD at_ [] := ⟨_, rfl⟩
   have hnx : d.next[at_] = row := by rw [hrow]; simp [List.getD_eq_getElem?_getD, hatn]
   have hrl : row.length ≤ 1000 := by rw [hrow]; exact hd.width _
   have hrr : ∀ t ∈ row, -1 ≤ t ∧ t < (d.next.length : Int) := by rw [hrow]; exact hd.rows _
   simp only [go_sem, B22_0, show (i : Int) < ((firstL d lv cl i).length : Int) by omega, getD_map (show i < (toI (firstL d lv cl i)).length by simpa [toI] using hlt), hfg, getD_map hatn, hnx, wf_intss]
   have hil : i < (toI (firstL d lv cl i)).length := by simpa [toI] using hlt
   refine ⟨hil, by omega, ⟨by omega, by omega, by omega⟩, by omega, ?_⟩
   have hFn : firstL d lv cl (i + 1) = rowF lv cl (firstL d lv cl i) row row.length := by rw [firstL, ← hat, ← hrow]
   have hWf : waysF d lv cl i = rowW lv cl (firstL d lv cl i) row row.length := by unfold waysF; rw [← hat, ← hrow]
   have hdk : d.done.getD ((firstL d lv cl i).getD i 0) [] = d.done.getD at_ [] := by rw [← hat]
   have hFOi := hFO i
   have hLi1 := (firstL_pre d lv cl i).length_le
   have htb1 : (tb (i + 1) (waysF d lv cl)).map ints = (tb i (waysF d lv cl)).map ints ++ [ints (waysF d lv cl i)] := by simp [tb, List.range_succ]
   have htb2 : (tb (i + 1) fun k => d.done.getD ((firstL d lv cl k).getD k 0) []).map ints = (tb i fun k => d.done.getD ((firstL d lv cl k).getD k 0) []).map ints ++ [ints (d.done.getD at_ [])] := by rw [← hdk]; simp [tb, List.range_succ]
   have hW1 : ((tb i (waysF d lv cl)).map ints).length = i := by rw [List.length_map, tb_len]
   have hD1 : ((tb i fun k => d.done.getD ((firstL d lv cl k).getD k 0) []).map ints).length = i := by rw [List.length_map, tb_len]
   have hi2 : i + 1 ≤ (firstL d lv cl (i + 1)).length := by omega
   clear hfg
   generalize (tb i (waysF d lv cl)).map ints = WL at htb1 hW1
   generalize ((tb i fun k => d.done.getD ((firstL d lv cl k).getD k 0) []).map ints) = DL at htb2 hD1
   generalize firstL d lv cl i = F at hFn hWf hFOi hlt hil
   refine run_loopX (T := Nat) [1, 2, 4, 5, 6, 7, 8, 9, 10, 11, 56, 57, 58] [1, 2, 6, 29, 34, 51, 107, 118]
    (fun j => ⟨[(1, .ptr 1 0), (2, .ptr 2 0), (4, .pv (bools lv)), (5, .pv (pNs cl)), (6, .ptr 6 0), (7, .mp 29), (8, .row 34 0 (rowF lv cl F row j).length), (9, .pv (pI i)), (10, .pv (pI at_)), (11, if j < row.length then .row 51 0 row.length else .pv (ints (waysF d lv cl i))),
      (56, .pv (ints row)), (57, .pv (pI row.length)), (58, .pv (pI j))],
     [(1, .box (dBox d)), (2, .box [.e0, .e0, .e0]), (6, .box [.pv (ss d.signs), .row 107 0 i, .row 118 0 i]), (29, .mp (enI 0 (clsL cl (rowF lv cl F row j)))), (34, .sl 1 ((toI (rowF lv cl F row j)).map fun n => pI n))]
     ++ (if j < row.length then [(51, Row.sl 1 (wsN lv cl F row j))] else []) ++ [(107, .sl 1 WL), (118, .sl 1 DL)]⟩)
    (fun j => j ≤ row.length) (fun j => row.length - j) 0 ?_ (Nat.zero_le _) ?_
   ·by_cases h0 : 0 < row.length
    ·refine ⟨_, Weak.refl' _, ?_⟩
     have hz : wsN lv cl F row 0 = List.replicate row.length (pI 0) := by rw [tb_rep]; exact tb_ext fun k _ => by simp
     rw [if_pos h0, if_pos h0, hz]
     simp only [go_sem, List.cons_append, List.nil_append, List.append_nil]
     rfl
    ·have h00 : row.length = 0 := by omega
     refine ⟨_, Weak.virts _ [(51, 51, 0)], ?_⟩
     rw [if_neg h0, if_neg h0, hWf, h00]
     simp only [go_sem, List.cons_append, List.nil_append, List.append_nil, h00]
     rfl
   intro j hj
   have hFOj := hFOi.row (lv := lv) hrr hj
   have hFjl := hFOj.len
   by_cases hjl : j < row.length
   ·simp only [if_pos hjl]
    have hlss : (wsN lv cl F row j).length = row.length := tb_len _ _
    have nxt : ∀ (L : List Nat) (v : Int), L = rowF lv cl F row (j + 1) → v = nmW lv cl F row j → GX [1, 2, 4, 5, 6, 7, 8, 9, 10, 11, 56, 57, 58] [1, 2, 6, 29, 34, 51, 107, 118]
      ⟨[(1, .ptr 1 0), (2, .ptr 2 0), (4, .pv (bools lv)), (5, .pv (pNs cl)), (6, .ptr 6 0), (7, .mp 29), (8, .row 34 0 L.length), (9, .pv (pI i)), (10, .pv (pI at_)), (11, .row 51 0 row.length), (56, .pv (ints row)), (57, .pv (pI row.length)), (58, .pv (pI ((j : Int) + 1)))],
       [(1, .box (dBox d)), (2, .box [.e0, .e0, .e0]), (6, .box [.pv (ss d.signs), .row 107 0 i, .row 118 0 i]), (29, .mp (enI 0 (clsL cl L))), (34, .sl 1 ((toI L).map fun n => pI n)), (51, .sl 1 ((wsN lv cl F row j).set j (pI v))), (107, .sl 1 WL), (118, .sl 1 DL)]⟩
      ⟨[(1, .ptr 1 0), (2, .ptr 2 0), (4, .pv (bools lv)), (5, .pv (pNs cl)), (6, .ptr 6 0), (7, .mp 29), (8, .row 34 0 (rowF lv cl F row (j + 1)).length), (9, .pv (pI i)), (10, .pv (pI at_)), (11, if j + 1 < row.length then .row 51 0 row.length else .pv (ints (waysF d lv cl i))),
        (56, .pv (ints row)), (57, .pv (pI row.length)), (58, .pv (pI (j + 1 : Nat)))],
       [(1, .box (dBox d)), (2, .box [.e0, .e0, .e0]), (6, .box [.pv (ss d.signs), .row 107 0 i, .row 118 0 i]), (29, .mp (enI 0 (clsL cl (rowF lv cl F row (j + 1))))), (34, .sl 1 ((toI (rowF lv cl F row (j + 1))).map fun n => pI n))]
       ++ (if j + 1 < row.length then [(51, Row.sl 1 (wsN lv cl F row (j + 1)))] else []) ++ [(107, .sl 1 WL), (118, .sl 1 DL)]⟩ := by
     rintro L v rfl rfl
     rw [wsN_set hjl]
     by_cases h1 : j + 1 < row.length
     ·refine ⟨_, Weak.refl' _, ?_⟩
      rw [if_pos h1, if_pos h1]
      simp only [go_sem, List.cons_append, List.nil_append, List.append_nil]
      rfl
     ·have he : j + 1 = row.length := by omega
      refine ⟨_, Weak.virts _ [(51, 51, 0)], ?_⟩
      rw [if_neg h1, if_neg h1, hWf, he, wsN_end]
      have htk : List.take row.length (List.map (fun n => pI n) (rowW lv cl F row row.length)) = List.map (fun n => pI n) (rowW lv cl F row row.length) := List.take_of_length_le (by rw [List.length_map, rowW_len]; exact Nat.le_refl _)
      simp only [go_sem, List.cons_append, List.nil_append, List.append_nil, htk, show (j : Int) + 1 = (row.length : Int) by omega]
    obtain ⟨hr1, hr2⟩ := hrr row[j] (List.getElem_mem hjl)
    have hgj : row.getD j 0 = row[j] := by simp [List.getD_eq_getElem?_getD, hjl]
    have hwj := wsN_at (lv := lv) (cl := cl) (first := F) hjl
    by_cases hm1 : row[j] = -1
    ·have hdd : dead lv row[j] = true := by simp [dead, hm1]
     have hR : rowF lv cl F row j = rowF lv cl F row (j + 1) := by rw [rowF, hgj]; unfold stepF; rw [if_pos hdd]
     have hN : (-1 : Int) = nmW lv cl F row j := by unfold nmW; rw [hgj]; unfold numF; rw [if_pos hdd]
     have hx := nxt _ _ hR hN
     clear nxt
     simp only [go_sem, B22_1, show (j : Int) < (row.length : Int) by omega, getD_map hjl, wf_ints, hm1, tb_len, hwj, List.cons_append, List.nil_append]
     exact ⟨hjl, ⟨by omega, by omega⟩, j + 1, hx, hjl, by omega⟩
    ·obtain ⟨k, hk⟩ : ∃ k : Nat, row[j] = (k : Int) := ⟨row[j].toNat, by omega⟩
     have hkn : k < lv.length := by omega
     have hkc : k < (toI cl).length := by omega
     have hlvg : lv.getD k false = lv[k] := by simp [List.getD_eq_getElem?_getD, hkn]
     cases hb : lv[k] with
     | false =>
      have hdd : dead lv row[j] = true := by unfold dead; rw [hk, Int.toNat_natCast, hlvg, hb]; simp
      have hR : rowF lv cl F row j = rowF lv cl F row (j + 1) := by rw [rowF, hgj]; unfold stepF; rw [if_pos hdd]
      have hN : (-1 : Int) = nmW lv cl F row j := by unfold nmW; rw [hgj]; unfold numF; rw [if_pos hdd]
      have hx := nxt _ _ hR hN
      clear nxt
      simp only [go_sem, B22_1, show (j : Int) < (row.length : Int) by omega, getD_map hjl, wf_ints, hk, getD_map hkn, hb, wf_bls, show ¬ (k : Int) = -1 by omega, tb_len, hwj, List.cons_append, List.nil_append]
      exact ⟨by omega, hjl, ⟨by omega, by omega⟩, j + 1, hx, hjl, by omega⟩
     | true =>
      have hdd : dead lv row[j] = false := by unfold dead; rw [hk, Int.toNat_natCast, hlvg, hb]; simp
      have hcx := hcg k (by omega)
      by_cases hin : cl.getD k 0 ∈ clsL cl (rowF lv cl F row j)
      ·have hR : rowF lv cl F row j = rowF lv cl F row (j + 1) := by rw [rowF, hgj]; unfold stepF; rw [if_neg (by rw [hdd]; simp), hk, Int.toNat_natCast, if_pos hin]
       have hN : ((ixOf (clsL cl (rowF lv cl F row j)) (cl.getD k 0) : Nat) : Int) = nmW lv cl F row j := by unfold nmW; rw [hgj]; unfold numF; rw [if_neg (by rw [hdd]; simp), hk, Int.toNat_natCast]
       have hx := nxt _ _ hR hN
       clear nxt
       simp only [go_sem, B22_1, show (j : Int) < (row.length : Int) by omega, getD_map hjl, wf_ints, hk, getD_map hkn, hb, wf_bls, show ¬ (k : Int) = -1 by omega, tb_len, hwj, getD_map hkc, hcx, like_I, lkp_I, hin, List.cons_append, List.nil_append]
       exact ⟨by omega, by omega, hjl, ⟨by omega, by omega⟩, j + 1, hx, hjl, by omega⟩
      ·have hR : rowF lv cl F row j ++ [k] = rowF lv cl F row (j + 1) := by rw [rowF, hgj]; unfold stepF; rw [if_neg (by rw [hdd]; simp), hk, Int.toNat_natCast, if_neg hin]
       have hN : ((rowF lv cl F row j).length : Int) = nmW lv cl F row j := by unfold nmW; rw [hgj]; unfold numF; rw [if_neg (by rw [hdd]; simp), hk, Int.toNat_natCast, ixOf_out hin, List.length_map]
       have hx := nxt _ _ hR hN
       clear nxt
       simp only [go_sem, B22_1, show (j : Int) < (row.length : Int) by omega, getD_map hjl, wf_ints, hk, getD_map hkn, hb, wf_bls, show ¬ (k : Int) = -1 by omega, tb_len, hwj, getD_map hkc, hcx, like_I, lkp_I, hin, mput_I 0 hin, List.cons_append, List.nil_append]
       refine ⟨by omega, by omega, by omega, ⟨wf_ints [(k : Int)], by omega, by omega⟩, hjl, ⟨by omega, by omega⟩, j + 1, ?_, hjl, by omega⟩
       have htk : List.take (rowF lv cl F row j).length (List.map (fun n => pI n) (toI (rowF lv cl F row j))) = List.map (fun n => pI n) (toI (rowF lv cl F row j)) := List.take_of_length_le (by simp [toI])
       rw [htk]
       rw [List.length_append, List.length_singleton, toI_app, List.map_append, clsL, List.map_append, List.map_cons, List.map_nil, enI_app, Nat.zero_add, List.length_map] at hx
       exact hx
   ·obtain rfl : j = row.length := by omega
    simp only [if_neg hjl, List.append_nil]
    have had : at_ < d.done.length := by rw [hd.done]; exact hatn
    obtain ⟨dn, hdn⟩ : ∃ dn, dn = d.done.getD at_ [] := ⟨_, rfl⟩
    have hdx : d.done[at_] = dn := by rw [hdn]; simp [List.getD_eq_getElem?_getD, had]
    have hdl : dn.length ≤ 1000 := by rw [hdn]; exact hd.ints.len _
    have tkW : List.take i WL = WL := List.take_of_length_le (by omega)
    have tkD : List.take i DL = DL := List.take_of_length_le (by omega)
    rw [← hdn] at htb2
    simp only [go_sem, B22_1, R22_1, show ¬ (row.length : Int) < (row.length : Int) by omega, getD_map had, hdx, wf_intss, tkW]
    refine ⟨⟨wf_intss [waysF d lv cl i], by omega, by omega⟩, by omega, ?_⟩
    refine runR_call (by simp only [go_sem]) rfl (fn53i dn (by omega)) (.inl rfl) trivial ?_
    simp only [go_sem, tkD]
    refine ⟨⟨wf_intss [dn], by omega, by omega⟩, ⟨by omega, by omega⟩, i + 1, ⟨_, Weak.refl' _, ?_⟩, ⟨hi2, ?_⟩, by omega⟩
    ·simp only [go_sem]
     rw [hFn, htb1, htb2]
     rfl
    ·rw [← hend]
     congr 1
     omega
  ·have hend2 : leastK d lv cl = i := by
    rw [show d.next.length + 1 - i = (d.next.length - i) + 1 by omega, endF, if_pos (by omega)] at hend
    exact hend.symm
   have hile : ¬ (i : Int) < ((firstL d lv cl i).length : Int) := by omega
   rw [hend2]
   have hW1 : ((tb i (waysF d lv cl)).map ints).length = i := by rw [List.length_map, tb_len]
   have hD1 : ((tb i fun k => d.done.getD ((firstL d lv cl k).getD k 0) []).map ints).length = i := by rw [List.length_map, tb_len]
   have tkW : List.take i ((tb i (waysF d lv cl)).map ints) = (tb i (waysF d lv cl)).map ints := List.take_of_length_le (by omega)
   have tkD : List.take i ((tb i fun k => d.done.getD ((firstL d lv cl k).getD k 0) []).map ints) = (tb i fun k => d.done.getD ((firstL d lv cl k).getD k 0) []).map ints := List.take_of_length_le (by omega)
   simp only [go_sem, B22_0, R22_0, hile, tkW, tkD]
   rfl
end Go.Vc

namespace Go.Vc
open Go.Proofs
set_option maxRecDepth 100000
def M19 : MC := (.seq (.reg [⟨some 4,none,.alloc [.e0,.e0,.e0]⟩,qi 5 (.mv (ic 0))] [] [0,1,4] [4,1019]) (.seq (.reg [mi 9 0,mi 10 1,⟨some 11,none,.call (.f 9) [.t 9,.t 10]⟩,mi 8 11,qi 12 (.ext (.t 8) 0),qi 13 (.ext (.t 8) 1),⟨some 6,none,.alloc [.e0,.e0,.e0]⟩,⟨none,none,.st (.t 6) (.t 12) 3⟩,mi 7 13] [] [4,6,7] [4,6,1011,1019]) (.seq (.seq (.reg [mi 14 7,qi 15 (.bin .neq (.t 14) (ic 0))] [] [4,6,7,15] [4,6,1011,1019]) (.cond (.t 15) (.seq (.reg [qi 16 (.mk [.e0,.e0,.e0] []),mi 17 7,⟨none,none,.st (.t 4) (.t 16) 3⟩,mi 5 17] [] [4,5] [4,1011,1019]) .ret) .skip)) (.seq (.reg [qi 18 (.ld (.t 6) 3 true),⟨some 19,none,.call (.f 22) [.t 18]⟩,qi 20 (.ext (.t 19) 0),qi 21 (.ext (.t 19) 1),⟨none,none,.st (.t 4) (.t 20) 3⟩,mi 5 21] [] [4,5] [4,1011,1019]) .ret))))
theorem mc19 : ofCode Tryz.prog [] Tryz.f19.ntmps [(0, ⟨[0, 1, 4], [4, 1019], [], 0, [], none⟩),
  (1, ⟨[4, 6, 7], [4, 6, 1011, 1019], [], 0, [], none⟩),
  (2, ⟨[4, 6, 7, 15], [4, 6, 1011, 1019], [], 0, [], none⟩),
  (3, ⟨[4, 5], [4, 1011, 1019], [], 0, [], none⟩),
  (4, ⟨[4, 5], [4, 1011, 1019], [], 0, [], none⟩)] (Tryz.f19.body.getD .skip) = some M19 := by kernel_rfl
theorem Run19 {args : List PV} {v : AV} {rs : List (Nat × List PV)} (ids : List Bool) (h : args.length ≤ 22) (hv : run Tryz.prog (retK [RV.cell 4 3 true, RV.tmp 5] ids v rs) M19 [] ⟨entry 0 args, []⟩) : Fn Tryz.prog 19 args v rs :=
 Fn_run ids (by kernel_rfl) Tryz.func19 (by decide) rfl mc19 (by kernel_rfl) (by rw [Tryz.ntmps19]; exact h) (by rw [Tryz.ntmps19]; decide) hv
end Go.Vc

namespace Go.Vc
open Go.Proofs
set_option linter.unusedSimpArgs false
set_option linter.unusedVariables false
theorem wf_setsL (L : List (List Nat)) : WfL 3 (setsL L) := wf_sets _ _
theorem setsL_get {L : List (List Nat)} {i : Nat} (h : i < L.length) : (setsL L).getD i default = pSet (inN (L.getD i [])) := by simp [List.getD_eq_getElem?_getD, h]
abbrev partN (n : NF) (S : List Nat) (L : List (List Nat)) (a : Nat) : List PV := ((rowN n S L a).map fun x => pI x) ++ List.replicate (n.wid - a) (pI 0)
theorem partN_len {n : NF} {S : List Nat} {L : List (List Nat)} {a : Nat} (h : a ≤ n.wid) : (partN n S L a).length = n.wid := by simp [rowN_len]; omega
theorem partN_set {n : NF} {S : List Nat} {L : List (List Nat)} {a : Nat} (h : a < n.wid) : (partN n S L a).set a (pI (numS (rowL n S L a) (stepN n (toI S) (a : Int)))) = partN n S L (a + 1) := by
 obtain ⟨d, hd⟩ : ∃ d, n.wid - a = d + 1 := ⟨n.wid - a - 1, by omega⟩
 have hl : ((rowN n S L a).map fun x => pI x).length = a := by simp [rowN_len]
 unfold partN
 rw [hd, List.replicate_succ, List.set_append_right _ _ (by omega), hl, Nat.sub_self, List.set_cons_zero, show n.wid - (a + 1) = d by omega]
 simp [rowN]
theorem partN_get {n : NF} {S : List Nat} {L : List (List Nat)} {a : Nat} (h : a < n.wid) : (partN n S L a).getD a default = pI 0 := by
 have hl : ((rowN n S L a).map fun x => pI x).length = a := by simp [rowN_len]
 unfold partN
 rw [List.getD_eq_getElem?_getD, List.getElem?_append_right (by omega), hl, Nat.sub_self, List.getElem?_replicate, if_pos (by omega)]
 rfl
theorem partN_end {n : NF} {S : List Nat} {L : List (List Nat)} : partN n S L n.wid = (rowN n S L n.wid).map fun x => pI x := by simp
abbrev unP (n : NF) (S : List Nat) (a m : Nat) (j : Nat) : Bool := (S.take m).any fun s => wayP n (n.ways.getD s []) a j
theorem unP_succ {n : NF} {S : List Nat} {a m : Nat} (h : m < S.length) : unP n S a (m + 1) = fun j => unP n S a m j || wayP n (n.ways.getD S[m] []) a j := funext fun j => by
 show ((S.take (m + 1)).any _) = ((S.take m).any _ || _)
 rw [List.take_succ_eq_append_getElem h, List.any_append, List.any_cons, List.any_nil, Bool.or_false]
theorem same_zero {T : List Nat} (hT : SetOk T) : sameV [pU (wd (inN T) 0 : Nat), pU (wd (inN T) 1 : Nat), pU (wd (inN T) 2 : Nat)] [pU 0, pU 0, pU 0] = decide (T = []) := by
 have h := same_sets hT (T := []) ⟨by simp, by simp⟩
 have e : inN [] = fun _ => false := funext fun j => by simp [inN]
 have h0 := wd_zero 0
 have h1 := wd_zero 1
 have h2 := wd_zero 2
 rw [e, h0, h1, h2] at h
 exact h
theorem wf_rows (l : List (List Int)) : WfL 1 (l.map ints) := wf_map (f := ints) (s := 1) (fun s => ⟨rfl, fun c hc => by simp only [PV.cells, List.mem_singleton] at hc; subst hc; rfl⟩) l
set_option maxHeartbeats 4000000 in
theorem fn14 (n : NF) (most : Int) (hn : n.Ok) (hm : most ≤ 1000) : Fn Tryz.prog 14 [pNf n, pI most] (.pv (.tup [pDf (dfaR n most), pI (dfaE n most)])) [] := by
 have hil : n.ways.length = n.size := rfl
 have hsz := hn.size
 have hsg := hn.signs
 have hbl := hn.beg
 refine Run14 [] (by simp) ?_
 by_cases hm1 : most < 1
 ·have h1 : dfaR n most = zDf := by unfold dfaR; rw [if_pos hm1]
  have h2 : dfaE n most = 1 := by unfold dfaE; rw [if_pos hm1]
  rw [h1, h2]
  simp only [go_sem, M14, hm1]
  rfl
 have hR : dfaR n most = dfaM n (dfaK n most.toNat) := by unfold dfaR; rw [if_neg hm1]
 have hE : dfaE n most = dfaX (dfaK n most.toNat) := by unfold dfaE; rw [if_neg hm1]
 obtain ⟨M, hM⟩ : ∃ M : Nat, most = (M : Int) := ⟨most.toNat, by omega⟩
 subst hM
 rw [Int.toNat_natCast] at hR hE
 simp only [go_sem, M14, hm1, hil, show ¬ (180 : Int) < (n.size : Int) by omega, show ¬ (160 : Int) < (n.signs.length : Int) by omega]
 refine runR_call (by simp only [go_sem]) rfl (fn43 n hn.good hsz (fun s => by have := hn.ways s; omega) (by omega) hn.eg) (.inl rfl) trivial ?_
 simp only [go_sem]
 refine runR_call (by simp only [go_sem]) rfl (fn45 n (begI n) hn.good (by omega) (fun s => by have := hn.ways s; omega) (by simp [begI, toI]; omega)) (.inl rfl) trivial ?_
 simp only [go_sem]
 have hc0 := set_close hsz (begI n)
 have hcl := closeN_len n (begI n)
 refine runR_callf (by simp only [go_sem]) (by simp only [go_sem] <;> rfl) (fn44 (closeN n (begI n)) hc0.lt (by omega)) ⟨rfl, trivial⟩ trivial ?_
 simp only [go_sem]
 refine ⟨⟨fun v hv c hc => by subst hv; simp at hc; rcases hc with rfl | rfl | rfl <;> rfl, _, rfl⟩, ?_⟩
 refine runR_call (by simp only [go_sem]) rfl (fn46 n.signs (by omega)) (.inl rfl) trivial ?_
 simp only [go_sem]
 have hM1 : 1 ≤ M := by omega
 have hMl : M ≤ 1000 := by omega
 clear hc0 hcl
 refine run_loopF (T := Nat) (fun _ => []) (fun _ => [(9, 1, 129, 1), (9, 2, 137, 1)]) [1, 2, 4, 6, 7, 8, 9, 10] [2, 4, 9, 41, 42, 129, 137]
  (fun i => ⟨[(1, .pv (pI M)), (2, .ptr 2 0), (4, .ptr 4 0), (6, .pv (pSteps n)), (7, .row 41 0 (bfsL n i).length), (8, .mp 42), (9, .ptr 9 0), (10, .pv (pI i))],
   [(2, .box (nBox n)), (4, .box [.e0, .e0, .e0]), (9, .box [.pv (ss n.signs), .row 129 0 i, .row 137 0 i]), (41, .sl 3 (setsL (bfsL n i))), (42, .mp (mapK 0 (bfsL n i))), (129, .sl 1 ((bfsN n i).map ints)), (137, .sl 1 ((bfsD n i).map pNs))]⟩)
  (fun i => i ≤ (bfsL n i).length ∧ (bfsL n i).length ≤ M ∧ endD n M (M + 2 - i) i = dfaK n M) (fun i => M + 1 - i) 0 ?_ ⟨Nat.zero_le _, by simpa [bfsL] using hM1, rfl⟩ ?_
 ·simp only [go_sem]
  rfl
 rintro i ⟨hi, hLM, hend⟩
 have hLok := bfs_ok hsz i
 by_cases hlt : i < (bfsL n i).length
 ·obtain ⟨S, hS⟩ : ∃ S, S = (bfsL n i).getD i [] := ⟨_, rfl⟩
  have hSm : S ∈ bfsL n i := by rw [hS]; simp [List.getD_eq_getElem?_getD, hlt]
  have hSok := hLok S hSm
  have hSlt := bfs_lt hsz hSm
  have hSl : S.length ≤ 192 := by
   have := hSok.elems
   have h2 := List.length_filter_le (inN S) (List.range (64 * 3))
   rw [← this]; unfold elemsB; simpa using h2
  have hLM2 : M < (bfsL n (i + 1)).length → dfaK n M = none := fun h => by
   rw [← hend, show M + 2 - i = (M + 1 - i) + 1 by omega, endD, if_neg (by omega), if_pos h]
  have hnext : (bfsL n (i + 1)).length ≤ M → endD n M (M + 2 - (i + 1)) (i + 1) = dfaK n M := fun h => by
   rw [← hend, show M + 2 - i = (M + 2 - (i + 1)) + 1 by omega, endD, if_neg (by omega), if_neg (by omega)]
  have hgS : (setsL (bfsL n i)).getD i default = pSet (inN S) := by rw [setsL_get hlt, ← hS]
  simp only [go_sem, B14_0, show (i : Int) < ((bfsL n i).length : Int) by omega, hgS]
  have r56 := fn47 (inN S)
  rw [hSok.elems] at r56
  refine ⟨hlt, ?_⟩
  refine runR_call (by simp only [go_sem]) rfl (r56) (.inl rfl) trivial ?_
  have hwid : ((n.signs.length : Int) + 1).toNat = n.wid := by unfold NF.wid; omega
  have hwd : n.wid ≤ 161 := by unfold NF.wid; omega
  simp only [go_sem, hwid]
  have hsl : n.signs.length + 1 = n.wid := rfl
  have hNl : (bfsN n i).length = i := by simp [bfsN]
  have hDl : (bfsD n i).length = i := by simp [bfsD]
  have hNs : bfsN n (i + 1) = bfsN n i ++ [rowN n S (bfsL n i) n.wid] := by simp [bfsN, List.range_succ, hS]
  have hDs : bfsD n (i + 1) = bfsD n i ++ [doneOf n S] := by simp [bfsD, List.range_succ, hS]
  have hLs : bfsL n (i + 1) = rowL n S (bfsL n i) n.wid := by simp only [bfsL]; rw [← hS]
  refine ⟨⟨by omega, by omega⟩, ⟨by omega, by omega, by omega⟩, ?_⟩
  refine run_loopG (T := Nat) (fun a => if a = n.wid then [(66, 66, 0)] else []) [1, 2, 4, 6, 7, 8, 9, 10, 11, 12, 68, 69] [2, 4, 9, 41, 42, 66, 129, 137]
   (fun a => if a = n.wid then ⟨[(1, .pv (pI M)), (2, .ptr 2 0), (4, .ptr 4 0), (6, .pv (pSteps n)), (7, .row 41 0 (rowL n S (bfsL n i) a).length), (8, .mp 42), (9, .ptr 9 0), (10, .pv (pI i)), (11, .pv (pNs S)), (12, .pv (ints (rowN n S (bfsL n i) a))), (68, .pv (pI n.wid)), (69, .pv (pI a))],
     [(2, .box (nBox n)), (4, .box [.e0, .e0, .e0]), (9, .box [.pv (ss n.signs), .row 129 0 i, .row 137 0 i]), (41, .sl 3 (setsL (rowL n S (bfsL n i) a))), (42, .mp (mapK 0 (rowL n S (bfsL n i) a))), (129, .sl 1 ((bfsN n i).map ints)), (137, .sl 1 ((bfsD n i).map pNs))]⟩
    else ⟨[(1, .pv (pI M)), (2, .ptr 2 0), (4, .ptr 4 0), (6, .pv (pSteps n)), (7, .row 41 0 (rowL n S (bfsL n i) a).length), (8, .mp 42), (9, .ptr 9 0), (10, .pv (pI i)), (11, .pv (pNs S)), (12, .row 66 0 n.wid), (68, .pv (pI n.wid)), (69, .pv (pI a))],
     [(2, .box (nBox n)), (4, .box [.e0, .e0, .e0]), (9, .box [.pv (ss n.signs), .row 129 0 i, .row 137 0 i]), (41, .sl 3 (setsL (rowL n S (bfsL n i) a))), (42, .mp (mapK 0 (rowL n S (bfsL n i) a))), (66, .sl 1 (partN n S (bfsL n i) a)), (129, .sl 1 ((bfsN n i).map ints)), (137, .sl 1 ((bfsD n i).map pNs))]⟩)
   (fun a => a ≤ n.wid ∧ (rowL n S (bfsL n i) a).length ≤ M) (fun a => n.wid - a) 0 ?_ ⟨Nat.zero_le _, hLM⟩ ?_
  ·rw [if_neg (show ¬ 0 = n.wid by omega)]
   simp only [go_sem, show ¬ 0 = n.wid by omega]
   rfl
  rintro a ⟨ha, hRM⟩
  by_cases halt : a < n.wid
  ·rw [if_neg (show ¬ a = n.wid by omega)]
   have hRok := row_ok hsz (S := S) hLok a
   simp only [go_sem, B14_1, show (a : Int) < (n.wid : Int) by omega]
   have hst := go_step hn.eg hSlt a
   have hTok := set_step hsz (toI S) (a : Int)
   have hLn : (rowL n S (bfsL n i) (a + 1)).length ≤ (bfsL n (i + 1)).length := by rw [hLs]; exact (rowL_pre n S _ (by omega)).length_le
   have hRs : rowL n S (bfsL n i) (a + 1) = addS (rowL n S (bfsL n i) a) (stepN n (toI S) (a : Int)) := rfl
   have hNs1 := partN_set (n := n) (S := S) (L := bfsL n i) halt
   have hNl1 := partN_len (n := n) (S := S) (L := bfsL n i) ha
   refine run_loopN (T := Nat) [1, 2, 4, 6, 7, 8, 9, 10, 11, 12, 13, 14, 68, 69, 72, 73, 74] [2, 4, 9, 14, 41, 42, 66, 129, 137] (fun m => ⟨[(1, .pv (pI M)), (2, .ptr 2 0), (4, .ptr 4 0), (6, .pv (pSteps n)), (7, .row 41 0 (rowL n S (bfsL n i) a).length), (8, .mp 42), (9, .ptr 9 0), (10, .pv (pI i)), (11, .pv (pNs S)), (12, .row 66 0 n.wid), (13, .pv (pI a)), (14, .ptr 14 0), (68, .pv (pI n.wid)), (69, .pv (pI a)), (72, .pv (pNs S)), (73, .pv (pI S.length)), (74, .pv (pI m))],
     [(2, .box (nBox n)), (4, .box [.e0, .e0, .e0]), (9, .box [.pv (ss n.signs), .row 129 0 i, .row 137 0 i]), (14, .box (wBox (unP n S a m))), (41, .sl 3 (setsL (rowL n S (bfsL n i) a))), (42, .mp (mapK 0 (rowL n S (bfsL n i) a))), (66, .sl 1 (partN n S (bfsL n i) a)), (129, .sl 1 ((bfsN n i).map ints)), (137, .sl 1 ((bfsD n i).map pNs))]⟩)
    (fun m => m ≤ S.length) (fun m => S.length - m) 0 ?_ (Nat.zero_le _) ?_
   ·have hz : wBox (unP n S a 0) = [.pv (pU 0), .pv (pU 0), .pv (pU 0)] := by
     have e : unP n S a 0 = fun _ => false := funext fun j => by simp [unP]
     rw [e]
     have h0 := wd_zero 0
     have h1 := wd_zero 1
     have h2 := wd_zero 2
     unfold wBox
     rw [h0, h1, h2]; rfl
    rw [hz]
    simp only [go_sem, show (toI S).length = S.length by simp [toI]]
   intro m hm2
   by_cases hml : m < S.length
   ·have hx : (toI S)[m]'(by simp [toI]; exact hml) = (S[m] : Int) := by simp [toI]
    have hsm := hSlt _ (List.getElem_mem hml)
    have hun := unP_succ (n := n) (a := a) hml
    generalize S[m] = s at hx hsm hun
    have hg1 : (tabL n.size fun s => rowPV n s).getD s default = rowPV n s := tabL_get hsm
    have hg2 : (tabL n.wid fun a => pSet (wayP n (n.ways.getD s []) a)).getD a default = pSet (wayP n (n.ways.getD s []) a) := tabL_get halt
    have hw1 : WfL 1 (tabL n.size fun s => rowPV n s) := wf_map (f := fun s => rowPV n s) (s := 1) (fun s => ⟨rfl, fun c hc => by simp only [PV.cells, List.mem_singleton] at hc; subst hc; rfl⟩) (List.range n.size)
    have hw2 : WfL 3 (tabL n.wid fun a => pSet (wayP n (n.ways.getD s []) a)) := wf_sets _ _
    simp only [go_sem, B14_2, show (m : Int) < (S.length : Int) by omega, show (toI S).length = S.length by simp [toI], wf_ints, getD_map (show m < (toI S).length by simp [toI]; exact hml), hx, tabL_len, hg1, hg2, hw1, hw2, show (s : Int) < (n.size : Int) by omega, show (a : Int) < (n.wid : Int) by omega]
    refine runR_callf (by simp only [go_sem]) (by simp only [go_sem] <;> rfl) (fn48 (unP n S a m) (wayP n (n.ways.getD s []) a)) ⟨rfl, trivial⟩ trivial ?_
    simp only [go_sem]
    refine ⟨⟨by omega, by omega⟩, m + 1, ?_, hml, by omega⟩
    rw [hun]
    rfl
   ·have hme : m = S.length := by omega
    subst hme
    obtain ⟨T, hT⟩ : ∃ T, T = stepN n (toI S) (a : Int) := ⟨_, rfl⟩
    have hU : unP n S a S.length = inN T := funext fun j => by
     show ((S.take S.length).any _) = _
     rw [List.take_length, hT]; exact hst j
    rw [← hT] at hTok hRs hNs1
    rw [hU]
    have hlk := lkp_K hTok (L := rowL n S (bfsL n i) a) 0 hRok
    have hs0 := same_zero hTok
    have hlike := like_K (inN T) (rowL n S (bfsL n i) a) 0
    have nxt : ∀ (len : Nat) (X : List PV) (es : List (PV × PV)) (Q : List PV), len = (rowL n S (bfsL n i) (a + 1)).length → X = setsL (rowL n S (bfsL n i) (a + 1)) → es = mapK 0 (rowL n S (bfsL n i) (a + 1)) → Q = partN n S (bfsL n i) (a + 1) →
      (rowL n S (bfsL n i) (a + 1)).length ≤ M → ∃ t', GH (if t' = n.wid then [(66, 66, 0)] else []) [1, 2, 4, 6, 7, 8, 9, 10, 11, 12, 68, 69] [2, 4, 9, 41, 42, 66, 129, 137]
       ⟨[(1, .pv (pI M)), (2, .ptr 2 0), (4, .ptr 4 0), (6, .pv (pSteps n)), (7, .row 41 0 len), (8, .mp 42), (9, .ptr 9 0), (10, .pv (pI i)), (11, .pv (pNs S)), (12, .row 66 0 n.wid), (68, .pv (pI n.wid)), (69, .pv (pI ((a : Int) + 1)))],
        [(2, .box (nBox n)), (4, .box [.e0, .e0, .e0]), (9, .box [.pv (ss n.signs), .row 129 0 i, .row 137 0 i]), (41, .sl 3 X), (42, .mp es), (66, .sl 1 Q), (129, .sl 1 ((bfsN n i).map ints)), (137, .sl 1 ((bfsD n i).map pNs))]⟩
       (if t' = n.wid then ⟨[(1, .pv (pI M)), (2, .ptr 2 0), (4, .ptr 4 0), (6, .pv (pSteps n)), (7, .row 41 0 (rowL n S (bfsL n i) t').length), (8, .mp 42), (9, .ptr 9 0), (10, .pv (pI i)), (11, .pv (pNs S)), (12, .pv (ints (rowN n S (bfsL n i) t'))), (68, .pv (pI n.wid)), (69, .pv (pI t'))],
         [(2, .box (nBox n)), (4, .box [.e0, .e0, .e0]), (9, .box [.pv (ss n.signs), .row 129 0 i, .row 137 0 i]), (41, .sl 3 (setsL (rowL n S (bfsL n i) t'))), (42, .mp (mapK 0 (rowL n S (bfsL n i) t'))), (129, .sl 1 ((bfsN n i).map ints)), (137, .sl 1 ((bfsD n i).map pNs))]⟩
        else ⟨[(1, .pv (pI M)), (2, .ptr 2 0), (4, .ptr 4 0), (6, .pv (pSteps n)), (7, .row 41 0 (rowL n S (bfsL n i) t').length), (8, .mp 42), (9, .ptr 9 0), (10, .pv (pI i)), (11, .pv (pNs S)), (12, .row 66 0 n.wid), (68, .pv (pI n.wid)), (69, .pv (pI t'))],
         [(2, .box (nBox n)), (4, .box [.e0, .e0, .e0]), (9, .box [.pv (ss n.signs), .row 129 0 i, .row 137 0 i]), (41, .sl 3 (setsL (rowL n S (bfsL n i) t'))), (42, .mp (mapK 0 (rowL n S (bfsL n i) t'))), (66, .sl 1 (partN n S (bfsL n i) t')), (129, .sl 1 ((bfsN n i).map ints)), (137, .sl 1 ((bfsD n i).map pNs))]⟩) ∧ (t' ≤ n.wid ∧ (rowL n S (bfsL n i) t').length ≤ M) ∧ n.wid - t' < n.wid - a := by
     rintro _ _ _ _ rfl rfl rfl rfl hle
     refine ⟨a + 1, ?_, ⟨halt, hle⟩, by omega⟩
     have hsi : (a : Int) + 1 = ((a + 1 : Nat) : Int) := by omega
     unfold GH
     by_cases h9 : a + 1 = n.wid
     ·have hpe : List.take n.wid (partN n S (bfsL n i) (a + 1)) = (rowN n S (bfsL n i) (a + 1)).map fun x => pI x := by
       rw [h9, partN_end, List.take_of_length_le (by simp [rowN_len])]
      rw [if_pos h9, if_pos h9, hsi]
      simp only [go_sem, hpe]
     ·rw [if_neg h9, if_neg h9, hsi]
      simp only [go_sem]
    have hga := partN_get (n := n) (S := S) (L := bfsL n i) halt
    have hz0 : (((wd (inN T) 0 : Nat) : Int) = 0 ∧ ((wd (inN T) 1 : Nat) : Int) = 0 ∧ ((wd (inN T) 2 : Nat) : Int) = 0) = (T = []) := by
     have h := hs0
     simp only [sameV, Bool.and_true] at h
     rw [← Bool.decide_and, ← Bool.decide_and] at h
     have h3 := congrArg (fun b : Bool => b = true) h
     simpa using h3
    have hz20 : (¬((wd (inN T) 0 : Nat) : Int) = 0 ∨ ¬((wd (inN T) 1 : Nat) : Int) = 0 ∨ ¬((wd (inN T) 2 : Nat) : Int) = 0) = ¬ (T = []) := by
     rw [← hz0, Classical.not_and_iff_not_or_not, Classical.not_and_iff_not_or_not]
    by_cases hT0 : T = []
    ·have hz2 := hz20.trans (eq_false fun h => h hT0)
     have hsame : rowL n S (bfsL n i) (a + 1) = rowL n S (bfsL n i) a := by rw [hRs]; unfold addS; rw [if_pos (.inl hT0)]
     have hnum : numS (rowL n S (bfsL n i) a) T = -1 := by unfold numS; rw [if_pos hT0]
     rw [hnum] at hNs1
     have hz := hz0.trans (eq_true hT0)
     have hle : (rowL n S (bfsL n i) (a + 1)).length ≤ M := by rw [hsame]; exact hRM
     by_cases hTm : T ∈ rowL n S (bfsL n i) a
     ·rw [if_pos hTm] at hlk
      simp only [go_sem, B14_2, R14_2, show ¬ (S.length : Int) < (S.length : Int) by omega, hlk, hz, hz2, true_implies, hlike, hga]
      refine ⟨by omega, by rw [hNl1]; exact halt, ⟨by omega, by omega⟩, ?_⟩
      exact nxt _ _ _ _ (by rw [hsame]) (by rw [hsame]) (by rw [hsame]) hNs1 hle
     ·rw [if_neg hTm] at hlk
      simp only [go_sem, B14_2, R14_2, show ¬ (S.length : Int) < (S.length : Int) by omega, hlk, hz, hz2, true_implies, hlike, hga]
      refine ⟨by omega, by rw [hNl1]; exact halt, ⟨by omega, by omega⟩, ?_⟩
      exact nxt _ _ _ _ (by rw [hsame]) (by rw [hsame]) (by rw [hsame]) hNs1 hle
    ·have hz := hz0.trans (eq_false hT0)
     have hz2 := hz20.trans (eq_true hT0)
     by_cases hTm : T ∈ rowL n S (bfsL n i) a
     ·rw [if_pos hTm] at hlk
      have hsame : rowL n S (bfsL n i) (a + 1) = rowL n S (bfsL n i) a := by rw [hRs]; unfold addS; rw [if_pos (.inr hTm)]
      have hnum : numS (rowL n S (bfsL n i) a) T = ((0 + (rowL n S (bfsL n i) a).idxOf T : Nat) : Int) := by unfold numS; rw [if_neg hT0]; simp
      rw [hnum] at hNs1
      have hle : (rowL n S (bfsL n i) (a + 1)).length ≤ M := by rw [hsame]; exact hRM
      simp only [go_sem, B14_2, R14_2, show ¬ (S.length : Int) < (S.length : Int) by omega, hlk, hz, hz2, true_implies, hlike, hga]
      refine ⟨by omega, by rw [hNl1]; exact halt, ⟨by omega, by omega⟩, ?_⟩
      exact nxt _ _ _ _ (by rw [hsame]) (by rw [hsame]) (by rw [hsame]) (by rw [← hNs1]; simp) hle
     ·rw [if_neg hTm] at hlk
      have hnew : rowL n S (bfsL n i) (a + 1) = rowL n S (bfsL n i) a ++ [T] := by rw [hRs]; unfold addS; rw [if_neg (by rw [not_or]; exact ⟨hT0, hTm⟩)]
      by_cases hfull : (rowL n S (bfsL n i) a).length = M
      ·have hno := hLM2 (by rw [hnew, List.length_append, List.length_singleton] at hLn; omega)
       rw [hno] at hR hE
       simp only [go_sem, B14_2, R14_2, show ¬ (S.length : Int) < (S.length : Int) by omega, hlk, hz, hz2, true_implies, hlike, hga, hfull]
       rw [hR, hE]
       rfl
      ·have hnum : numS (rowL n S (bfsL n i) a) T = ((rowL n S (bfsL n i) a).length : Int) := by unfold numS; rw [if_neg hT0, List.idxOf_eq_length hTm]
       rw [hnum] at hNs1
       have hle : (rowL n S (bfsL n i) (a + 1)).length ≤ M := by rw [hnew, List.length_append, List.length_singleton]; omega
       have hput := mput_K hTok (v := pI ((rowL n S (bfsL n i) a).length : Nat)) 0 hRok hTm
       have hma := mapK_app (rowL n S (bfsL n i) a) 0 T
       rw [Nat.zero_add] at hma
       simp only [go_sem, B14_2, R14_2, show ¬ (S.length : Int) < (S.length : Int) by omega, hlk, hz, hz2, true_implies, hlike, hga, show ¬ ((rowL n S (bfsL n i) a).length : Int) = (M : Int) by omega, hput]
       refine ⟨⟨wf_setsL [T], by omega, by omega⟩, by omega, by rw [hNl1]; exact halt, ⟨by omega, by omega⟩, ?_⟩
       exact nxt _ _ _ _ (by rw [hnew]; simp) (by rw [hnew, List.take_of_length_le (by simp)]; show _ = List.map _ (_ ++ [T]); rw [List.map_append]; rfl) (by rw [hnew, hma]) hNs1 hle
  ·have hae : a = n.wid := by omega
   subst hae
   rw [if_pos rfl, ← hLs]
   rw [← hLs] at hRM
   have hdn := fn49 n S hn.dn hSok.ris (by omega) hn.done
   have tkN : List.take i ((bfsN n i).map ints) = (bfsN n i).map ints := List.take_of_length_le (by simp [hNl])
   have tkD : List.take i ((bfsD n i).map pNs) = (bfsD n i).map pNs := List.take_of_length_le (by simp [hDl])
   simp only [go_sem, B14_1, R14_1, show ¬ (n.wid : Int) < (n.wid : Int) by omega, tkN]
   refine ⟨⟨wf_rows [rowN n S (bfsL n i) n.wid], by omega, by omega⟩, ?_⟩
   refine runR_call (by simp only [go_sem]) rfl (hdn) (.inl rfl) trivial ?_
   simp only [go_sem, tkD]
   refine ⟨⟨wf_pNs [doneOf n S], by omega, by omega⟩, ⟨by omega, by omega⟩, i + 1, ?_, ⟨?_, hRM, hnext hRM⟩, by omega⟩
   ·rw [hNs, hDs, List.map_append, List.map_append]
    rfl
   ·have := (bfsL_pre n (show i ≤ i + 1 by omega)).length_le
    omega
 ·have hie : i = (bfsL n i).length := by omega
  have hK : dfaK n M = some i := by
   rw [← hend, show M + 2 - i = (M + 1 - i) + 1 by omega, endD, if_pos (by omega)]
  rw [hK] at hR hE
  have tkN : List.take i ((bfsN n i).map ints) = (bfsN n i).map ints := List.take_of_length_le (by simp [bfsN])
  have tkD : List.take i ((bfsD n i).map pNs) = (bfsD n i).map pNs := List.take_of_length_le (by simp [bfsD])
  simp only [go_sem, B14_0, R14_0, show ¬ (i : Int) < ((bfsL n i).length : Int) by omega, tkN, tkD]
  rw [hR, hE]
  rfl
end Go.Vc

namespace Go.Vc
open Go.Proofs
set_option maxRecDepth 100000
def M9 : MC := (.seq (.reg [⟨some 4,none,.alloc [.e0,.e0,.e0]⟩,qi 5 (.mv (ic 0))] [] [0,1,4] [4,1019]) (.seq (.reg [mi 9 0,⟨some 10,none,.call (.f 13) [.t 9]⟩,mi 8 10,qi 11 (.ext (.t 8) 0),qi 12 (.ext (.t 8) 1),⟨some 6,none,.alloc [.e0,.e0,.e0,.e0]⟩,⟨none,none,.st (.t 6) (.t 11) 4⟩,mi 7 12] [] [1,4,6,7] [4,6,1010,1019]) (.seq (.seq (.reg [mi 13 7,qi 14 (.bin .neq (.t 13) (ic 0))] [] [1,4,6,7,14] [4,6,1010,1019]) (.cond (.t 14) (.seq (.reg [qi 15 (.mk [.e0,.e0,.e0] []),mi 16 7,⟨none,none,.st (.t 4) (.t 15) 3⟩,mi 5 16] [] [4,5] [4,1010,1019]) .ret) .skip)) (.seq (.reg [qi 17 (.ld (.t 6) 4 true),mi 18 1,⟨some 19,none,.call (.f 14) [.t 17,.t 18]⟩,qi 20 (.ext (.t 19) 0),qi 21 (.ext (.t 19) 1),⟨none,none,.st (.t 4) (.t 20) 3⟩,mi 5 21] [] [4,5] [4,1010,1019]) .ret))))
theorem mc9 : ofCode Tryz.prog [] Tryz.f9.ntmps [(0, ⟨[0, 1, 4], [4, 1019], [], 0, [], none⟩),
  (1, ⟨[1, 4, 6, 7], [4, 6, 1010, 1019], [], 0, [], none⟩),
  (2, ⟨[1, 4, 6, 7, 14], [4, 6, 1010, 1019], [], 0, [], none⟩),
  (3, ⟨[4, 5], [4, 1010, 1019], [], 0, [], none⟩),
  (4, ⟨[4, 5], [4, 1010, 1019], [], 0, [], none⟩)] (Tryz.f9.body.getD .skip) = some M9 := by kernel_rfl
theorem Run9 {args : List PV} {v : AV} {rs : List (Nat × List PV)} (ids : List Bool) (h : args.length ≤ 22) (hv : run Tryz.prog (retK [RV.cell 4 3 true, RV.tmp 5] ids v rs) M9 [] ⟨entry 0 args, []⟩) : Fn Tryz.prog 9 args v rs :=
 Fn_run ids (by kernel_rfl) Tryz.func9 (by decide) rfl mc9 (by kernel_rfl) (by rw [Tryz.ntmps9]; exact h) (by rw [Tryz.ntmps9]; decide) hv
def B27_0 : MC := (.seq (.reg [qi 20 (.bin .lss (.t 19) (.t 18))] [] [2,5,6,17,18,19,20] [2,5,1017]) (.seq (.cond (.t 20) .skip (.exit 0)) (.seq (.block 1 (.seq (.reg [qi 21 (.ia (.t 17) (.t 19) 1),qi 22 (.ld (.t 21) 1 false),mi 8 22] [] [2,5,6,8,17,18,19] [2,5,1017]) (.seq (.reg [qi 23 (.ld (.t 5) 4 true),mi 24 8,⟨some 25,none,.call (.f 57) [.t 23,.t 24]⟩,mi 9 25] [] [2,5,6,9,17,18,19] [2,5,1017,1025]) (.seq (.seq (.reg [mi 26 6,qi 27 (.bin .lss (.t 26) (ic 0)),mi 28 27,gi 29 28 false (.mv (.t 6)),gi 30 28 false (.fa (.t 2) 1),gi 31 28 false (.ld (.t 30) 1 false),gi 32 28 false (.len (.t 31) false),gi 33 28 false (.bin .geq (.t 29) (.t 32)),qi 34 (.pick (.t 28) (.c (.bool true)) (.t 33)),mi 35 34,gi 36 35 false (.mv (.t 9)),gi 37 35 false (.fa (.t 2) 1),gi 38 35 false (.ld (.t 37) 1 false),gi 39 35 false (.mv (.t 6)),gi 40 35 false (.ia (.t 38) (.t 39) 1),gi 41 35 false (.ld (.t 40) 1 false),gi 42 35 false (.len (.t 41) false),gi 43 35 false (.bin .geq (.t 36) (.t 42)),qi 44 (.pick (.t 35) (.c (.bool true)) (.t 43))] [] [2,5,6,9,17,18,19,44] [2,5,1017,1025]) (.cond (.t 44) (.seq (.reg [qi 4 (.mv .nil)] [] [4] [1075]) .ret) .skip)) (.reg [qi 45 (.fa (.t 2) 1),qi 46 (.ld (.t 45) 1 false),mi 47 6,qi 48 (.ia (.t 46) (.t 47) 1),qi 49 (.ld (.t 48) 1 false),mi 50 9,qi 51 (.ia (.t 49) (.t 50) 1),qi 52 (.ld (.t 51) 1 false),mi 6 52] [] [2,5,6,17,18,19] [2,5,1017]))))) (.reg [qi 53 (.bin .add (.t 19) (ic 1)),mi 19 53] [] [2,5,6,17,18,19] [2,5,1017]))))
def R27_0 : MC := (.seq (.seq (.reg [mi 54 6,qi 55 (.bin .lss (.t 54) (ic 0)),mi 56 55,gi 57 56 false (.mv (.t 6)),gi 58 56 false (.fa (.t 2) 1),gi 59 56 false (.ld (.t 58) 1 false),gi 60 56 false (.len (.t 59) false),gi 61 56 false (.bin .geq (.t 57) (.t 60)),qi 62 (.pick (.t 56) (.c (.bool true)) (.t 61)),mi 63 62,gi 64 63 false (.mv (.t 6)),gi 65 63 false (.fa (.t 2) 2),gi 66 63 false (.ld (.t 65) 1 false),gi 67 63 false (.len (.t 66) false),gi 68 63 false (.bin .geq (.t 64) (.t 67)),qi 69 (.pick (.t 63) (.c (.bool true)) (.t 68))] [] [2,6,69] [2]) (.cond (.t 69) (.seq (.reg [qi 4 (.mv .nil)] [] [4] [1075]) .ret) .skip)) (.seq (.reg [qi 70 (.fa (.t 2) 2),qi 71 (.ld (.t 70) 1 false),mi 72 6,qi 73 (.ia (.t 71) (.t 72) 1),qi 74 (.ld (.t 73) 1 false),⟨some 75,none,.call (.f 53) [.t 74]⟩,mi 4 75] [] [4] [1075]) .ret))
def M27 : MC := (.seq (.reg [⟨some 2,none,.box (.t 0)⟩,qi 4 (.mv .nil)] [] [1,2] [2]) (.seq (.seq (.reg [mi 10 1,⟨some 11,none,.call (.f 56) [.t 10]⟩,qi 12 (.not (.t 11))] [] [1,2,12] [2,1011]) (.cond (.t 12) (.seq (.reg [qi 4 (.mv .nil)] [] [4] [1075]) .ret) .skip)) (.seq (.reg [qi 13 (.fa (.t 2) 0),qi 14 (.ld (.t 13) 1 false),qi 15 (.mk [.e0,.e0,.e0,.e0] [(0,1,(.t 14))]),⟨some 5,none,.alloc [.e0,.e0,.e0,.e0]⟩,⟨none,none,.st (.t 5) (.t 15) 4⟩] [] [1,2,5] [2,5]) (.seq (.reg [qi 6 (.mv (ic 0))] [] [1,2,5,6] [2,5]) (.seq (.seq (.reg [mi 16 1,⟨some 17,none,.call (.f 41) [.t 16]⟩,qi 18 (.len (.t 17) false),qi 19 (.mv (ic 0))] [] [2,5,6,17,18,19] [2,5,1017]) (.block 0 (.loop B27_0))) R27_0)))))
theorem mc27 : ofCode Tryz.prog [] Tryz.f27.ntmps [(0, ⟨[1, 2], [2], [], 0, [], none⟩),
  (1, ⟨[1, 2, 12], [2, 1011], [], 0, [], none⟩),
  (2, ⟨[4], [1075], [], 0, [], none⟩),
  (3, ⟨[1, 2, 5], [2, 5], [], 0, [], none⟩),
  (4, ⟨[1, 2, 5, 6], [2, 5], [], 0, [], none⟩),
  (5, ⟨[2, 5, 6, 17, 18, 19], [2, 5, 1017], [], 0, [], none⟩),
  (6, ⟨[2, 5, 6, 17, 18, 19, 20], [2, 5, 1017], [], 0, [], none⟩),
  (7, ⟨[2, 5, 6, 8, 17, 18, 19], [2, 5, 1017], [], 0, [], none⟩),
  (8, ⟨[2, 5, 6, 9, 17, 18, 19], [2, 5, 1017, 1025], [], 0, [], none⟩),
  (9, ⟨[2, 5, 6, 9, 17, 18, 19, 44], [2, 5, 1017, 1025], [], 0, [], none⟩),
  (10, ⟨[4], [1075], [], 0, [], none⟩),
  (11, ⟨[2, 5, 6, 17, 18, 19], [2, 5, 1017], [], 0, [], none⟩),
  (12, ⟨[2, 5, 6, 17, 18, 19], [2, 5, 1017], [], 0, [], none⟩),
  (13, ⟨[2, 6, 69], [2], [], 0, [], none⟩),
  (14, ⟨[4], [1075], [], 0, [], none⟩),
  (15, ⟨[4], [1075], [], 0, [], none⟩)] (Tryz.f27.body.getD .skip) = some M27 := by kernel_rfl
theorem Run27 {args : List PV} {v : AV} {rs : List (Nat × List PV)} (ids : List Bool) (h : args.length ≤ 76) (hv : run Tryz.prog (retK [RV.tmp 4] ids v rs) M27 [] ⟨entry 0 args, []⟩) : Fn Tryz.prog 27 args v rs :=
 Fn_run ids (by kernel_rfl) Tryz.func27 (by decide) rfl mc27 (by kernel_rfl) (by rw [Tryz.ntmps27]; exact h) (by rw [Tryz.ntmps27]; decide) hv
end Go.Vc
