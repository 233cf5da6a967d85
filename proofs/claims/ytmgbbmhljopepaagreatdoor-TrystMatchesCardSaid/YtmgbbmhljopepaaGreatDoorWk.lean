/- A part of the proofs of the seat YtmgbbmhljopepaaGreatDoor: the contracts of functions, each proved out of its code. -/
import Derived.Test.YtmgbbmhljopepaaGreatDoorWc
import Derived.Test.YtmgbbmhljopepaaGreatDoorWj
import Derived.Test.YtmgbbmhljopepaaGreatDoorVe
import Derived.Test.YtmgbbmhljopepaaGreatDoorProg
namespace Go.Vc
open Go.Proofs
set_option linter.unusedSimpArgs false
set_option linter.unusedVariables false
abbrev lp (k : Nat × Nat) : PV := .agg [pI k.1, pI k.2]
abbrev enU (k : Nat × Nat) : PV × PV := (lp k, .agg [])
theorem wf_lp (l : List (Nat × Nat)) : WfL 2 (l.map lp) := wf_map (f := lp) (s := 2) (fun a => ⟨rfl, fun c hc => by
 simp only [PV.cells, List.mem_cons, List.not_mem_nil, or_false] at hc
 rcases hc with rfl | rfl <;> rfl⟩) l
theorem lkp_L (k : Nat × Nat) : ∀ met : List (Nat × Nat), lkp (lp k) (met.map enU) = if k ∈ met then some (.agg []) else none
 | [] => rfl
 | m :: met => by
  simp only [List.map_cons, lkp, keyEq, sameV, lkp_L k met]
  by_cases h : k = m
  ·subst h; simp
  ·have : ¬ ((k.1 : Int) = (m.1 : Int) ∧ (k.2 : Int) = (m.2 : Int)) := fun ⟨h1, h2⟩ => h (Prod.ext (by omega) (by omega))
   have h2 : (decide ((k.1 : Int) = (m.1 : Int)) && (decide ((k.2 : Int) = (m.2 : Int)) && true)) = false := by
    rw [Bool.and_true, Bool.and_eq_false_iff, decide_eq_false_iff_not, decide_eq_false_iff_not]; omega
   rw [h2]
   simp [h]
theorem mput_L (k : Nat × Nat) : ∀ {met : List (Nat × Nat)}, k ∉ met → mput (lp k) (.agg []) (met.map enU) = (met ++ [k]).map enU
 | [], _ => rfl
 | m :: met, h => by
  have h1 : k ≠ m := fun e => h (by simp [e])
  have h2 : (decide ((k.1 : Int) = (m.1 : Int)) && (decide ((k.2 : Int) = (m.2 : Int)) && true)) = false := by
   rw [Bool.and_true, Bool.and_eq_false_iff, decide_eq_false_iff_not, decide_eq_false_iff_not]
   have : ¬ ((k.1 : Int) = (m.1 : Int) ∧ (k.2 : Int) = (m.2 : Int)) := fun ⟨h1', h2'⟩ => h1 (Prod.ext (by omega) (by omega))
   omega
  simp only [List.map_cons, mput, keyEq, sameV, h2, Bool.false_eq_true, if_false, List.cons_append, List.cons.injEq, true_and]
  exact mput_L k fun hm => h (List.mem_cons_of_mem _ hm)
theorem like_L (k : Nat × Nat) : ∀ met : List (Nat × Nat), keysLike (.st [0, 0]) (lp k) (met.map enU)
 | [] => trivial
 | m :: met => by simp only [List.map_cons, keysLike, keyLike, sameP]; exact ⟨⟨trivial, trivial, trivial⟩, like_L k met⟩
theorem fnS64o (k : Nat × Nat) (met : List (Nat × Nat)) (xs : List PV) (n : Nat) (hk : k ∈ met) :
  FnS Tryz.prog 64 [.pv (lp k), .ptr 200000 0, .ptr 200001 0] [(200000, .box [.mp 200002]), (200001, .box [.row 150000 0 n]), (200002, .mp (met.map enU)), (150000, .sl 2 xs)] (.pv (.tup []))
   [(200000, .box [.mp 200002]), (200001, .box [.row 150000 0 n]), (200002, .mp (met.map enU)), (150000, .sl 2 xs)] := by
 refine RunS64 (by simp) (by simp) ?_
 have hl : lkp (lp k) (met.map enU) = some (.agg []) := by rw [lkp_L, if_pos hk]
 simp only [go_sem, M64, hl, like_L]
theorem fnS64n (k : Nat × Nat) (met : List (Nat × Nat)) (ws : List (Nat × Nat)) (xs : List PV) (hk : k ∉ met) (hw : ws.length < 10000000) :
  FnS Tryz.prog 64 [.pv (lp k), .ptr 200000 0, .ptr 200001 0] [(200000, .box [.mp 200002]), (200001, .box [.row 150000 0 ws.length]), (200002, .mp (met.map enU)), (150000, .sl 2 (ws.map lp ++ xs))] (.pv (.tup []))
   [(200000, .box [.mp 200002]), (200001, .box [.row 150000 0 (ws.length + 1)]), (200002, .mp ((met ++ [k]).map enU)), (150000, .sl 2 ((ws ++ [k]).map lp))] := by
 refine RunS64 (by simp) (by simp) ?_
 have tk : List.take ws.length (ws.map lp ++ xs) = ws.map lp := List.take_left' (by simp)
 simp only [go_sem, M64, lkp_L, like_L, hk, mput_L k hk, tk]
 exact ⟨⟨wf_lp [k], by omega, by omega⟩, by rw [List.map_append]; rfl⟩
def nextK (g t : List ByteArray) (k : Nat × Nat) : List (Nat × Nat) :=
 if k.1 = g.length then [] else if g.getD k.1 ⟨#[]⟩ = sAll then (k.1 + 1, k.2) :: (if k.2 < t.length then [(k.1, k.2 + 1)] else [])
 else if k.2 < t.length ∧ (g.getD k.1 ⟨#[]⟩ = sAny ∨ g.getD k.1 ⟨#[]⟩ = t.getD k.2 ⟨#[]⟩) then [(k.1 + 1, k.2 + 1)] else []
def accK (g t : List ByteArray) (k : Nat × Nat) : Prop := MatchP (g.drop k.1) (t.drop k.2)
theorem drop_get {l : List ByteArray} {i : Nat} (h : i < l.length) : l.drop i = l.getD i ⟨#[]⟩ :: l.drop (i + 1) := by
 rw [List.drop_eq_getElem_cons h]; simp [List.getD_eq_getElem?_getD, h]
theorem nextK_acc {g t : List ByteArray} {k k' : Nat × Nat} (h : k.1 ≤ g.length) (h1 : k' ∈ nextK g t k) (h2 : accK g t k') : accK g t k := by
 unfold nextK at h1
 split at h1
 ·cases h1
 ·rename_i hne
  have hlt : k.1 < g.length := by omega
  unfold accK at *
  rw [drop_get hlt]
  split at h1
  ·rename_i ha
   rw [ha]
   rcases List.mem_cons.1 h1 with rfl | h1
   ·exact .skip h2
   ·split at h1
    ·rename_i hlt2
     simp only [List.mem_singleton] at h1
     subst h1
     rw [drop_get hlt2]
     rw [drop_get hlt, ha] at h2
     exact .take h2
    ·cases h1
  ·rename_i ha
   split at h1
   ·rename_i hc
    simp only [List.mem_singleton] at h1
    subst h1
    rw [drop_get hc.1]
    exact .one ha hc.2 h2
   ·cases h1
theorem acc_next {g t : List ByteArray} {k : Nat × Nat} (h : k.1 ≤ g.length) (h2 : k.2 ≤ t.length) (h3 : accK g t k) : k = (g.length, t.length) ∨ ∃ k' ∈ nextK g t k, accK g t k' ∧ k'.1 + k'.2 > k.1 + k.2 := by
 unfold accK at h3
 by_cases hlt : k.1 < g.length
 ·rw [drop_get hlt] at h3
  unfold nextK
  rw [if_neg (by omega)]
  right
  obtain ⟨p, hp⟩ : ∃ p, p = g.getD k.1 ⟨#[]⟩ := ⟨_, rfl⟩
  rw [← hp] at h3 ⊢
  by_cases ha : p = sAll
  ·rw [if_pos ha]
   rw [ha] at h3
   by_cases hlt2 : k.2 < t.length
   ·rw [drop_get hlt2] at h3
    rw [if_pos hlt2]
    cases h3 with
    | skip h3 => exact ⟨(k.1 + 1, k.2), by simp, by unfold accK; rw [drop_get hlt2]; exact h3, by simp only; omega⟩
    | take h3 => exact ⟨(k.1, k.2 + 1), by simp, by unfold accK; simp only; rw [drop_get hlt, ← hp, ha]; exact h3, by simp only; omega⟩
    | one h4 _ _ => exact absurd rfl h4
   ·rw [List.drop_of_length_le (show t.length ≤ k.2 by omega)] at h3
    cases h3 with
    | skip h3 => exact ⟨(k.1 + 1, k.2), by simp, by unfold accK; rw [List.drop_of_length_le (show t.length ≤ k.2 by omega)]; exact h3, by simp only; omega⟩
  ·rw [if_neg ha]
   by_cases hlt2 : k.2 < t.length
   ·rw [drop_get hlt2] at h3
    cases h3 with
    | skip h3 => exact absurd rfl ha
    | take h3 => exact absurd rfl ha
    | one _ h4 h5 => exact ⟨(k.1 + 1, k.2 + 1), by rw [if_pos ⟨hlt2, h4⟩]; simp, h5, by simp only; omega⟩
   ·rw [List.drop_of_length_le (show t.length ≤ k.2 by omega)] at h3
    cases h3 with
    | skip h3 => exact absurd rfl ha
 ·left
  rw [List.drop_of_length_le (show g.length ≤ k.1 by omega)] at h3
  have : t.drop k.2 = [] := by cases h : t.drop k.2 with
   | nil => rfl
   | cons q u => rw [h] at h3; cases h3
  have h5 : t.length - k.2 = 0 := by rw [← List.length_drop, this]; rfl
  exact Prod.ext (by simp only; omega) (by simp only; omega)
theorem nextK_in {g t : List ByteArray} {k k' : Nat × Nat} (h : k.1 ≤ g.length) (h2 : k.2 ≤ t.length) (h1 : k' ∈ nextK g t k) : k'.1 ≤ g.length ∧ k'.2 ≤ t.length := by
 unfold nextK at h1
 split at h1
 ·cases h1
 ·split at h1
  ·rcases List.mem_cons.1 h1 with rfl | h1
   ·exact ⟨by simp only; omega, h2⟩
   ·split at h1
    ·simp only [List.mem_singleton] at h1; subst h1; exact ⟨h, by simp only; omega⟩
    ·cases h1
  ·split at h1
   ·rename_i hc
    simp only [List.mem_singleton] at h1; subst h1; exact ⟨by simp only; omega, by simp only; omega⟩
   ·cases h1
structure InvK (g t : List ByteArray) (met ws : List (Nat × Nat)) : Prop where
 nodup : met.Nodup
 inn : ∀ k ∈ met, k.1 ≤ g.length ∧ k.2 ≤ t.length
 zero : (0, 0) ∈ met
 sub : ∀ k ∈ ws, k ∈ met
 sound : ∀ k ∈ met, accK g t k → accK g t (0, 0)
 shut : ∀ k ∈ met, k ∈ ws ∨ ∀ k' ∈ nextK g t k, k' ∈ met
structure MidK (g t : List ByteArray) (k : Nat × Nat) (todo met ws : List (Nat × Nat)) : Prop where
 nodup : met.Nodup
 inn : ∀ k ∈ met, k.1 ≤ g.length ∧ k.2 ≤ t.length
 zero : (0, 0) ∈ met
 sub : ∀ k ∈ ws, k ∈ met
 sound : ∀ k ∈ met, accK g t k → accK g t (0, 0)
 own : k ∈ met
 left : ∀ k' ∈ nextK g t k, k' ∈ met ∨ k' ∈ todo
 rest : ∀ k' ∈ todo, k' ∈ nextK g t k
 shut : ∀ j ∈ met, j = k ∨ j ∈ ws ∨ ∀ k' ∈ nextK g t j, k' ∈ met
theorem InvK.pop {g t : List ByteArray} {met ws : List (Nat × Nat)} {k : Nat × Nat} (h : InvK g t met (ws ++ [k])) : MidK g t k (nextK g t k) met ws where
 nodup := h.nodup
 inn := h.inn
 zero := h.zero
 sub := fun j hj => h.sub j (List.mem_append_left _ hj)
 sound := h.sound
 own := h.sub k (by simp)
 left := fun k' hk => .inr hk
 rest := fun k' hk => hk
 shut := fun j hj => by
  rcases h.shut j hj with h1 | h1
  ·rcases List.mem_append.1 h1 with h1 | h1
   ·exact .inr (.inl h1)
   ·simp only [List.mem_singleton] at h1; exact .inl h1
  ·exact .inr (.inr h1)
theorem MidK.old {g t : List ByteArray} {met ws todo : List (Nat × Nat)} {k k1 : Nat × Nat} (h : MidK g t k (k1 :: todo) met ws) (hk : k1 ∈ met) : MidK g t k todo met ws :=
 {h with
  left := fun k' hk' => by
   rcases h.left k' hk' with h1 | h1
   ·exact .inl h1
   ·rcases List.mem_cons.1 h1 with rfl | h1
    ·exact .inl hk
    ·exact .inr h1
  rest := fun k' hk' => h.rest k' (List.mem_cons_of_mem _ hk') }
theorem MidK.new {g t : List ByteArray} {met ws todo : List (Nat × Nat)} {k k1 : Nat × Nat} (h : MidK g t k (k1 :: todo) met ws) (hk : k1 ∉ met) : MidK g t k todo (met ++ [k1]) (ws ++ [k1]) := by
 have h1 := h.rest k1 (by simp)
 have hin := nextK_in (h.inn k h.own).1 (h.inn k h.own).2 h1
 refine ⟨?_, fun j hj => ?_, List.mem_append_left _ h.zero, fun j hj => ?_, fun j hj hacc => ?_, List.mem_append_left _ h.own, fun k' hk' => ?_, fun k' hk' => h.rest k' (List.mem_cons_of_mem _ hk'), fun j hj => ?_⟩
 ·rw [List.nodup_append]
  exact ⟨h.nodup, by simp, fun a ha b hb => by simp only [List.mem_singleton] at hb; subst hb; exact fun e => hk (by rw [← e]; exact ha)⟩
 ·rcases List.mem_append.1 hj with hj | hj
  ·exact h.inn j hj
  ·simp only [List.mem_singleton] at hj; subst hj; exact hin
 ·rcases List.mem_append.1 hj with hj | hj
  ·exact List.mem_append_left _ (h.sub j hj)
  ·exact List.mem_append_right _ hj
 ·rcases List.mem_append.1 hj with hj | hj
  ·exact h.sound j hj hacc
  ·simp only [List.mem_singleton] at hj; subst hj
   exact h.sound k h.own (nextK_acc (h.inn k h.own).1 h1 hacc)
 ·rcases h.left k' hk' with h2 | h2
  ·exact .inl (List.mem_append_left _ h2)
  ·rcases List.mem_cons.1 h2 with rfl | h2
   ·exact .inl (by simp)
   ·exact .inr h2
 ·rcases List.mem_append.1 hj with hj | hj
  ·rcases h.shut j hj with h2 | h2 | h2
   ·exact .inl h2
   ·exact .inr (.inl (List.mem_append_left _ h2))
   ·exact .inr (.inr fun k' hk' => List.mem_append_left _ (h2 k' hk'))
  ·exact .inr (.inl (List.mem_append_right _ hj))
theorem MidK.done {g t : List ByteArray} {met ws : List (Nat × Nat)} {k : Nat × Nat} (h : MidK g t k [] met ws) : InvK g t met ws where
 nodup := h.nodup
 inn := h.inn
 zero := h.zero
 sub := h.sub
 sound := h.sound
 shut := fun j hj => by
  rcases h.shut j hj with rfl | h1 | h1
  ·exact .inr fun k' hk' => (h.left k' hk').resolve_right (by simp)
  ·exact .inl h1
  ·exact .inr h1
theorem InvK.init (g t : List ByteArray) : InvK g t [(0, 0)] [(0, 0)] :=
 ⟨by simp, fun k hk => by simp only [List.mem_singleton] at hk; subst hk; exact ⟨Nat.zero_le _, Nat.zero_le _⟩, by simp, fun k hk => hk, fun k hk h => by simp only [List.mem_singleton] at hk; subst hk; exact h, fun k hk => .inl hk⟩
theorem InvK.end_ {g t : List ByteArray} {met : List (Nat × Nat)} (h : InvK g t met []) : (g.length, t.length) ∈ met ↔ MatchP g t := by
 have e0 : accK g t (0, 0) ↔ MatchP g t := Iff.rfl
 constructor
 ·intro hm
  exact e0.1 (h.sound _ hm (by unfold accK; simp only; rw [List.drop_length, List.drop_length]; exact .nil))
 ·intro hm
  have go : ∀ n (k : Nat × Nat), k ∈ met → accK g t k → g.length + t.length - (k.1 + k.2) ≤ n → (g.length, t.length) ∈ met := by
   intro n
   induction n with
   | zero =>
    intro k hk hacc hn
    have hi := h.inn k hk
    rcases acc_next hi.1 hi.2 hacc with rfl | ⟨k', h1, h2, h3⟩
    ·exact hk
    ·have := nextK_in hi.1 hi.2 h1; omega
   | succ n ih =>
    intro k hk hacc hn
    have hi := h.inn k hk
    rcases acc_next hi.1 hi.2 hacc with rfl | ⟨k', h1, h2, h3⟩
    ·exact hk
    ·exact ih k' (((h.shut k hk).resolve_left (by simp)) k' h1) h2 (by omega)
  exact go _ (0, 0) h.zero (e0.2 hm) (Nat.le_refl _)
theorem InvK.le {g t : List ByteArray} {met : List (Nat × Nat)} (hn : met.Nodup) (hi : ∀ k ∈ met, k.1 ≤ g.length ∧ k.2 ≤ t.length) : met.length ≤ (g.length + 1) * (t.length + 1) := by
 have := List.Nodup.length_le_of_subset (l₂ := (List.range (g.length + 1)).flatMap fun i => (List.range (t.length + 1)).map fun j => (i, j)) hn (fun k hk => by
  have := hi k hk
  rw [List.mem_flatMap]
  exact ⟨k.1, List.mem_range.2 (by omega), List.mem_map.2 ⟨k.2, List.mem_range.2 (by omega), rfl⟩⟩)
 refine Nat.le_trans this ?_
 rw [List.length_flatMap]
 simp only [List.length_map, List.length_range]
 rw [List.map_const', List.length_range, List.sum_replicate_nat]
 exact Nat.le_refl _
end Go.Vc

namespace Go.Vc
open Go.Proofs
set_option linter.unusedSimpArgs false
set_option linter.unusedVariables false
abbrev WorkK := List (Nat × Nat) × List (Nat × Nat) × List PV
def addKS (k : Nat × Nat) (s : WorkK) : WorkK := if k ∈ s.1 then s else (s.1 ++ [k], s.2.1 ++ [k], [])
theorem fnS64 (k : Nat × Nat) (s : WorkK) (hw : s.2.1.length < 10000000) :
  FnS Tryz.prog 64 [.pv (lp k), .ptr 200000 0, .ptr 200001 0] [(200000, .box [.mp 200002]), (200001, .box [.row 150000 0 s.2.1.length]), (200002, .mp (s.1.map enU)), (150000, .sl 2 (s.2.1.map lp ++ s.2.2))] (.pv (.tup []))
   [(200000, .box [.mp 200002]), (200001, .box [.row 150000 0 (addKS k s).2.1.length]), (200002, .mp ((addKS k s).1.map enU)), (150000, .sl 2 ((addKS k s).2.1.map lp ++ (addKS k s).2.2))] := by
 unfold addKS
 split
 ·rename_i hk
  exact fnS64o k s.1 _ _ hk
 ·rename_i hk
  have h := fnS64n k s.1 s.2.1 s.2.2 hk hw
  simp only [List.append_nil, List.length_append, List.length_singleton]
  exact h
theorem MidK.add {g t : List ByteArray} {s : WorkK} {todo : List (Nat × Nat)} {k k1 : Nat × Nat} (h : MidK g t k (k1 :: todo) s.1 s.2.1) : MidK g t k todo (addKS k1 s).1 (addKS k1 s).2.1 := by
 unfold addKS
 split
 ·rename_i hk; exact h.old hk
 ·rename_i hk; exact h.new hk
def muK (N : Nat) (s : WorkK) : Nat := 2 * (N - s.1.length) + s.2.1.length
theorem MidK.mu {g t : List ByteArray} {s : WorkK} {todo : List (Nat × Nat)} {k k1 : Nat × Nat} (h : MidK g t k (k1 :: todo) s.1 s.2.1) : muK ((g.length + 1) * (t.length + 1)) (addKS k1 s) ≤ muK ((g.length + 1) * (t.length + 1)) s := by
 have h2 := h.add
 have h3 := InvK.le h2.nodup h2.inn
 unfold muK addKS at *
 split
 ·exact Nat.le_refl _
 ·rename_i hk
  rw [if_neg hk] at h3
  simp only [List.length_append, List.length_singleton] at h3 ⊢
  omega
theorem muK_ws {N : Nat} {k : Nat × Nat} {a w : List (Nat × Nat)} {xs ys : List PV} : muK N (a, w, xs) < muK N (a, w ++ [k], ys) := by
 unfold muK; simp only [List.length_append, List.length_singleton]; omega
theorem lkp_L2 (a b : Nat) (met : List (Nat × Nat)) : lkp (.agg [pI a, pI b]) (met.map enU) = if (a, b) ∈ met then some (.agg []) else none := lkp_L (a, b) met
theorem like_L2 (a b : Nat) (met : List (Nat × Nat)) : keysLike (.st [0, 0]) (.agg [pI a, pI b]) (met.map enU) := like_L (a, b) met
set_option maxHeartbeats 2000000 in
theorem fn31 (g t : ByteArray) (hg : g.size ≤ 1000) (ht : t.size ≤ 1000) : Fn Tryz.prog 31 [pS g, pS t] (.pv (pB (meetsB g t))) [] := by
 refine Run31 [] (by simp) ?_
 simp only [go_sem, M31]
 refine runR_callf (by simp only [go_sem]) (by simp only [go_sem] <;> rfl) (fn39 g) ⟨rfl, trivial⟩ trivial ?_
 simp only [go_sem]
 refine runR_callgf (by simp only [go_sem]) (by simp only [go_sem]) (by simp only [go_sem] <;> rfl) (fun _ => fn56 t) rfl ?_
 simp only [go_sem]
 refine ⟨fun h => ?_, fun h => ?_⟩
 ·unfold meetsB
  rcases h with h | h
  ·rw [h]; rfl
  ·rw [h]; simp
 have e : meetsB g t = matchL (cutS g) (cutS t) := by unfold meetsB; rw [h.1, h.2]; rfl
 rw [e]
 have l1 := cutS_count g
 have l2 := cutS_count t
 have d1 := dots_le g
 have d2 := dots_le t
 refine runR_call (by simp only [go_sem]) rfl (fn63 g hg) (.inl rfl) trivial ?_
 simp only [go_sem]
 refine runR_call (by simp only [go_sem]) rfl (fn63 t ht) (.inl rfl) trivial ?_
 simp only [go_sem]
 have lg : (cutS g).length ≤ 1001 := by omega
 have lt : (cutS t).length ≤ 1001 := by omega
 generalize cutS g = G at lg ⊢
 generalize cutS t = T at lt ⊢
 refine ⟨⟨fun v hv c hc => ?_, ⟨_, rfl⟩⟩, ?_⟩
 ·subst hv
  simp only [List.map_cons, List.map_nil, List.mem_cons, List.not_mem_nil, or_false] at hc
  rcases hc with rfl | rfl <;> rfl
 have hN : (G.length + 1) * (T.length + 1) ≤ 1002 * 1002 := Nat.mul_le_mul (by omega) (by omega)
 refine run_loopN (T := WorkK) [5, 6, 7, 8, 9] [7, 8, 27, 32] (fun s => ⟨[(5, .pv (ss G)), (6, .pv (ss T)), (7, .ptr 7 0), (8, .ptr 8 0), (9, .fn 64 [.ptr 7 0, .ptr 8 0])],
   [(7, .box [.mp 27]), (8, .box [.row 32 0 s.2.1.length]), (27, .mp (s.1.map enU)), (32, .sl 2 (s.2.1.map lp ++ s.2.2))]⟩) (fun s => InvK G T s.1 s.2.1 ∧ s.2.1.length ≤ s.1.length) (muK ((G.length + 1) * (T.length + 1))) ([(0, 0)], [(0, 0)], []) rfl ⟨InvK.init G T, Nat.le_refl _⟩ ?_
 rintro ⟨met, ws, xs⟩ ⟨hI, hws⟩
 simp only at hI hws
 have hle := InvK.le hI.nodup hI.inn
 rcases List.eq_nil_or_concat ws with rfl | ⟨w1, k, rfl⟩
 ·have hE := hI.end_
  rw [← matchL_iff] at hE
  cases hm : matchL G T with
  | true =>
   have h2 := hE.2 hm
   simp only [go_sem, B31_0, R31_0, lkp_L2, like_L2, h2]
  | false =>
   have h2 : ¬ (G.length, T.length) ∈ met := fun h3 => by rw [hE.1 h3] at hm; cases hm
   simp only [go_sem, B31_0, R31_0, lkp_L2, like_L2, h2]
 ·rw [List.concat_eq_append] at *
  have hP := hI.pop
  have hin := hI.inn k (hI.sub k (by simp))
  rw [List.length_append, List.length_singleton] at hws
  have e1 : (((w1.length + 1 : Nat) : Int) - 1).toNat = w1.length := by omega
  have hget : ((w1 ++ [k]).map lp ++ xs).getD w1.length default = lp k := by simp [List.getD_eq_getElem?_getD]
  have hbs : ((w1 ++ [k]).map lp ++ xs) = w1.map lp ++ (lp k :: xs) := by simp
  by_cases hkg : k.1 = G.length
  ·simp only [go_sem, B31_0, List.length_append, List.length_singleton, e1, hget, show (0 : Int) < ((w1.length + 1 : Nat) : Int) by omega, hkg]
   refine ⟨⟨by omega, by omega⟩, ⟨by omega, by omega⟩, by omega, ⟨by omega, by omega⟩, ⟨by omega, by omega⟩, ⟨met, w1, lp k :: xs⟩, ?_, ⟨?_, by simp only; omega⟩, muK_ws⟩
   ·rw [hbs]; rfl
   ·have := hP
    unfold nextK at this
    rw [if_pos hkg] at this
    exact this.done
  ·have hlt : k.1 < G.length := by omega
   have hgd : G.getD k.1 ⟨#[]⟩ = G[k.1] := by simp [List.getD_eq_getElem?_getD, hlt]
   have mS : ∀ (k' : Nat × Nat) (s : WorkK), s.2.1.length ≤ s.1.length → (addKS k' s).2.1.length ≤ (addKS k' s).1.length := fun k' s h => by
    unfold addKS; split
    ·exact h
    ·simp only [List.length_append, List.length_singleton]; omega
   have hmw : muK ((G.length + 1) * (T.length + 1)) (met, w1, lp k :: xs) < muK ((G.length + 1) * (T.length + 1)) (met, w1 ++ [k], xs) := muK_ws
   have sides : (-9223372036854775808 ≤ ((w1.length + 1 : Nat) : Int) - 1 ∧ ((w1.length + 1 : Nat) : Int) - 1 ≤ 9223372036854775807) ∧ (0 ≤ ((w1.length + 1 : Nat) : Int) - 1 ∧ ((w1.length + 1 : Nat) : Int) - 1 < ((w1.length + 1 : Nat) : Int)) ∧ w1.length < w1.length + 1 + xs.length ∧
     (-9223372036854775808 ≤ ((w1.length + 1 : Nat) : Int) - 1 ∧ ((w1.length + 1 : Nat) : Int) - 1 ≤ 9223372036854775807) ∧ (0 ≤ ((w1.length + 1 : Nat) : Int) - 1 ∧ ((w1.length + 1 : Nat) : Int) - 1 ≤ ((w1.length + 1 : Nat) : Int)) ∧ (k.1 : Int) < (G.length : Int) :=
    ⟨⟨by omega, by omega⟩, ⟨by omega, by omega⟩, by omega, ⟨by omega, by omega⟩, ⟨by omega, by omega⟩, by omega⟩
   have hPn := hP
   unfold nextK at hPn
   rw [if_neg hkg, hgd] at hPn
   by_cases ha : G[k.1] = sAll
   ·rw [if_pos ha] at hPn
    have hS := fnS64 (k.1 + 1, k.2) (met, w1, lp k :: xs) (by simp only; omega)
    have hA := hPn.add (s := (met, w1, lp k :: xs))
    have hmu := hPn.mu (s := (met, w1, lp k :: xs))
    have hl := InvK.le hA.nodup hA.inn
    have hm1 := mS (k.1 + 1, k.2) (met, w1, lp k :: xs) (by simp only; omega)
    simp only [go_sem, B31_0, List.length_append, List.length_singleton, e1, hget, show (0 : Int) < ((w1.length + 1 : Nat) : Int) by omega, show ¬ ((k.1 : Int) = (G.length : Int)) by omega, wf_ss, getD_map hlt, ha, Nat.sub_zero]
    refine ⟨sides.1, sides.2.1, sides.2.2.1, sides.2.2.2.1, sides.2.2.2.2.1, sides.2.2.2.2.2, ⟨by omega, by omega⟩, ?_⟩
    rw [hbs]
    refine runR_calls (fun n => if n = 200000 then 7 else if n = 200001 then 8 else if n = 200002 then 27 else 32) (by simp only [go_sem]) (by simp only [go_sem] <;> rfl) hS rfl (by intro e he; simp only [List.mem_cons, List.not_mem_nil, or_false] at he; rcases he with rfl | rfl | rfl | rfl <;> simp only [go_sem]) (by simp) (by simp) (by simp) (by intro e he _; simp only [List.mem_cons, List.not_mem_nil, or_false] at he; rcases he with rfl | rfl | rfl | rfl <;> simp) ?_
    generalize addKS (k.1 + 1, k.2) (met, w1, lp k :: xs) = s1 at hA hmu hl hm1 ⊢
    simp only [go_sem]
    refine ⟨fun h2 => ⟨⟨by omega, by omega⟩, ?_⟩, fun h2 => ⟨s1, rfl, ⟨?_, hm1⟩, by omega⟩⟩
    ·rw [if_pos (by omega)] at hA
     have hS := fnS64 (k.1, k.2 + 1) s1 (by omega)
     have hB := hA.add
     have hmu2 := hA.mu
     have hm2 := mS (k.1, k.2 + 1) s1 hm1
     refine runR_calls (fun n => if n = 200000 then 7 else if n = 200001 then 8 else if n = 200002 then 27 else 32) (by simp only [go_sem]) (by simp only [go_sem] <;> rfl) hS rfl (by intro e he; simp only [List.mem_cons, List.not_mem_nil, or_false] at he; rcases he with rfl | rfl | rfl | rfl <;> simp only [go_sem]) (by simp) (by simp) (by simp) (by intro e he _; simp only [List.mem_cons, List.not_mem_nil, or_false] at he; rcases he with rfl | rfl | rfl | rfl <;> simp) ?_
     simp only [go_sem]
     exact ⟨addKS (k.1, k.2 + 1) s1, rfl, ⟨hB.done, hm2⟩, by omega⟩
    ·rw [if_neg (by omega)] at hA
     exact hA.done
   ·rw [if_neg ha] at hPn
    by_cases h2 : k.2 < T.length
    ·have hgd2 : T.getD k.2 ⟨#[]⟩ = T[k.2] := by simp [List.getD_eq_getElem?_getD, h2]
     rw [hgd2] at hPn
     by_cases hc : G[k.1] = sAny ∨ G[k.1] = T[k.2]
     ·rw [if_pos ⟨h2, hc⟩] at hPn
      have hS := fnS64 (k.1 + 1, k.2 + 1) (met, w1, lp k :: xs) (by simp only; omega)
      have hA := hPn.add (s := (met, w1, lp k :: xs))
      have hmu := hPn.mu (s := (met, w1, lp k :: xs))
      have hm1 := mS (k.1 + 1, k.2 + 1) (met, w1, lp k :: xs) (by simp only; omega)
      simp only [go_sem, B31_0, List.length_append, List.length_singleton, e1, hget, show (0 : Int) < ((w1.length + 1 : Nat) : Int) by omega, show ¬ ((k.1 : Int) = (G.length : Int)) by omega, wf_ss, getD_map hlt, getD_map h2, ha, show (k.2 : Int) < (T.length : Int) by omega, hc, Nat.sub_zero]
      refine ⟨sides.1, sides.2.1, sides.2.2.1, sides.2.2.2.1, sides.2.2.2.2.1, sides.2.2.2.2.2, ⟨⟨by omega, by omega⟩, ⟨by omega, by omega⟩, ?_⟩, fun h => ?_⟩
      ·rw [hbs]
       refine runR_calls (fun n => if n = 200000 then 7 else if n = 200001 then 8 else if n = 200002 then 27 else 32) (by simp only [go_sem]) (by simp only [go_sem] <;> rfl) hS rfl (by intro e he; simp only [List.mem_cons, List.not_mem_nil, or_false] at he; rcases he with rfl | rfl | rfl | rfl <;> simp only [go_sem]) (by simp) (by simp) (by simp) (by intro e he _; simp only [List.mem_cons, List.not_mem_nil, or_false] at he; rcases he with rfl | rfl | rfl | rfl <;> simp) ?_
       simp only [go_sem]
       exact ⟨addKS (k.1 + 1, k.2 + 1) (met, w1, lp k :: xs), rfl, ⟨hA.done, hm1⟩, by omega⟩
      ·exact absurd hc (fun h5 => h5.elim h.1 h.2)
     ·rw [if_neg (fun h => hc h.2)] at hPn
      simp only [go_sem, B31_0, List.length_append, List.length_singleton, e1, hget, show (0 : Int) < ((w1.length + 1 : Nat) : Int) by omega, show ¬ ((k.1 : Int) = (G.length : Int)) by omega, wf_ss, getD_map hlt, getD_map h2, ha, show (k.2 : Int) < (T.length : Int) by omega, hc, Nat.sub_zero]
      refine ⟨sides.1, sides.2.1, sides.2.2.1, sides.2.2.2.1, sides.2.2.2.2.1, sides.2.2.2.2.2, fun _ => ⟨(met, w1, lp k :: xs), by rw [hbs], ⟨hPn.done, by simp only; omega⟩, hmw⟩⟩
    ·rw [if_neg (fun h => h2 h.1)] at hPn
     simp only [go_sem, B31_0, List.length_append, List.length_singleton, e1, hget, show (0 : Int) < ((w1.length + 1 : Nat) : Int) by omega, show ¬ ((k.1 : Int) = (G.length : Int)) by omega, wf_ss, getD_map hlt, ha, show ¬ (k.2 : Int) < (T.length : Int) by omega, Nat.sub_zero]
     exact ⟨sides.1, sides.2.1, sides.2.2.1, sides.2.2.2.1, sides.2.2.2.2.1, sides.2.2.2.2.2, (met, w1, lp k :: xs), by rw [hbs], ⟨hPn.done, by simp only; omega⟩, hmw⟩
end Go.Vc

namespace Go.Vc
open Go.Proofs
set_option linter.unusedSimpArgs false
set_option linter.unusedVariables false
structure Vl where
 num : Bool
 n : Int
 s : ByteArray
 deriving DecidableEq
instance : Inhabited Vl := ⟨⟨false, 0, ⟨#[]⟩⟩⟩
abbrev Vl.pv (v : Vl) : PV := .agg [pB v.num, pI v.n, pS v.s]
def valB (v : Vl) : Bool := if v.num = true then decide (v.s = ⟨#[]⟩) else decide (v.n = 0) && decide (v.s.size ≤ 60)
theorem fn62 (v : Vl) : Fn Tryz.prog 62 [v.pv] (.pv (pB (valB v))) [] := by
 refine Run62 [] (by simp) ?_
 obtain ⟨m, n, s⟩ := v
 cases m with
 | true =>
  simp only [go_sem, M62, valB]
  done
 | false =>
  simp only [go_sem, M62, valB]
  rw [show (decide ((s.size : Int) ≤ 60)) = decide (s.size ≤ 60) from decide_eq_decide.2 (by omega)]
theorem fn90 (s : ByteArray) : Fn Tryz.prog 90 [pS s, pS sDot] (.pv (pB (decide (0 ≤ dotAt s)))) [] := by
 refine Run90 [] (by simp) ?_
 simp only [go_sem, M90]
 refine runR_callf (by simp only [go_sem]) (by simp only [go_sem] <;> rfl) (fn111 s) ⟨rfl, trivial⟩ trivial ?_
 simp only [go_sem]
 done
def fieldQ (s : ByteArray) : Bool := (decide (s.size ≤ 16) && !decide (0 ≤ dotAt s)) && topicB s
theorem fn61 (s : ByteArray) : Fn Tryz.prog 61 [pS s] (.pv (pB (fieldQ s))) [] := by
 refine Run61 [] (by simp) ?_
 simp only [go_sem, M61]
 refine runR_callgf (by simp only [go_sem]) (by simp only [go_sem]) (by simp only [go_sem] <;> rfl) (fun _ => fn90 s) rfl ?_
 simp only [go_sem]
 refine runR_callgf (by simp only [go_sem]) (by simp only [go_sem]) (by simp only [go_sem] <;> rfl) (fun _ => fn56 s) rfl ?_
 simp only [go_sem, fieldQ]
 rw [show (decide ((s.size : Int) ≤ 16)) = decide (s.size ≤ 16) from decide_eq_decide.2 (by omega)]
theorem wf_u8 (n : Int) : WfL 1 [PV.sc (.int .u8 n)] := fun p hp => by
 rw [List.mem_singleton] at hp
 subst hp
 exact ⟨rfl, fun c hc => by simp only [PV.cells, List.mem_singleton] at hc; subst hc; rfl⟩
theorem fn60 : Fn Tryz.prog 60 [.sc (.int .u64 300)] (.pv (pS ⟨#[172, 2]⟩)) [] := by
 refine Run60 [] (by simp) ?_
 simp only [go_sem, M60]
 refine run_loopN (T := Bool) [0, 3] [4] (fun t => if t = true then ⟨[(0, .pv (.sc (.int .u64 2))), (3, .row 4 0 1)], [(4, .sl 1 [.sc (.int .u8 172)])]⟩ else ⟨[(0, .pv (.sc (.int .u64 300))), (3, .row 4 0 0)], [(4, .sl 1 [])]⟩) (fun _ => True) (fun t => if t = true then 0 else 1) false rfl trivial ?_
 have w1 : IntKind.u8.wrap 300 = 44 := by decide +kernel
 have w2 : IntKind.u8.wrap 2 = 2 := by decide +kernel
 have w3 : bitI .or .u8 44 128 = 172 := by decide +kernel
 have w4 : Int.fdiv 300 (2 ^ (7 : Nat)) = 2 := by decide +kernel
 rintro (_ | _) _
 ·simp only [go_sem, B60_0, w1, w3, w4]
  exact ⟨wf_u8 _, true, rfl, by simp⟩
 ·simp only [go_sem, B60_0, R60_0, w2]
  exact ⟨wf_u8 _, ⟨_, rfl⟩, by decide +kernel⟩
theorem fn59 : Fn Tryz.prog 59 [(⟨true, -7, ⟨#[]⟩⟩ : Vl).pv] (.pv (.tup [pS ⟨#[45, 55]⟩, pI 0])) [] := by
 refine Run59 [false, false] (by simp) ?_
 simp only [go_sem, M59]
 refine runR_callf (by simp only [go_sem]) (by simp only [go_sem] <;> rfl) (fn62 ⟨true, -7, ⟨#[]⟩⟩) ⟨rfl, trivial⟩ trivial ?_
 simp only [go_sem, valB]
 refine runR_callf (by simp only [go_sem]) (by simp only [go_sem] <;> rfl) (fn89 (-7) (by omega) (by omega)) ⟨rfl, trivial⟩ trivial ?_
 simp only [go_sem]
 rw [show (Lib.itoa (-7)) = [45, 55] from by decide +kernel]
structure Fd where
 name : ByteArray
 v : Vl
 deriving DecidableEq
instance : Inhabited Fd := ⟨⟨⟨#[]⟩, default⟩⟩
abbrev Fd.pv (f : Fd) : PV := .agg [pS f.name, pB f.v.num, pI f.v.n, pS f.v.s]
structure Ev where
 topic : ByteArray
 producer : ByteArray
 seq : Int
 l : List Fd
abbrev Ev.cells (e : Ev) : List AV := [.pv (pS e.topic), .pv (pS e.producer), .pv (.sc (.int .u64 e.seq)), .pv (.lst (e.l.map Fd.pv))]
abbrev Ev.pv (e : Ev) : PV := .agg [pS e.topic, pS e.producer, .sc (.int .u64 e.seq), .lst (e.l.map Fd.pv)]
theorem wf_fd (l : List Fd) : WfL 4 (l.map Fd.pv) := wf_map (f := Fd.pv) (s := 4) (fun a => ⟨rfl, fun c hc => by
 simp only [PV.cells, List.mem_cons, List.not_mem_nil, or_false] at hc
 rcases hc with rfl | rfl | rfl | rfl <;> rfl⟩) l
def okF (l : List Fd) (i : Nat) : Bool := (fieldQ (l.getD i default).name && valB (l.getD i default).v) && (decide (i = 0) || Op.bytesLess (l.getD (i - 1) default).name.toList (l.getD i default).name.toList)
def mayE (e : Ev) : Bool := ((topicB e.topic && fieldQ e.producer) && (!decide (e.seq < 1) && decide (e.l.length ≤ 8))) && (List.range e.l.length).all (okF e.l)
theorem mayE_no {e : Ev} {i : Nat} (h : i < e.l.length) (ho : okF e.l i = false) : mayE e = false := by
 have : (List.range e.l.length).all (okF e.l) = false := by
  rw [List.all_eq_false]
  exact ⟨i, List.mem_range.2 h, by rw [ho]; simp⟩
 unfold mayE
 rw [this, Bool.and_false]
theorem fn30 (e : Ev) : Fn Tryz.prog 30 [e.pv] (.pv (pB (mayE e))) [] := by
 refine Run30 [] (by simp) ?_
 simp only [go_sem, M30]
 refine runR_callf (by simp only [go_sem]) (by simp only [go_sem] <;> rfl) (fn56 e.topic) ⟨rfl, trivial⟩ trivial ?_
 simp only [go_sem]
 refine runR_callgf (by simp only [go_sem]) (by simp only [go_sem]) (by simp only [go_sem] <;> rfl) (fun _ => fn61 e.producer) rfl ?_
 simp only [go_sem]
 refine ⟨fun h => ?_, fun h => ?_⟩
 ·unfold mayE
  rcases h with ((h | h) | h) | h
  ·rw [h]; simp
  ·rw [h]; simp
  ·simp [h]
  ·have : ¬ e.l.length ≤ 8 := by omega
   simp [this]
 obtain ⟨⟨⟨h1, h2⟩, h3⟩, h4⟩ := h
 have hall : (∀ i, i < e.l.length → okF e.l i = true) → mayE e = true := fun ha => by
  have h4' : e.l.length ≤ 8 := by omega
  unfold mayE
  rw [h1, h2, List.all_eq_true.2 fun i hi => ha i (List.mem_range.1 hi)]
  simp [h3, h4']
 have hno : ∀ i, i < e.l.length → okF e.l i = false → mayE e = false := fun i hi ho => mayE_no hi ho
 have h4' : e.l.length ≤ 8 := by omega
 generalize mayE e = M at hall hno ⊢
 refine run_loopN (T := Nat) [1, 27, 28, 29] [1] (fun i => ⟨[(1, .ptr 1 0), (27, .pv (.lst (e.l.map Fd.pv))), (28, .pv (pI e.l.length)), (29, .pv (pI i))], [(1, .box e.cells)]⟩) (fun i => i ≤ e.l.length ∧ ∀ j, j < i → okF e.l j = true) (fun i => e.l.length - i) 0 ?_ ⟨Nat.zero_le _, fun j hj => absurd hj (by omega)⟩ ?_
 ·simp only [go_sem]
 rintro i ⟨hi, ho⟩
 by_cases hil : i < e.l.length
 ·have hw := wf_fd e.l
  obtain ⟨f, hf⟩ : ∃ f, f = e.l[i] := ⟨_, rfl⟩
  have hfd : e.l.getD i default = f := by rw [hf]; simp [List.getD_eq_getElem?_getD, hil]
  have c62 := fn62 f.v
  by_cases h0 : i = 0
  ·have hok : okF e.l i = (fieldQ f.name && valB f.v) := by unfold okF; rw [hfd, h0]; simp
   simp only [go_sem, B30_0, show (i : Int) < (e.l.length : Int) by omega, getD_map hil, ← hf]
   refine ⟨hw, ?_⟩
   refine runR_callf (by simp only [go_sem]) (by simp only [go_sem] <;> rfl) (fn61 f.name) ⟨rfl, trivial⟩ trivial ?_
   simp only [go_sem]
   refine runR_callgf (by simp only [go_sem]) (by simp only [go_sem]) (by simp only [go_sem] <;> rfl) (fun _ => c62) rfl ?_
   simp only [go_sem, show ¬ (0 : Int) < (i : Int) by omega]
   refine ⟨fun h => (hno i hil (by rw [hok]; rcases h with h | h <;> rw [h] <;> simp)).symm, fun h => ⟨⟨by omega, by omega⟩, i + 1, rfl, ⟨hil, fun j hj => ?_⟩, by omega⟩⟩
   by_cases hji : j = i
   ·rw [hji, hok, h.1, h.2]; rfl
   ·exact ho j (by omega)
  ·have hil2 : i - 1 < e.l.length := by omega
   have hgd : e.l.getD (i - 1) default = e.l[i - 1] := by simp [List.getD_eq_getElem?_getD, hil2]
   have hok : okF e.l i = ((fieldQ f.name && valB f.v) && Op.bytesLess e.l[i - 1].name.toList f.name.toList) := by unfold okF; rw [hfd, hgd]; simp [h0]
   simp only [go_sem, B30_0, show (i : Int) < (e.l.length : Int) by omega, getD_map hil, ← hf]
   refine ⟨hw, ?_⟩
   refine runR_callf (by simp only [go_sem]) (by simp only [go_sem] <;> rfl) (fn61 f.name) ⟨rfl, trivial⟩ trivial ?_
   simp only [go_sem]
   refine runR_callgf (by simp only [go_sem]) (by simp only [go_sem]) (by simp only [go_sem] <;> rfl) (fun _ => c62) rfl ?_
   simp only [go_sem, show (0 : Int) < (i : Int) by omega, show ((i : Int) - 1).toNat = i - 1 by omega, getD_map hil2]
   refine ⟨fun h => ⟨h, by omega, by omega⟩, fun h => ⟨h, by omega, by omega, hw⟩, fun h => (hno i hil (by rw [hok]; rcases h with (h | h) | h <;> rw [h] <;> simp)).symm, fun h => ⟨⟨by omega, by omega⟩, i + 1, rfl, ⟨hil, fun j hj => ?_⟩, by omega⟩⟩
   by_cases hji : j = i
   ·rw [hji, hok, h.1.1, h.1.2, h.2]; rfl
   ·exact ho j (by omega)
 ·obtain rfl : i = e.l.length := by omega
  simp only [go_sem, B30_0, R30_0, show ¬ (e.l.length : Int) < (e.l.length : Int) by omega]
  exact (hall ho).symm
theorem awk_meets : meetsB ⟨#[97, 46, 42, 42]⟩ ⟨#[97, 46, 98]⟩ = true := by decide +kernel
theorem fn29 : Fn Tryz.prog 29 [] (.pv (pB true)) [] := by
 refine Run29 [] (by simp) ?_
 simp only [go_sem, M29]
 refine runR_callf (by simp only [go_sem]) (by simp only [go_sem] <;> rfl) (fn59) ⟨rfl, trivial⟩ trivial ?_
 simp only [go_sem]
 refine runR_callf (by simp only [go_sem]) (by simp only [go_sem] <;> rfl) (fn60) ⟨rfl, trivial⟩ trivial ?_
 simp only [go_sem]
 have h := fn31 ⟨#[97, 46, 42, 42]⟩ ⟨#[97, 46, 98]⟩ (by decide) (by decide)
 rw [awk_meets] at h
 refine runR_callgf (by simp only [go_sem]) (by simp only [go_sem]) (by simp only [go_sem] <;> rfl) (fun _ => h) rfl ?_
 simp only [go_sem]
 done
end Go.Vc

namespace Go.Vc
open Go.Proofs
set_option maxRecDepth 100000
def M94 : MC := (.seq (.reg [⟨some 3,none,.box (.t 1)⟩,qi 4 (.mv (.c (.bool false)))] [] [0,3] [3,200001,200002]) (.seq (.reg [qi 5 (.fa (.t 3) 1),qi 6 (.ld (.t 5) 1 false),mi 7 0,qi 8 (.nch (.t 7)),qi 9 (.fa (.t 8) 0),qi 10 (.fa (.t 9) 0),qi 11 (.ld (.t 10) 1 false),⟨some 12,none,.call (.f 31) [.t 6,.t 11]⟩,mi 4 12] [] [4] [1012,200001,200002]) .ret))
theorem mc94 : ofCode Tryz.prog [] Tryz.f94.ntmps [(0, ⟨[0, 3], [3, 200001, 200002], [], 0, [], none⟩),
  (1, ⟨[4], [1012, 200001, 200002], [(0, 387), (1, 386), (2, 508), (3, 504), (4, 496), (5, 480), (6, 448), (7, 0), (8, 256)], 511, [], none⟩)] (Tryz.f94.body.getD .skip) = some M94 := by kernel_rfl
theorem RunS94 {args : List AV} {st st' : List (Nat × Row)} {v : AV} (h : args.length ≤ 13) (hk : (st'.map (·.1)).Nodup) (hv : run Tryz.prog (retS [RV.tmp 4] v st') M94 [] ⟨entryA 0 args, st⟩) : FnS Tryz.prog 94 args st v st' :=
 FnS_run (by kernel_rfl) Tryz.func94 (by decide) rfl mc94 (by kernel_rfl) (by rw [Tryz.ntmps94]; exact h) (by rw [Tryz.ntmps94]; decide) hk hv
def M67 : MC := (.seq (.reg [⟨some 3,none,.box (.t 1)⟩,qi 4 (.mv (.c (.bool false)))] [] [0,3] [3,1013,200001,200002]) (.seq (.reg [mi 5 0,qi 6 (.nch (.t 5)),qi 7 (.fa (.t 6) 4),qi 8 (.ld (.t 7) 1 false),qi 9 (.fa (.t 3) 0),qi 10 (.ld (.t 9) 1 false),qi 11 (.mget (.t 8) (.t 10) false Kk.str (.pv (.sc .nilFunc))),qi 12 (.ld (.t 3) 6 true),⟨some 13,none,.calls (.t 11) [.t 12]⟩,mi 4 13] [] [4] [1013,200001,200002]) .ret))
theorem mc67 : ofCode Tryz.prog [13] Tryz.f67.ntmps [(0, ⟨[0, 3], [3, 1013, 200001, 200002], [], 0, [], none⟩),
  (1, ⟨[4], [1013, 200001, 200002], [(0, 847), (1, 846), (2, 844), (3, 840), (4, 880), (5, 864), (6, 832), (7, 896), (8, 0), (9, 512)], 767, [], none⟩)] (Tryz.f67.body.getD .skip) = some M67 := by kernel_rfl
theorem RunS67 {args : List AV} {st st' : List (Nat × Row)} {v : AV} (h : args.length ≤ 14) (hk : (st'.map (·.1)).Nodup) (hv : run Tryz.prog (retS [RV.tmp 4] v st') M67 [] ⟨entryA 0 args, st⟩) : FnS Tryz.prog 67 args st v st' :=
 FnS_run (by kernel_rfl) Tryz.func67 (by decide) rfl mc67 (by kernel_rfl) (by rw [Tryz.ntmps67]; exact h) (by rw [Tryz.ntmps67]; decide) hk hv
def M66 : MC := (.seq (.reg [⟨some 1,none,.box (.t 0)⟩,qi 2 (.mv (.c (.pointer none)))] [] [1] [1]) (.seq (.reg [qi 4 (.ld (.t 1) 4 true),qi 5 (.mk [.pv (.sc (.string ⟨#[]⟩)),.pv (.sc (.string ⟨#[]⟩)),.pv (.sc (.int .u64 0)),.e0,.pv (.sc (.map none))] [(0,4,(.t 4))]),⟨some 6,none,.box (.t 5)⟩,mi 3 6] [] [3] [6,8]) (.seq (.reg [mi 7 3,⟨some 8,none,.mkm⟩,mi 9 3,qi 10 (.bnd 93 [.t 9]),⟨none,none,.mset (.t 8) (.c (.string ⟨#[97,108,108]⟩)) (.t 10) Kk.str⟩,mi 11 3,qi 12 (.bnd 94 [.t 11]),⟨none,none,.mset (.t 8) (.c (.string ⟨#[116,111,112,105,99]⟩)) (.t 12) Kk.str⟩,mi 13 3,qi 14 (.bnd 95 [.t 13]),⟨none,none,.mset (.t 8) (.c (.string ⟨#[104,97,115]⟩)) (.t 14) Kk.str⟩,mi 15 3,qi 16 (.bnd 96 [.t 15]),⟨none,none,.mset (.t 8) (.c (.string ⟨#[101,113]⟩)) (.t 16) Kk.str⟩,mi 17 3,qi 18 (.bnd 97 [.t 17]),⟨none,none,.mset (.t 8) (.c (.string ⟨#[108,116]⟩)) (.t 18) Kk.str⟩,mi 19 3,qi 20 (.bnd 98 [.t 19]),⟨none,none,.mset (.t 8) (.c (.string ⟨#[110,111,116]⟩)) (.t 20) Kk.str⟩,mi 21 3,qi 22 (.bnd 99 [.t 21]),⟨none,none,.mset (.t 8) (.c (.string ⟨#[97,110,100]⟩)) (.t 22) Kk.str⟩,mi 23 3,qi 24 (.bnd 100 [.t 23]),⟨none,none,.mset (.t 8) (.c (.string ⟨#[111,114]⟩)) (.t 24) Kk.str⟩,mi 25 8,qi 26 (.nch (.t 7)),qi 27 (.fa (.t 26) 4),⟨none,none,.st (.t 27) (.t 25) 1⟩] [] [3] [6,8]) (.seq (.reg [mi 28 3,mi 2 28] [] [2] [6,8]) .ret))))
theorem mc66 : ofCode Tryz.prog [] Tryz.f66.ntmps [(0, ⟨[1], [1], [], 0, [], none⟩),
  (1, ⟨[3], [6, 8], [], 0, [], none⟩),
  (2, ⟨[3], [6, 8], [], 0, [], none⟩),
  (3, ⟨[2], [6, 8], [], 0, [], none⟩)] (Tryz.f66.body.getD .skip) = some M66 := by kernel_rfl
def M65 : MC := (.seq (.reg [⟨some 1,none,.box (.t 0)⟩,qi 2 (.mv (.c (.bool false)))] [] [1] [1]) (.seq (.reg [⟨some 3,none,.alloc [.pv (.sc (.int .i64 0))]⟩] [] [1,3] [1,3,1008]) (.seq (.reg [qi 7 (.ld (.t 1) 6 true),⟨some 8,none,.calls (.f 92) [.t 3,.t 7,.c (.int .i64 8)]⟩,mi 6 8,qi 9 (.ext (.t 6) 0),qi 10 (.ext (.t 6) 1),mi 4 9,mi 5 10] [] [4,5] [3,1008]) (.seq (.reg [mi 11 5,mi 12 11,gi 13 12 true (.mv (.t 4)),gi 14 12 true (.bin .leq (.t 13) (ic 8)),qi 15 (.pick (.t 12) (.t 14) (.c (.bool false))),mi 2 15] [] [2] [3,1008]) .ret))))
theorem mc65 : ofCode Tryz.prog [8] Tryz.f65.ntmps [(0, ⟨[1], [1], [], 0, [], none⟩),
  (1, ⟨[1, 3], [1, 3, 1008], [], 0, [], none⟩),
  (2, ⟨[4, 5], [3, 1008], [], 0, [], none⟩),
  (3, ⟨[2], [3, 1008], [], 0, [], none⟩)] (Tryz.f65.body.getD .skip) = some M65 := by kernel_rfl
theorem Run65 {args : List PV} {v : AV} {rs : List (Nat × List PV)} (ids : List Bool) (h : args.length ≤ 16) (hv : run Tryz.prog (retK [RV.tmp 2] ids v rs) M65 [] ⟨entry 0 args, []⟩) : Fn Tryz.prog 65 args v rs :=
 Fn_run ids (by kernel_rfl) Tryz.func65 (by decide) rfl mc65 (by kernel_rfl) (by rw [Tryz.ntmps65]; exact h) (by rw [Tryz.ntmps65]; decide) hv
end Go.Vc

namespace Go.Vc
open Go.Proofs
set_option maxRecDepth 100000
def M92a : MC := (.reg [⟨(some 4),none,(.box (.t 1))⟩,⟨(some 6),none,(.alloc [(.pv (.sc (.int .i64 0)))])⟩,⟨(some 7),none,(.q (.mv (.c (.bool false))))⟩] [] [0,2,4,6] [4,6,1046,200000])
theorem mc92a : ofCode Tryz.prog [46] Tryz.f92.ntmps [(0, ⟨[0, 2, 4, 6], [4, 6, 1046, 200000], [], 0, [], none⟩),
  (1, ⟨[0, 2, 4, 6], [4, 6, 1046, 200000], [], 0, [], none⟩),
  (2, ⟨[0, 2, 4, 6], [4, 6, 1046, 200000], [], 0, [], none⟩),
  (3, ⟨[0, 2, 4, 6, 33], [4, 6, 1031, 1046, 200000], [], 0, [], none⟩),
  (4, ⟨[6, 7], [6, 1046, 200000], [], 0, [], none⟩),
  (5, ⟨[0, 2, 6, 35, 36, 37], [6, 1046, 200000], [], 0, [], none⟩),
  (6, ⟨[0, 2, 6, 35, 36, 37, 38], [6, 1046, 200000], [], 0, [], none⟩),
  (7, ⟨[0, 2, 6, 9, 35, 36, 37], [6, 9, 1046, 200000], [], 0, [], none⟩),
  (8, ⟨[0, 2, 6, 10, 11, 35, 36, 37], [6, 1046, 200000], [], 0, [], none⟩),
  (9, ⟨[0, 2, 6, 10, 35, 36, 37, 50], [6, 1046, 200000], [], 0, [], none⟩),
  (10, ⟨[6, 7], [6, 1046, 200000], [], 0, [], none⟩),
  (11, ⟨[0, 2, 6, 35, 36, 37], [6, 1046, 200000], [], 0, [], none⟩),
  (12, ⟨[0, 2, 6, 35, 36, 37], [6, 1046, 200000], [], 0, [], none⟩),
  (13, ⟨[6, 7], [6, 1046, 200000], [], 0, [], none⟩)] (c0Of (Tryz.f92.body.getD .skip)) = some M92a := by kernel_rfl
def B92_0 : MC := (.seq (.reg [⟨(some 38),none,(.q (.bin .lss (.t 37) (.t 36)))⟩] [] [0,2,6,35,36,37,38] [250000,1046,200000]) (.seq (.cond (.t 38) .skip (.exit 0)) (.seq (.block 1 (.seq (.reg [⟨(some 39),none,(.q (.ia (.t 35) (.t 37) 6))⟩,⟨(some 40),none,(.q (.ld (.t 39) 6 true))⟩,⟨(some 9),none,(.alloc [(.pv (.sc (.string ⟨#[]⟩))),(.pv (.sc (.string ⟨#[]⟩))),(.pv (.sc (.bool false))),(.pv (.sc (.int .i64 0))),(.pv (.sc (.string ⟨#[]⟩))),.e0])⟩,⟨none,none,(.st (.t 9) (.t 40) 6)⟩] [] [0,2,6,9,35,36,37] [250000,9,1046,200000]) (.seq (.reg [⟨(some 42),none,(.q (.mv (.t 0)))⟩,⟨(some 43),none,(.q (.ld (.t 9) 6 true))⟩,⟨(some 44),none,(.q (.mv (.t 2)))⟩,⟨(some 45),none,(.q (.bin .sub (.t 44) (ic 1)))⟩,⟨(some 46),none,(.calls (.f 92) [(.t 42),(.t 43),(.t 45)])⟩,⟨(some 41),none,(.q (.mv (.t 46)))⟩,⟨(some 47),none,(.q (.ext (.t 41) 0))⟩,⟨(some 48),none,(.q (.ext (.t 41) 1))⟩,⟨(some 10),none,(.q (.mv (.t 47)))⟩,⟨(some 11),none,(.q (.mv (.t 48)))⟩] [] [0,2,6,10,11,35,36,37] [250000,1046,200000]) (.seq (.seq (.reg [⟨(some 49),none,(.q (.mv (.t 11)))⟩,⟨(some 50),none,(.q (.not (.t 49)))⟩] [] [0,2,6,10,35,36,37,50] [250000,1046,200000]) (.cond (.t 50) (.seq (.reg [⟨none,none,(.st (.t 6) (ic 0) 1)⟩,⟨(some 7),none,(.q (.mv (.c (.bool false))))⟩] [] [6,7] [250000,1046,200000]) .ret) .skip)) (.reg [⟨(some 51),none,(.q (.ld (.t 6) 1 false))⟩,⟨(some 52),none,(.q (.mv (.t 10)))⟩,⟨(some 53),none,(.q (.mm true (.t 51) (.t 52)))⟩,⟨none,none,(.st (.t 6) (.t 53) 1)⟩] [] [0,2,6,35,36,37] [250000,1046,200000]))))) (.reg [⟨(some 54),none,(.q (.bin .add (.t 37) (ic 1)))⟩,⟨(some 37),none,(.q (.mv (.t 54)))⟩] [] [0,2,6,35,36,37] [250000,1046,200000]))))
def R92_0 : MC := (.seq (.reg [⟨(some 55),none,(.q (.ld (.t 6) 1 false))⟩,⟨none,none,(.st (.t 6) (.t 55) 1)⟩,⟨(some 7),none,(.q (.mv (.c (.bool true))))⟩] [] [6,7] [250000,1046,200000]) .ret)
def M92b : MC := (.seq (.reg [⟨(some 13),none,(.q (.mv (.t 0)))⟩,⟨(some 14),none,(.q (.nch (.t 13)))⟩,⟨(some 15),none,(.q (.fa (.t 14) 0))⟩,⟨(some 16),none,(.q (.ld (.t 15) 1 false))⟩,⟨(some 17),none,(.q (.bin .add (.t 16) (ic 1)))⟩,⟨(some 18),none,(.q (.nch (.t 13)))⟩,⟨(some 19),none,(.q (.fa (.t 18) 0))⟩,⟨none,none,(.st (.t 19) (.t 17) 1)⟩] [] [0,2,4,6] [4,250000,1046,200000]) (.seq (.seq (.reg [⟨(some 20),none,(.q (.mv (.t 2)))⟩,⟨(some 21),none,(.q (.bin .lss (.t 20) (ic 1)))⟩,⟨(some 22),none,(.q (.mv (.t 21)))⟩,⟨(some 23),(some (22,false)),(.q (.mv (.t 0)))⟩,⟨(some 24),(some (22,false)),(.q (.nch (.t 23)))⟩,⟨(some 25),(some (22,false)),(.q (.fa (.t 24) 0))⟩,⟨(some 26),(some (22,false)),(.q (.ld (.t 25) 1 false))⟩,⟨(some 27),(some (22,false)),(.q (.bin .gtr (.t 26) (ic 40)))⟩,⟨(some 28),none,(.q (.pick (.t 22) (.c (.bool true)) (.t 27)))⟩,⟨(some 29),none,(.q (.mv (.t 28)))⟩,⟨(some 30),(some (29,false)),(.q (.ld (.t 4) 6 true))⟩,⟨(some 31),(some (29,false)),(.call (.f 115) [(.t 30)])⟩,⟨(some 32),(some (29,false)),(.q (.not (.t 31)))⟩,⟨(some 33),none,(.q (.pick (.t 29) (.c (.bool true)) (.t 32)))⟩] [] [0,2,4,6,33] [4,250000,1031,1046,200000]) (.cond (.t 33) (.seq (.reg [⟨none,none,(.st (.t 6) (ic 0) 1)⟩,⟨(some 7),none,(.q (.mv (.c (.bool false))))⟩] [] [6,7] [250000,1046,200000]) .ret) .skip)) (.seq (.seq (.reg [⟨(some 34),none,(.q (.fa (.t 4) 5))⟩,⟨(some 35),none,(.q (.ld (.t 34) 1 false))⟩,⟨(some 36),none,(.q (.len (.t 35) false))⟩,⟨(some 37),none,(.q (.mv (ic 0)))⟩] [] [0,2,6,35,36,37] [250000,1046,200000]) (.block 0 (.loop B92_0))) R92_0)))
theorem mc92b : ofCode Tryz.prog [46] Tryz.f92.ntmps [(0, ⟨[0, 2, 4, 6], [4, 250000, 1046, 200000], [], 0, [], none⟩),
  (1, ⟨[0, 2, 4, 6], [4, 250000, 1046, 200000], [], 0, [], none⟩),
  (2, ⟨[0, 2, 4, 6], [4, 250000, 1046, 200000], [], 0, [], none⟩),
  (3, ⟨[0, 2, 4, 6, 33], [4, 250000, 1031, 1046, 200000], [], 0, [], none⟩),
  (4, ⟨[6, 7], [250000, 1046, 200000], [], 0, [], none⟩),
  (5, ⟨[0, 2, 6, 35, 36, 37], [250000, 1046, 200000], [], 0, [], none⟩),
  (6, ⟨[0, 2, 6, 35, 36, 37, 38], [250000, 1046, 200000], [], 0, [], none⟩),
  (7, ⟨[0, 2, 6, 9, 35, 36, 37], [250000, 9, 1046, 200000], [], 0, [], none⟩),
  (8, ⟨[0, 2, 6, 10, 11, 35, 36, 37], [250000, 1046, 200000], [], 0, [], none⟩),
  (9, ⟨[0, 2, 6, 10, 35, 36, 37, 50], [250000, 1046, 200000], [], 0, [], none⟩),
  (10, ⟨[6, 7], [250000, 1046, 200000], [], 0, [], none⟩),
  (11, ⟨[0, 2, 6, 35, 36, 37], [250000, 1046, 200000], [], 0, [], none⟩),
  (12, ⟨[0, 2, 6, 35, 36, 37], [250000, 1046, 200000], [], 0, [], none⟩),
  (13, ⟨[6, 7], [250000, 1046, 200000], [], 0, [], none⟩)] (c1Of (Tryz.f92.body.getD .skip)) = some M92b := by kernel_rfl
end Go.Vc

namespace Go.Vc
open Go.Proofs
set_option maxRecDepth 100000
def M114 : MC := (.reg [qi 1 (.ld (.t 0) 1 false),qi 2 (.bin .add (.t 1) (ic 1)),⟨none,none,.st (.t 0) (.t 2) 1⟩] [] [] [250000])
theorem mc114 : ofCode Tryz.prog [] Tryz.f114.ntmps [(0, ⟨[], [250000], [], 0, [], none⟩)] (Tryz.f114.body.getD .skip) = some M114 := by kernel_rfl
def M32 : MC := (.seq (.reg [⟨some 2,none,.box (.t 0)⟩,⟨some 3,none,.box (.t 1)⟩,qi 4 (.mv (.c (.bool false)))] [(2,2,0)] [2,3] [2,3]) (.seq (.reg [qi 5 (.ld (.t 2) 6 true),⟨some 6,none,.call (.f 65) [.t 5]⟩,mi 7 6,gi 8 7 true (.ld (.t 3) 4 true),gi 10 7 true (.ldc (.t 2) 6 true),⟨some 9,some (7,true),.calls (.f 66) [.t 8]⟩,⟨some 11,some (7,true),.calls (.f 67) [.t 9,.t 10]⟩,qi 12 (.pick (.t 7) (.t 11) (.c (.bool false))),mi 4 12] [] [4] [1006,1009,1011]) .ret))
theorem mc32 : ofCode Tryz.prog [9, 11] Tryz.f32.ntmps [(0, ⟨[2, 3], [2, 3], [], 0, [(2, 2, 0)], none⟩),
  (1, ⟨[4], [1006, 1009, 1011], [(0, 511), (1, 0), (2, 508), (3, 472), (5, 480), (4, 0), (6, 0), (7, 384), (8, 256)], 431, [], none⟩)] (Tryz.f32.body.getD .skip) = some M32 := by kernel_rfl
theorem Run32 {args : List PV} {v : AV} {rs : List (Nat × List PV)} (ids : List Bool) (h : args.length ≤ 13) (hv : run Tryz.prog (retK [RV.tmp 4] ids v rs) M32 [] ⟨entry 0 args, []⟩) : Fn Tryz.prog 32 args v rs :=
 Fn_run ids (by kernel_rfl) Tryz.func32 (by decide) rfl mc32 (by kernel_rfl) (by rw [Tryz.ntmps32]; exact h) (by rw [Tryz.ntmps32]; decide) hv
end Go.Vc

namespace Go.Vc
open Go.Proofs
set_option maxRecDepth 100000
def M32c : MC := (.seq (.reg [⟨(some 2),none,(.box (.t 0))⟩,⟨(some 3),none,(.box (.t 1))⟩,⟨(some 4),none,(.q (.mv (.c (.bool false))))⟩] [(2,2,0)] [2,3] [2,3]) (.seq (.reg [⟨(some 5),none,(.q (.ld (.t 2) 6 true))⟩,⟨(some 6),none,(.call (.f 65) [(.t 5)])⟩,⟨(some 7),none,(.q (.mv (.t 6)))⟩,⟨(some 8),(some (7,true)),(.q (.ld (.t 3) 4 true))⟩,⟨(some 10),(some (7,true)),(.q (.ld (.t 2) 6 true))⟩,⟨(some 9),(some (7,true)),(.call (.f 66) [(.t 8)])⟩,⟨(some 11),(some (7,true)),(.call (.f 67) [(.t 9),(.t 10)])⟩,⟨(some 12),none,(.q (.pick (.t 7) (.t 11) (.c (.bool false))))⟩,⟨(some 4),none,(.q (.mv (.t 12)))⟩] [] [4] [1006,1011]) .ret))
theorem mc32c : ofCode Tryz.prog [] Tryz.f32.ntmps [(0, ⟨[2, 3], [2, 3], [], 0, [(2, 2, 0)], none⟩),
  (1, ⟨[4], [1006, 1011], [(0, 511), (1, 0), (2, 508), (3, 472), (5, 480), (4, 0), (6, 0), (7, 384), (8, 256)], 511, [], none⟩)] (Tryz.f32.body.getD .skip) = some M32c := by kernel_rfl
theorem Run32c {args : List PV} {v : AV} {rs : List (Nat × List PV)} (ids : List Bool) (h : args.length ≤ 13) (hv : run Tryz.prog (retK [RV.tmp 4] ids v rs) M32c [] ⟨entry 0 args, []⟩) : Fn Tryz.prog 32 args v rs :=
 Fn_run ids (by kernel_rfl) Tryz.func32 (by decide) rfl mc32c (by kernel_rfl) (by rw [Tryz.ntmps32]; exact h) (by rw [Tryz.ntmps32]; decide) hv
end Go.Vc

namespace Go.Vc
open Go.Proofs
set_option linter.unusedSimpArgs false
set_option linter.unusedVariables false
abbrev sTopic : ByteArray := ⟨#[116, 111, 112, 105, 99]⟩
abbrev pTop (g : ByteArray) : PV := .agg [pS sTopic, pS g, pB false, pI 0, pS ⟨#[]⟩, .lst []]
theorem fn115 (g : ByteArray) : Fn Tryz.prog 115 [pTop g] (.pv (pB (globB g))) [] := by
 refine Run115 [] (by simp) ?_
 have d1 : (sTopic = (⟨#[97, 108, 108]⟩ : ByteArray)) = False := by simp
 simp only [go_sem, M115, d1]
 refine runR_callf (by simp only [go_sem]) (by simp only [go_sem] <;> rfl) (fn39 g) ⟨rfl, trivial⟩ trivial ?_
 simp only [go_sem]
 done
theorem fnD114 (n : Int) (h : n + 1 ≤ 9223372036854775807) (h0 : 0 ≤ n) : FnD Tryz.prog 114 [.ptr 250000 0] [(250000, .box [.pv (pI n)])] (.pv (.tup [])) [(250000, .box [.pv (pI (n + 1))])] := by
 refine FnD_run (by kernel_rfl) Tryz.func114 (by decide) rfl mc114 (rvs := []) (by kernel_rfl) (by rw [Tryz.ntmps114]; decide) (by rw [Tryz.ntmps114]; decide) (by simp) ?_
 simp only [go_sem, M114]
 exact ⟨by omega, by omega⟩
theorem fnS92 (g : ByteArray) : FnS Tryz.prog 92 [.ptr 200000 0, .pv (pTop g), .pv (pI 8)] [(200000, .box [.pv (pI 0)])] (.pv (.tup [pI 1, pB (globB g)])) [(200000, .box [.pv (pI 1)])] := by
 refine FnS_of_defer (fn := Tryz.f92) (c0 := c0Of (Tryz.f92.body.getD .skip)) (c1 := c1Of (Tryz.f92.body.getD .skip)) (mf := mfOf (Tryz.f92.body.getD .skip)) (df := dfOf (Tryz.f92.body.getD .skip)) (id := idOf (Tryz.f92.body.getD .skip))
  (g := 114) (tb := 6) (tc := 12) (Q := 250000) (d := 3) (by kernel_rfl) Tryz.func92 (by decide) (by kernel_rfl) mc92a mc92b (by kernel_rfl) (by kernel_rfl) (by kernel_rfl) (by kernel_rfl) (by kernel_rfl) (by kernel_rfl) (by rw [Tryz.ntmps92]; decide) (by rw [Tryz.ntmps92]; decide) (by decide)
  (rvs := [.cell 6 1 false, .tmp 7]) (by kernel_rfl) (by rw [Tryz.ntmps92]; simp) (by rw [Tryz.ntmps92]; decide) (by simp) (by simp) (by simp) ?_ ?_ ?_
 ·intro w F ρ ρ' cv h
  simpa only [VRel, VRels] using h
 ·intro r row hm w F ρ ρ' l h
  simp only [List.mem_singleton, Prod.mk.injEq] at hm
  obtain ⟨rfl, rfl⟩ := hm
  simpa only [Row.rel, ACells, VRel] using h
 ·rw [vc_run]
  simp only [go_sem, M92a]
  refine ⟨6, rfl, by omega, ?_⟩
  rw [vc_run]
  simp only [go_sem, St.renA, swp, List.map_cons, List.map_nil, M92b]
  refine runR_callgf (by simp only [go_sem]) (by simp only [go_sem]) (by simp only [go_sem] <;> rfl) (fun _ => fn115 g) rfl ?_
  cases hg : globB g with
  | false =>
   simp only [go_sem]
   refine ⟨.box [.pv (pI 0)], .box [.pv (pI 1)], .pv (.tup []), rfl, fnD114 0 (by omega) (by omega), ?_⟩
   simp only [go_sem, idN, List.map_cons, List.map_nil, List.cons_append, List.nil_append, frDel]
  | true =>
   simp only [go_sem]
   refine run_loop (T := Unit) (fun _ => ⟨[(0, .ptr 200000 0), (2, .pv (pI 8)), (6, .ptr 250000 0), (35, .pv (.lst [])), (36, .pv (pI 0)), (37, .pv (pI 0))], [(250000, .box [.pv (pI 0)]), (200000, .box [.pv (pI 1)])]⟩) (fun _ => True) (fun _ => 0) () rfl trivial ?_
   intro _ _
   simp only [go_sem, R92_0, B92_0]
   refine ⟨.box [.pv (pI 0)], .box [.pv (pI 1)], .pv (.tup []), rfl, fnD114 0 (by omega) (by omega), ?_⟩
   simp only [go_sem, idN, List.map_cons, List.map_nil, List.cons_append, List.nil_append, frDel]
theorem fn65 (g : ByteArray) : Fn Tryz.prog 65 [pTop g] (.pv (pB (globB g))) [] := by
 refine Run65 [] (by simp) ?_
 simp only [go_sem, M65]
 refine runR_calls (fun n => if n = 200000 then 3 else n) (by simp only [go_sem]) (by simp only [go_sem] <;> rfl) (fnS92 g) rfl (by intro e he; simp only [List.mem_cons, List.not_mem_nil, or_false] at he; rcases he with rfl; simp only [go_sem]) (by simp) (by simp) (by simp) (by intro e he h9; simp only [List.mem_cons, List.not_mem_nil, or_false] at he; rcases he with rfl; simp at h9) ?_
 simp only [go_sem]
 done
abbrev askK : List PV := [pS ⟨#[97, 108, 108]⟩, pS sTopic, pS ⟨#[104, 97, 115]⟩, pS ⟨#[101, 113]⟩, pS ⟨#[108, 116]⟩, pS ⟨#[110, 111, 116]⟩, pS ⟨#[97, 110, 100]⟩, pS ⟨#[111, 114]⟩]
abbrev askV (r : Nat) : List AV := [.bnd 93 [.ptr r 0], .bnd 94 [.ptr r 0], .bnd 95 [.ptr r 0], .bnd 96 [.ptr r 0], .bnd 97 [.ptr r 0], .bnd 98 [.ptr r 0], .bnd 99 [.ptr r 0], .bnd 100 [.ptr r 0]]
abbrev askS (e : Ev) (a m : Nat) : List (Nat × Row) := [(a, .box [.pv (pS e.topic), .pv (pS e.producer), .pv (.sc (.int .u64 e.seq)), .pv (.lst (e.l.map Fd.pv)), .mp m]), (m, .mpx askK (askV a))]
theorem fnS66 (e : Ev) : FnS Tryz.prog 66 [.pv e.pv] [] (.ptr 6 0) (askS e 6 8) := by
 refine FnS_run (by kernel_rfl) Tryz.func66 (by decide) rfl mc66 (rvs := [.tmp 2]) (by kernel_rfl) (by rw [Tryz.ntmps66]; simp) (by rw [Tryz.ntmps66]; decide) (by simp) ?_
 simp only [go_sem, M66, lkpx, ksL]
 simp
theorem fnS94 (e : Ev) (g : ByteArray) (hg : g.size ≤ 1000) (ht : e.topic.size ≤ 1000) : FnS Tryz.prog 94 [.ptr 200001 0, .pv (pTop g)] (askS e 200001 200002) (.pv (pB (meetsB g e.topic))) (askS e 200001 200002) := by
 refine RunS94 (by simp) (by simp) ?_
 simp only [go_sem, M94]
 refine runR_callf (by simp only [go_sem]) (by simp only [go_sem] <;> rfl) (fn31 g e.topic hg ht) ⟨rfl, trivial⟩ trivial ?_
 simp only [go_sem]
 done
theorem fnS67 (e : Ev) (g : ByteArray) (hg : g.size ≤ 1000) (ht : e.topic.size ≤ 1000) : FnS Tryz.prog 67 [.ptr 200001 0, .pv (pTop g)] (askS e 200001 200002) (.pv (pB (meetsB g e.topic))) (askS e 200001 200002) := by
 refine RunS67 (by simp) (by simp) ?_
 have d1 : (sTopic = (⟨#[97, 108, 108]⟩ : ByteArray)) = False := by simp
 simp only [go_sem, M67, d1, Option.isSome_some]
 refine runR_callsB idN (by simp only [go_sem]) (by simp only [go_sem] <;> rfl) (fnS94 e g hg ht) rfl (by intro e he; simp only [List.mem_cons, List.not_mem_nil, or_false] at he; rcases he with rfl | rfl <;> simp only [go_sem, idN]) (by simp) (by simp [idN]) (by simp [idN]) (by intro e he h9; simp only [List.mem_cons, List.not_mem_nil, or_false] at he; rcases he with rfl | rfl <;> simp at h9) ?_
 simp only [go_sem, idN]
 done
theorem meets_glob {g t : ByteArray} (h : globB g = false) : meetsB g t = false := by
 unfold meetsB; rw [h]; simp
theorem fn32 (e : Ev) (g : ByteArray) (hg : g.size ≤ 1000) (ht : e.topic.size ≤ 1000) : Fn Tryz.prog 32 [pTop g, e.pv] (.pv (pB (meetsB g e.topic))) [] := by
 cases h : globB g with
 | false =>
  refine Run32c [] (by simp) ?_
  simp only [go_sem, M32c]
  have h65 := fn65 g
  rw [h] at h65
  refine runR_callf (by simp only [go_sem]) (by simp only [go_sem] <;> rfl) (h65) ⟨rfl, trivial⟩ trivial ?_
  rw [meets_glob h]
  simp only [go_sem]
  refine runR_callg (p := pB false) (by simp only [go_sem]) (by simp only [go_sem]) rfl (fun hb => by simp only [go_sem] at hb) (.inl rfl) ?_
  simp only [go_sem]
  refine runR_callg (p := pB false) (by simp only [go_sem]) (by simp only [go_sem]) rfl (fun hb => by simp only [go_sem] at hb) (.inl rfl) ?_
  simp only [go_sem]
  done
 | true =>
  refine Run32 [] (by simp) ?_
  simp only [go_sem, M32]
  have h65 := fn65 g
  rw [h] at h65
  refine runR_callf (by simp only [go_sem]) (by simp only [go_sem] <;> rfl) (h65) ⟨rfl, trivial⟩ trivial ?_
  simp only [go_sem]
  refine runR_calls (fun n => n + 5000) (by simp only [go_sem]) (by simp only [go_sem] <;> rfl) (fnS66 e) rfl (by intro e he; cases he) (by simp) (by simp) (by simp) (by intro e he h9; simp only [List.mem_cons, List.not_mem_nil, or_false] at he; rcases he with rfl | rfl <;> simp) ?_
  simp only [go_sem]
  refine runR_calls (fun n => if n = 200001 then 5006 else if n = 200002 then 5008 else n) (by simp only [go_sem]) (by simp only [go_sem] <;> rfl) (fnS67 e g hg ht) rfl (by intro e he; simp only [List.mem_cons, List.not_mem_nil, or_false] at he; rcases he with rfl | rfl <;> simp only [go_sem]) (by simp) (by simp) (by simp) (by intro e he h9; simp only [List.mem_cons, List.not_mem_nil, or_false] at he; rcases he with rfl | rfl <;> simp at h9) ?_
  simp only [go_sem]
  done
end Go.Vc
