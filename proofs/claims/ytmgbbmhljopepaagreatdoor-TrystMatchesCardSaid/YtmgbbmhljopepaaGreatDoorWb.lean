/- A part of the proofs of the seat YtmgbbmhljopepaaGreatDoor: the contracts of functions, each proved out of its code. -/
import Derived.Test.YtmgbbmhljopepaaGreatDoorWa
import Derived.Test.YtmgbbmhljopepaaGreatDoorVb
import Derived.Lib.ItoaNum
import Derived.Shelf.Strconv.AppendIntPublic10
namespace Go.Vc
set_option linter.unusedSimpArgs false
set_option linter.unusedVariables false
def waysK (signs : List ByteArray) (a : Nat) (ps : List ByteArray) (k : Nat) : List (List (Int × Int)) := (List.range k).map fun j => wayOf signs (a + j) (ps.getD j ⟨#[]⟩)
theorem waysK_succ (signs : List ByteArray) (a : Nat) (ps : List ByteArray) (k : Nat) : waysK signs a ps (k + 1) = waysK signs a ps k ++ [wayOf signs (a + k) (ps.getD k ⟨#[]⟩)] := by
 simp [waysK, List.range_succ]
theorem waysK_len (signs : List ByteArray) (a : Nat) (ps : List ByteArray) (k : Nat) : (waysK signs a ps k).length = k := by simp [waysK]
theorem waysK_cons (signs : List ByteArray) (a : Nat) (p : ByteArray) (ps : List ByteArray) (k : Nat) : waysK signs a (p :: ps) (k + 1) = wayOf signs a p :: waysK signs (a + 1) ps k := by
 unfold waysK
 rw [List.range_succ_eq_map]
 simp only [List.map_cons, List.map_map, List.getD_cons_zero, Nat.add_zero, List.cons.injEq, true_and]
 refine List.map_congr_left fun j _ => ?_
 simp only [Function.comp, List.getD_cons_succ]
 rw [show a + (j + 1) = a + 1 + j by omega]
theorem waysP_eq (signs : List ByteArray) : ∀ (ps : List ByteArray) (a : Nat), waysP signs a ps = waysK signs a ps ps.length ++ [[]]
 | [], _ => rfl
 | p :: ps, a => by rw [waysP, waysP_eq signs ps, List.length_cons, waysK_cons]; rfl
theorem waysG_app (signs : List ByteArray) : ∀ (gs : List (List ByteArray)) (ps : List ByteArray) (a : Nat), waysG signs a (gs ++ [ps]) = waysG signs a gs ++ waysP signs (a + base gs gs.length) ps
 | [], ps, a => by simp [waysG, base_zero]
 | q :: gs, ps, a => by
  rw [List.cons_append, waysG, waysG_app signs gs, waysG, List.append_assoc, List.length_cons, base_cons]
  rw [show a + q.length + 1 + base gs gs.length = a + (q.length + 1 + base gs gs.length) by omega]
theorem doneG_app : ∀ (gs : List (List ByteArray)) (ps : List ByteArray) (a : Nat), doneG a (gs ++ [ps]) = doneG a gs ++ (List.replicate ps.length [] ++ [[a + gs.length]])
 | [], ps, a => by simp [doneG]
 | q :: gs, ps, a => by
  rw [List.cons_append, doneG, doneG_app gs, doneG, List.append_assoc, List.length_cons]
  rw [show a + 1 + gs.length = a + (gs.length + 1) by omega]
  simp only [List.append_assoc]
theorem base_take {gs : List (List ByteArray)} {i : Nat} (h : i ≤ gs.length) : base (gs.take i) (gs.take i).length = base gs i := by
 unfold base
 rw [List.take_length]
theorem waysG_take {signs : List ByteArray} {gs : List (List ByteArray)} {i : Nat} (h : i < gs.length) : waysG signs 0 (gs.take (i + 1)) = waysG signs 0 (gs.take i) ++ (waysK signs (base gs i) gs[i] gs[i].length ++ [[]]) := by
 rw [List.take_succ_eq_append_getElem h, waysG_app, waysP_eq, base_take (by omega), Nat.zero_add]
theorem doneG_take {gs : List (List ByteArray)} {i : Nat} (h : i < gs.length) : doneG 0 (gs.take (i + 1)) = doneG 0 (gs.take i) ++ (List.replicate gs[i].length [] ++ [[i]]) := by
 rw [List.take_succ_eq_append_getElem h, doneG_app, Nat.zero_add, List.length_take, Nat.min_eq_left (by omega)]
theorem waysG_lenT {signs : List ByteArray} {gs : List (List ByteArray)} {i : Nat} (h : i ≤ gs.length) : (waysG signs 0 (gs.take i)).length = base gs i := by
 rw [waysG_len, base_take h]
theorem doneG_lenT {gs : List (List ByteArray)} {i : Nat} (h : i ≤ gs.length) : (doneG 0 (gs.take i)).length = base gs i := by
 rw [doneG_len, base_take h]
structure GsOk (gs : List (List ByteArray)) : Prop where
 n : gs.length ≤ 20
 p : ∀ ps ∈ gs, ps.length ≤ 8
theorem base_le {gs : List (List ByteArray)} (h : ∀ ps ∈ gs, ps.length ≤ 8) : ∀ i, i ≤ gs.length → base gs i ≤ 9 * i
 | 0, _ => Nat.le_refl _
 | i + 1, hi => by
  have := base_le h i (by omega)
  have := h gs[i] (List.getElem_mem _)
  rw [base_succ (by omega)]; omega
theorem GsOk.size {gs : List (List ByteArray)} (h : GsOk gs) : (nfaOf gs).size ≤ 180 := by
 have := base_le h.p gs.length (Nat.le_refl _)
 have := h.n
 rw [size_nfa]; omega
theorem insB_len (x : ByteArray) : ∀ l : List ByteArray, (insB l x).length = l.length + 1
 | [] => rfl
 | a :: l => by unfold insB; split <;> simp [insB_len x l]
theorem addsB_len : ∀ (ps l : List ByteArray), (addsB l ps).length ≤ l.length + ps.length
 | [], l => by simp [addsB]
 | p :: ps, l => by
  have := addsB_len ps (addB l p)
  have h2 : (addB l p).length ≤ l.length + 1 := by
   unfold addB; split
   ·omega
   ·rw [insB_len]; exact Nat.le_refl _
  unfold addsB at *
  rw [List.foldl_cons, List.length_cons]; omega
theorem flat_len : ∀ (gs : List (List ByteArray)), (∀ ps ∈ gs, ps.length ≤ 8) → (gs.flatMap realB).length ≤ 8 * gs.length
 | [], _ => Nat.le_refl _
 | ps :: gs, h => by
  have := flat_len gs fun q hq => h q (List.mem_cons_of_mem _ hq)
  have h2 := h ps (by simp)
  have h3 : (realB ps).length ≤ ps.length := List.length_filter_le _ _
  rw [List.flatMap_cons, List.length_append, List.length_cons]; omega
theorem signs_le {gs : List (List ByteArray)} (h : ∀ ps ∈ gs, ps.length ≤ 8) : (signsOf gs).length ≤ 8 * gs.length := by
 have h1 := addsB_len (gs.flatMap realB) []
 have h2 := flat_len gs h
 unfold signsOf
 simp only [List.length_nil] at h1
 omega
theorem GsOk.signs {gs : List (List ByteArray)} (h : GsOk gs) : (signsOf gs).length ≤ 160 := by
 have h1 := signs_le h.p
 have h2 := h.n
 omega
theorem wayOf_len (signs : List ByteArray) (a : Nat) (p : ByteArray) : (wayOf signs a p).length ≤ signs.length + 2 := by
 unfold wayOf
 split
 ·simp
 ·split
  ·simp
  ·simp
theorem ways_len {gs : List (List ByteArray)} (s : Nat) : ((nfaOf gs).ways.getD s []).length ≤ (signsOf gs).length + 2 := by
 by_cases hs : s < (nfaOf gs).size
 ·have hs' := hs
  rw [size_nfa] at hs'
  obtain ⟨i, hi, _, k, hk, rfl⟩ := base_split _ (Nat.le_refl _) s hs'
  rw [ways_at hi hk]
  cases (gs[i])[k]? with
  | none => simp
  | some p => exact wayOf_len _ _ _
 ·rw [List.getD_eq_getElem?_getD, List.getElem?_eq_none (by unfold NF.size at hs; omega)]; simp
theorem GsOk.ways {gs : List (List ByteArray)} (h : GsOk gs) (s : Nat) : ((nfaOf gs).ways.getD s []).length ≤ 162 := by
 have := ways_len (gs := gs) s
 have := h.signs
 omega
theorem realK_succ {ps : List ByteArray} {k : Nat} (h : k < ps.length) : realB (ps.take (k + 1)) = realB (ps.take k) ++ (if ps[k] ≠ sAny ∧ ps[k] ≠ sAll then [ps[k]] else []) := by
 unfold realB
 rw [List.take_succ_eq_append_getElem h, List.filter_append]
 congr 1
 by_cases h1 : ps[k] = sAny <;> by_cases h2 : ps[k] = sAll <;> simp [h1, h2]
end Go.Vc

namespace Go.Vc
set_option linter.unusedSimpArgs false
set_option linter.unusedVariables false
structure DI where
 signs : List ByteArray
 next : List (List Int)
 done : List (List Int)
 deriving Inhabited
def risI (l : List Int) : Bool := (List.range (l.length - 1)).all fun k => decide (l.getD k 0 < l.getD (k + 1) 0)
def risS (l : List ByteArray) : Bool := (List.range (l.length - 1)).all fun k => ltB (l.getD k ⟨#[]⟩) (l.getD (k + 1) ⟨#[]⟩)
def okRow (d : DI) (i : Nat) : Bool :=
 decide ((d.next.getD i []).length = d.signs.length + 1) && ((d.next.getD i []).all (fun t => decide (-1 ≤ t ∧ t < (d.next.length : Int))) &&
  (risI (d.done.getD i []) && (decide ((d.done.getD i []).length = 0) || decide (0 ≤ (d.done.getD i []).getD 0 0))))
def mayB (d : DI) : Bool := decide (d.next.length ≠ 0) && (decide (d.done.length = d.next.length) && (risS d.signs && (List.range d.next.length).all (okRow d)))
def txt (k : List Int) : List UInt8 := k.flatMap fun n => Lib.itoa n ++ [32]
theorem digit_ne {n : Nat} (h : n < 10) : UInt8.ofNat (48 + n) ≠ 32 := by
 have : n = 0 ∨ n = 1 ∨ n = 2 ∨ n = 3 ∨ n = 4 ∨ n = 5 ∨ n = 6 ∨ n = 7 ∨ n = 8 ∨ n = 9 := by omega
 rcases this with rfl | rfl | rfl | rfl | rfl | rfl | rfl | rfl | rfl | rfl <;> decide
theorem digit_inj {m n : Nat} (hm : m < 10) (hn : n < 10) (h : UInt8.ofNat (48 + m) = UInt8.ofNat (48 + n)) : m = n := by
 have h1 : (UInt8.ofNat (48 + m)).toNat = (UInt8.ofNat (48 + n)).toNat := by rw [h]
 simp only [UInt8.toNat_ofNat'] at h1
 omega
theorem dec_ne (u : Nat) : ∀ b ∈ Lib.decDigits u, b ≠ 32 ∧ b ≠ 45 := by
 induction u using Nat.strongRecOn with
 | _ u ih =>
  have dg : ∀ n, n < 10 → UInt8.ofNat (48 + n) ≠ 45 := fun n h => by
   have : n = 0 ∨ n = 1 ∨ n = 2 ∨ n = 3 ∨ n = 4 ∨ n = 5 ∨ n = 6 ∨ n = 7 ∨ n = 8 ∨ n = 9 := by omega
   rcases this with rfl | rfl | rfl | rfl | rfl | rfl | rfl | rfl | rfl | rfl <;> decide
  intro b hb
  by_cases h : u < 10
  ·rw [Lib.decDigits, dif_pos h, List.mem_singleton] at hb
   subst hb
   exact ⟨digit_ne h, dg u h⟩
  ·rw [Lib.decDigits, dif_neg h, List.mem_append, List.mem_singleton] at hb
   rcases hb with hb | rfl
   ·exact ih (u / 10) (by omega) b hb
   ·exact ⟨digit_ne (by omega), dg _ (by omega)⟩
theorem dec_nil (u : Nat) : Lib.decDigits u ≠ [] := by
 rw [Lib.decDigits]; split <;> simp
theorem dec_s {u : Nat} (h : u < 10) : Lib.decDigits u = [UInt8.ofNat (48 + u)] := by rw [Lib.decDigits, dif_pos h]
theorem dec_b {u : Nat} (h : ¬ u < 10) : Lib.decDigits u = Lib.decDigits (u / 10) ++ [UInt8.ofNat (48 + u % 10)] := by rw [Lib.decDigits, dif_neg h]
theorem dec_inj : ∀ {u v : Nat}, Lib.decDigits u = Lib.decDigits v → u = v := by
 intro u
 induction u using Nat.strongRecOn with
 | _ u ih =>
  intro v h
  by_cases hu : u < 10
  ·by_cases hv : v < 10
   ·rw [dec_s hu, dec_s hv, List.cons.injEq] at h
    exact digit_inj hu hv h.1
   ·rw [dec_s hu, dec_b hv] at h
    have h1 := congrArg List.length h
    have h2 := List.length_pos_iff.2 (dec_nil (v / 10))
    simp only [List.length_append, List.length_singleton] at h1
    omega
  ·by_cases hv : v < 10
   ·rw [dec_b hu, dec_s hv] at h
    have h1 := congrArg List.length h
    have h2 := List.length_pos_iff.2 (dec_nil (u / 10))
    simp only [List.length_append, List.length_singleton] at h1
    omega
   ·rw [dec_b hu, dec_b hv] at h
    obtain ⟨h1, h2⟩ := List.append_inj' h rfl
    have h3 := ih (u / 10) (by omega) h1
    rw [List.cons.injEq] at h2
    have h4 := digit_inj (by omega) (by omega) h2.1
    omega
theorem itoa_ne (n : Int) : ∀ b ∈ Lib.itoa n, b ≠ 32 := by
 intro b hb
 unfold Lib.itoa at hb
 split at hb
 ·rcases List.mem_cons.1 hb with rfl | hb
  ·decide
  ·exact (dec_ne _ b hb).1
 ·exact (dec_ne _ b hb).1
theorem itoa_inj {m n : Int} (h : Lib.itoa m = Lib.itoa n) : m = n := by
 unfold Lib.itoa at h
 have hd : ∀ (u : Nat) (r : List UInt8), Lib.decDigits u ≠ 45 :: r := fun u r h => (dec_ne u 45 (by rw [h]; simp)).2 rfl
 split at h <;> split at h
 ·rw [List.cons.injEq] at h
  have := dec_inj h.2
  omega
 ·exact absurd h.symm (hd _ _)
 ·exact absurd h (hd _ _)
 ·have := dec_inj h
  omega
theorem cut_inj : ∀ {a b x y : List UInt8}, (∀ c ∈ a, c ≠ 32) → (∀ c ∈ b, c ≠ 32) → a ++ 32 :: x = b ++ 32 :: y → a = b ∧ x = y
 | [], [], x, y, _, _, h => by simpa using h
 | [], c :: b, x, y, _, hb, h => by
  simp only [List.nil_append, List.cons_append, List.cons.injEq] at h
  exact absurd h.1.symm (hb c (by simp))
 | c :: a, [], x, y, ha, _, h => by
  simp only [List.nil_append, List.cons_append, List.cons.injEq] at h
  exact absurd h.1 (ha c (by simp))
 | c :: a, e :: b, x, y, ha, hb, h => by
  simp only [List.cons_append, List.cons.injEq] at h
  obtain ⟨h1, h2⟩ := cut_inj (fun c hc => ha c (by simp [hc])) (fun c hc => hb c (by simp [hc])) h.2
  exact ⟨by rw [h.1, h1], h2⟩
theorem txt_inj : ∀ {k l : List Int}, txt k = txt l → k = l
 | [], [], _ => rfl
 | [], n :: l, h => by simp [txt] at h
 | n :: k, [], h => by simp [txt] at h
 | m :: k, n :: l, h => by
  simp only [txt, List.flatMap_cons, List.append_assoc, List.singleton_append] at h
  obtain ⟨h1, h2⟩ := cut_inj (itoa_ne m) (itoa_ne n) h
  rw [itoa_inj h1, txt_inj (k := k) (l := l) h2]
theorem txt_app (k l : List Int) : txt (k ++ l) = txt k ++ txt l := by simp [txt]
abbrev bT (k : List Int) : ByteArray := mkB (txt k)
theorem bT_inj {k l : List Int} (h : bT k = bT l) : k = l := txt_inj (mkB_inj h)
section
variable {K : Type} [DecidableEq K]
def ddF (ks : List K) : List K := ks.foldl (fun L k => if k ∈ L then L else L ++ [k]) []
theorem ddF_snoc (ks : List K) (k : K) : ddF (ks ++ [k]) = if k ∈ ddF ks then ddF ks else ddF ks ++ [k] := by
 unfold ddF
 rw [List.foldl_append]
 rfl
theorem ddF_take {ks : List K} {i : Nat} (h : i < ks.length) : ddF (ks.take (i + 1)) = if ks[i] ∈ ddF (ks.take i) then ddF (ks.take i) else ddF (ks.take i) ++ [ks[i]] := by
 rw [← ddF_snoc, List.take_succ_eq_append_getElem h]
omit [DecidableEq K] in
theorem snoc_ind {P : List K → Prop} (h0 : P []) (h1 : ∀ l k, P l → P (l ++ [k])) : ∀ l, P l := fun l => by
 have : ∀ n, ∀ l : List K, l.length = n → P l := fun n => by
  induction n with
  | zero => intro l hl; rw [List.eq_nil_of_length_eq_zero hl]; exact h0
  | succ n ih =>
   intro l hl
   rcases List.eq_nil_or_concat l with rfl | ⟨m, k, rfl⟩
   ·exact h0
   ·rw [List.concat_eq_append] at hl ⊢
    exact h1 m k (ih m (by simp at hl; omega))
 exact this _ l rfl
theorem ddF_mem {x : K} : ∀ {ks : List K}, x ∈ ddF ks ↔ x ∈ ks := by
 intro ks
 induction ks using snoc_ind with
 | h0 => simp [ddF]
 | h1 l k ih =>
  rw [ddF_snoc]
  split
  ·rename_i h
   rw [ih, List.mem_append, List.mem_singleton]
   exact ⟨.inl, fun hx => hx.elim id fun e => by subst e; exact ih.1 h⟩
  ·rw [List.mem_append, List.mem_append, ih]
theorem ddF_nodup : ∀ (ks : List K), (ddF ks).Nodup := by
 intro ks
 induction ks using snoc_ind with
 | h0 => simp [ddF]
 | h1 l k ih =>
  rw [ddF_snoc]
  split
  ·exact ih
  ·rename_i h
   rw [List.nodup_append]
   exact ⟨ih, by simp, fun a ha b hb => by simp at hb; subst hb; intro e; subst e; exact h ha⟩
theorem ddF_len (ks : List K) : (ddF ks).length ≤ ks.length := List.Nodup.length_le_of_subset (ddF_nodup ks) fun x hx => ddF_mem.1 hx
theorem ddF_pre (ks : List K) {i : Nat} (h : i ≤ ks.length) : ∃ X, ddF ks = ddF (ks.take i) ++ X := by
 have : ∀ m, ∀ j, j + m = ks.length → ∃ X, ddF ks = ddF (ks.take j) ++ X := fun m => by
  induction m with
  | zero => intro j hj; exact ⟨[], by rw [List.take_of_length_le (by omega)]; simp⟩
  | succ m ih =>
   intro j hj
   obtain ⟨X, hX⟩ := ih (j + 1) (by omega)
   rw [ddF_take (by omega)] at hX
   split at hX
   ·exact ⟨X, hX⟩
   ·exact ⟨_ :: X, by rw [hX, List.append_assoc]; rfl⟩
 exact this (ks.length - i) i (by omega)
def ixOf (L : List K) (k : K) : Nat := L.idxOf k
theorem ixOf_cons (u k : K) (L : List K) : ixOf (u :: L) k = if u = k then 0 else ixOf L k + 1 := by
 unfold ixOf
 rw [List.idxOf_cons]
 by_cases h : u = k
 ·subst h; simp
 ·rw [if_neg h, show (u == k) = false by simp [h]]; rfl
theorem ixOf_app {L X : List K} {k : K} (h : k ∈ L) : ixOf (L ++ X) k = ixOf L k := by unfold ixOf; rw [List.idxOf_append, if_pos h]
theorem ixOf_new {L : List K} {k : K} (h : k ∉ L) : ixOf (L ++ [k]) k = L.length := by unfold ixOf; rw [List.idxOf_append, if_neg h]; simp
theorem ixOf_lt {L : List K} {k : K} (h : k ∈ L) : ixOf L k < L.length := List.idxOf_lt_length_of_mem h
theorem ixOf_out {L : List K} {k : K} (h : k ∉ L) : ixOf L k = L.length := List.idxOf_eq_length h
theorem ixOf_get {L : List K} {k : K} (h : k ∈ L) : L[ixOf L k]'(ixOf_lt h) = k := List.getElem_idxOf (List.idxOf_lt_length_of_mem h)
theorem ixOf_inj {L : List K} {a b : K} (ha : a ∈ L) (hb : b ∈ L) (h : ixOf L a = ixOf L b) : a = b := by
 rw [← ixOf_get ha, ← ixOf_get hb]
 congr 1
theorem ddF_idx {ks : List K} {i : Nat} (h : i ≤ ks.length) {x : K} (hx : x ∈ ks.take i) : ixOf (ddF ks) x = ixOf (ddF (ks.take i)) x := by
 obtain ⟨X, hX⟩ := ddF_pre ks h
 rw [hX, ixOf_app (ddF_mem.2 hx)]
theorem num_in {ks : List K} {i : Nat} (h : i < ks.length) (hm : ks[i] ∈ ddF (ks.take i)) : ixOf (ddF ks) ks[i] = ixOf (ddF (ks.take i)) ks[i] ∧ ddF (ks.take (i + 1)) = ddF (ks.take i) :=
 ⟨ddF_idx (by omega) (ddF_mem.1 hm), by rw [ddF_take h, if_pos hm]⟩
theorem num_out {ks : List K} {i : Nat} (h : i < ks.length) (hm : ks[i] ∉ ddF (ks.take i)) : ixOf (ddF ks) ks[i] = (ddF (ks.take i)).length ∧ ddF (ks.take (i + 1)) = ddF (ks.take i) ++ [ks[i]] := by
 have h1 : ddF (ks.take (i + 1)) = ddF (ks.take i) ++ [ks[i]] := by rw [ddF_take h, if_neg hm]
 refine ⟨?_, h1⟩
 rw [ddF_idx (i := i + 1) (by omega) (by rw [List.take_succ_eq_append_getElem h]; exact List.mem_append.2 (.inr (List.mem_singleton.2 rfl))), h1, ixOf_new hm]
def clsOf (ks : List K) : List Nat := ks.map fun k => ixOf (ddF ks) k
theorem clsOf_len (ks : List K) : (clsOf ks).length = ks.length := List.length_map _
theorem clsOf_at {ks : List K} {i : Nat} (h : i < ks.length) : (clsOf ks).getD i 0 = ixOf (ddF ks) ks[i] := by
 simp [clsOf, List.getD_eq_getElem?_getD, h]
theorem clsOf_eq {ks : List K} {i j : Nat} (hi : i < ks.length) (hj : j < ks.length) : (clsOf ks).getD i 0 = (clsOf ks).getD j 0 ↔ ks[i] = ks[j] := by
 rw [clsOf_at hi, clsOf_at hj]
 exact ⟨fun h => ixOf_inj (ddF_mem.2 (List.getElem_mem hi)) (ddF_mem.2 (List.getElem_mem hj)) h, fun h => by rw [h]⟩
theorem ddF_map_le {J : Type} [DecidableEq J] (f : K → J) (ks : List K) : (ddF (ks.map f)).length ≤ (ddF ks).length := by
 have := List.Nodup.length_le_of_subset (l₂ := (ddF ks).map f) (ddF_nodup (ks.map f)) fun x hx => by
  obtain ⟨k, hk, rfl⟩ := List.mem_map.1 (ddF_mem.1 hx)
  exact List.mem_map.2 ⟨k, ddF_mem.2 hk, rfl⟩
 simpa using this
theorem ddF_cls (ks : List K) : (ddF ks).length ≤ (ddF (clsOf ks)).length := by
 have hn : ((ddF ks).map fun k => ixOf (ddF ks) k).Nodup := by
  rw [List.Nodup, List.pairwise_map]
  exact List.Pairwise.imp_of_mem (fun {a b} ha hb hab e => hab (ixOf_inj ha hb e)) (ddF_nodup ks)
 have := List.Nodup.length_le_of_subset (l₂ := ddF (clsOf ks)) hn fun x hx => by
  obtain ⟨k, hk, rfl⟩ := List.mem_map.1 hx
  exact ddF_mem.2 (List.mem_map.2 ⟨k, ddF_mem.1 hk, rfl⟩)
 simpa using this
end
inductive DI.Live (d : DI) : Nat → Prop where
 | done {i : Nat} : i < d.next.length → d.done.getD i [] ≠ [] → Live d i
 | step {i to : Nat} : i < d.next.length → (to : Int) ∈ d.next.getD i [] → Live d to → Live d i
open Classical in
noncomputable def liveL (d : DI) : List Bool := (List.range d.next.length).map fun i => decide (d.Live i)
theorem liveL_len (d : DI) : (liveL d).length = d.next.length := by simp [liveL]
def dead (lv : List Bool) (t : Int) : Bool := decide (t = -1) || !lv.getD t.toNat false
def wayC (lv : List Bool) (cl : List Nat) (t : Int) : Int := if dead lv t = true then -1 else (cl.getD t.toNat 0 : Int)
def keyC (d : DI) (lv : List Bool) (cl : List Nat) (i : Nat) : List Int := (cl.getD i 0 : Int) :: (d.next.getD i []).map (wayC lv cl)
def keys0 (d : DI) : List (List Int) := (List.range d.next.length).map fun i => d.done.getD i []
def keysC (d : DI) (lv : List Bool) (cl : List Nat) : List (List Int) := (List.range d.next.length).map (keyC d lv cl)
def goC (d : DI) (lv : List Bool) : Nat → List Nat → Nat → List Nat
 | 0, cl, _ => cl
 | f + 1, cl, c => if (ddF (keysC d lv cl)).length = c then cl else goC d lv f (clsOf (keysC d lv cl)) (ddF (keysC d lv cl)).length
def classR (d : DI) (lv : List Bool) : List Nat := goC d lv (d.next.length + 1) (clsOf (keys0 d)) (ddF (keys0 d)).length
theorem finer (d : DI) (lv : List Bool) {cl : List Nat} (h : cl.length = d.next.length) : (ddF cl).length ≤ (ddF (keysC d lv cl)).length := by
 have e : (keysC d lv cl).map (fun k => (k.getD 0 0).toNat) = cl := by
  refine List.ext_getElem (by simp [keysC, h]) fun i h1 h2 => ?_
  simp [keysC, keyC, List.getD_eq_getElem?_getD, h2]
 have := ddF_map_le (fun k : List Int => (k.getD 0 0).toNat) (keysC d lv cl)
 rwa [e] at this
def stepF (lv : List Bool) (cl : List Nat) (first : List Nat) (t : Int) : List Nat :=
 if dead lv t = true then first else if cl.getD t.toNat 0 ∈ first.map (fun s => cl.getD s 0) then first else first ++ [t.toNat]
def numF (lv : List Bool) (cl : List Nat) (first : List Nat) (t : Int) : Int :=
 if dead lv t = true then -1 else (ixOf (first.map fun s => cl.getD s 0) (cl.getD t.toNat 0) : Int)
def rowF (lv : List Bool) (cl : List Nat) (first : List Nat) (row : List Int) : Nat → List Nat
 | 0 => first
 | j + 1 => stepF lv cl (rowF lv cl first row j) (row.getD j 0)
def rowW (lv : List Bool) (cl : List Nat) (first : List Nat) (row : List Int) : Nat → List Int
 | 0 => []
 | j + 1 => rowW lv cl first row j ++ [numF lv cl (rowF lv cl first row j) (row.getD j 0)]
def firstL (d : DI) (lv : List Bool) (cl : List Nat) : Nat → List Nat
 | 0 => [0]
 | i + 1 => rowF lv cl (firstL d lv cl i) (d.next.getD ((firstL d lv cl i).getD i 0) []) (d.next.getD ((firstL d lv cl i).getD i 0) []).length
def endF (d : DI) (lv : List Bool) (cl : List Nat) : Nat → Nat → Nat
 | 0, i => i
 | f + 1, i => if (firstL d lv cl i).length ≤ i then i else endF d lv cl f (i + 1)
def waysF (d : DI) (lv : List Bool) (cl : List Nat) (i : Nat) : List Int :=
 rowW lv cl (firstL d lv cl i) (d.next.getD ((firstL d lv cl i).getD i 0) []) (d.next.getD ((firstL d lv cl i).getD i 0) []).length
def leastK (d : DI) (lv : List Bool) (cl : List Nat) : Nat := endF d lv cl (d.next.length + 1) 0
def leastC (d : DI) (lv : List Bool) (cl : List Nat) (k : Nat) : DI := ⟨d.signs, (List.range k).map (waysF d lv cl), (List.range k).map fun i => d.done.getD ((firstL d lv cl i).getD i 0) []⟩
def leastOf (d : DI) (lv : List Bool) : DI := leastC d lv (classR d lv) (leastK d lv (classR d lv))
noncomputable def leastR (d : DI) : DI := leastOf d (liveL d)
structure FirstOk (n : Nat) (cl : List Nat) (first : List Nat) : Prop where
 nd : (first.map fun s => cl.getD s 0).Nodup
 lt : ∀ s ∈ first, s < n
theorem FirstOk.len {n : Nat} {cl first : List Nat} (h : FirstOk n cl first) : first.length ≤ n := by
 have hn : first.Nodup := by
  have := h.nd
  rw [List.Nodup, List.pairwise_map] at this
  exact this.imp fun hab e => hab (by rw [e])
 have := List.Nodup.length_le_of_subset (l₂ := List.range n) hn fun s hs => List.mem_range.2 (h.lt s hs)
 simpa using this
theorem FirstOk.step {n : Nat} {lv : List Bool} {cl first : List Nat} {t : Int} (h : FirstOk n cl first) (ht : -1 ≤ t ∧ t < (n : Int)) : FirstOk n cl (stepF lv cl first t) := by
 unfold stepF
 split
 ·exact h
 ·rename_i hd
  split
  ·exact h
  ·rename_i hm
   refine ⟨?_, ?_⟩
   ·rw [List.map_append, List.nodup_append]
    exact ⟨h.nd, by simp, fun a ha b hb => by simp at hb; subst hb; intro e; subst e; exact hm ha⟩
   ·intro s hs
    rcases List.mem_append.1 hs with hs | hs
    ·exact h.lt s hs
    ·rw [List.mem_singleton] at hs
     have : t ≠ -1 := fun e => hd (by simp [dead, e])
     omega
theorem FirstOk.row {n : Nat} {lv : List Bool} {cl first : List Nat} {row : List Int} (h : FirstOk n cl first) (hr : ∀ t ∈ row, -1 ≤ t ∧ t < (n : Int)) : ∀ {j : Nat}, j ≤ row.length → FirstOk n cl (rowF lv cl first row j)
 | 0, _ => h
 | j + 1, hj => (h.row hr (j := j) (by omega)).step (by
  have : row.getD j 0 ∈ row := by rw [List.getD_eq_getElem?_getD, List.getElem?_eq_getElem (by omega)]; exact List.getElem_mem _
  exact hr _ this)
def DI.Rows (d : DI) : Prop := ∀ i, ∀ t ∈ d.next.getD i [], -1 ≤ t ∧ t < (d.next.length : Int)
theorem firstOk {d : DI} {lv : List Bool} {cl : List Nat} (hr : d.Rows) (h0 : 0 < d.next.length) : ∀ i, FirstOk d.next.length cl (firstL d lv cl i)
 | 0 => ⟨by simp [firstL], by simp [firstL]; omega⟩
 | i + 1 => (firstOk hr h0 i).row (hr _) (Nat.le_refl _)
theorem stepF_pre {lv : List Bool} {cl first : List Nat} {t : Int} : first <+: stepF lv cl first t := by
 unfold stepF; split
 ·exact List.prefix_refl _
 ·split
  ·exact List.prefix_refl _
  ·exact List.prefix_append _ _
theorem rowF_pre {lv : List Bool} {cl first : List Nat} {row : List Int} : ∀ j, first <+: rowF lv cl first row j
 | 0 => List.prefix_refl _
 | j + 1 => (rowF_pre j).trans stepF_pre
theorem firstL_pre (d : DI) (lv : List Bool) (cl : List Nat) (i : Nat) : firstL d lv cl i <+: firstL d lv cl (i + 1) := rowF_pre _
theorem rowW_len (lv : List Bool) (cl first : List Nat) (row : List Int) : ∀ j, (rowW lv cl first row j).length = j
 | 0 => rfl
 | j + 1 => by simp [rowW, rowW_len lv cl first row j]
theorem endF_at (d : DI) (lv : List Bool) (cl : List Nat) : ∀ {f i : Nat}, d.next.length < f + i → (∀ j, (firstL d lv cl j).length ≤ d.next.length) → (firstL d lv cl (endF d lv cl f i)).length ≤ endF d lv cl f i
 | 0, i, h, hb => by
  simp only [endF]
  have := hb i
  omega
 | f + 1, i, h, hb => by
  simp only [endF]
  split
  ·assumption
  ·exact endF_at d lv cl (by omega) hb
end Go.Vc

namespace Go.Vc
open Go Go.Proofs Go.Shelf Go.RowKit Go.Sort Go.Lib
def Buf (w : World) (o : Option Nat) (v : Value) (n : Nat) (bs : List Value) : Prop :=
 (o = none ∧ (∃ ad, v = .slice ad 0 0) ∧ n = 0 ∧ bs = []) ∨
 (∃ g b c L tb, o = some g ∧ v = .slice (some ⟨g, b, none⟩) n c ∧ w.heap[g]? = some (.cells ⟨L⟩ tb (0, 0)) ∧ n ≤ c ∧ b + c ≤ L.length ∧ (∀ x ∈ L, x.oneCell' = true) ∧ bs.length = n ∧ CellsAt w g b bs)
def Nxt (w : World) (o o' : Option Nat) : Prop := o' = o ∨ ∃ g, o' = some g ∧ w.heap.size ≤ g
theorem Buf.of {w w' : World} {o : Option Nat} {v : Value} {n : Nat} {bs : List Value} (h : Buf w o v n bs) (hw : ∀ g, o = some g → w'.heap[g]? = w.heap[g]?) : Buf w' o v n bs := by
 rcases h with h | ⟨g, b, c, L, tb, ho, hv, hh, hn, hc, h1, hl, hcs⟩
 ·exact .inl h
 ·have e := hw g ho
  refine .inr ⟨g, b, c, L, tb, ho, hv, e.trans hh, hn, hc, h1, hl, fun j x hj => ?_⟩
  rw [World.cell?_of_block (a := ⟨g, b + j, none⟩) e]
  exact hcs j x hj
theorem Buf.lt {w : World} {o : Option Nat} {v : Value} {n : Nat} {bs : List Value} (h : Buf w o v n bs) : ∀ g, o = some g → g < w.heap.size := by
 rcases h with ⟨h, _⟩ | ⟨g, b, c, L, tb, ho, hv, hh, _⟩
 ·intro g hg; rw [h] at hg; cases hg
 ·intro q hq
  rw [ho] at hq
  injection hq with hq
  subst hq
  exact (Array.getElem?_eq_some_iff.1 hh).1
theorem Src.str {P : Program} {w : World} (s : ByteArray) : Src P w 1 (.string s) s.size (strCells s) :=
 ⟨fun w' => by simp [Builtin.lenOf], fun w' _ => run_firstCells_string (P := P) w' 1 s, by rw [strCells_length, Nat.mul_one]⟩
section
variable {P : Program}
theorem run_growB {w : World} {t t2 ty et : TypeId} {i : TypeInfo} {zv : Value} {k : TypeDesc} (ht : P.underlying t = some (.slice et)) (ht2 : P.underlying t2 = some k) (hk : (∃ e2, k = .slice e2) ∨ k = .string) (hi : P.info? et = some i) (hz : i.zero = some zv)
  {ba : Option Addr} {n c : Nat} {olds : List Value} (hold : Src P w i.size (.slice ba n c) n olds) {y : Value} {m : Nat} {news : List Value} (hnew : Src P w i.size y m news)
  (hg : c < n + m) (h63 : n + m ≤ 9223372036854775807) (hfit : (n + m) * i.bytes ≤ 140737488355328) :
  (Builtin.append_ #[t, t2] ty #[.slice ba n c, y]).run P w = .ok (.slice (some ⟨w.heap.size, 0, none⟩) (n + m) (grownCap w (n + m) c et))
   (w.drew.alloc (.cells ⟨olds ++ news ++ (Builtin.zeroCells zv.cells (grownCap w (n + m) c et - (n + m))).toList⟩ et)) := by
 have hn : ¬ (n + m ≤ c) := by omega
 have h63' : ¬ (9223372036854775807 < ((n : Int) + (m : Int))) := by omega
 have h48' : ¬ (281474976710656 < Builtin.nextslicecap (n + m) c * i.bytes) := by
  have := growslice_fits (need := n + m) (old := c) (bytes := i.bytes) hg hfit; omega
 have hf := hnew.here w.drew rfl
 have hfo := hold.here w.drew rfl
 rcases hk with ⟨e2, rfl⟩ | rfl <;>
 ·simp [Builtin.append_, run_underlying ht, run_underlying ht2, sizeOf, typeInfo, zeroValue, hi, hz, hnew.len, hn, h63', h48', Question.forced, hf, hfo, newRow, grownCap]
  congr 2
  apply Array.ext'
  simp
theorem run_roomB {w : World} {t t2 ty et : TypeId} {i : TypeInfo} {k : TypeDesc} (ht : P.underlying t = some (.slice et)) (ht2 : P.underlying t2 = some k) (hk : (∃ e2, k = .slice e2) ∨ k = .string) (hi : P.info? et = some i)
  {b o' n c : Nat} {L : List Value} {tb : TypeId} (hb : w.heap[b]? = some (.cells ⟨L⟩ tb (0, 0))) {y : Value} {m : Nat} {news : List Value} (hnew : Src P w i.size y m news) (h1 : ∀ v ∈ news, v.oneCell' = true)
  (hg : n + m ≤ c) (hl : o' + n * i.size + news.length ≤ L.length) :
  (Builtin.append_ #[t, t2] ty #[.slice (some ⟨b, o', none⟩) n c, y]).run P w = .ok (.slice (some ⟨b, o', none⟩) (n + m) c) (setBlk w b (layC L (o' + n * i.size) news) tb) := by
 have hf := hnew.here w rfl
 have hst := run_storeCells (P := P) news w L (o' + n * i.size) 0 hb (by omega) h1
 simp only [Nat.add_zero] at hst
 rcases hk with ⟨e2, rfl⟩ | rfl <;>
 simp [Builtin.append_, run_underlying ht, run_underlying ht2, sizeOf, typeInfo, hi, hnew.len, hg, hf, addr_add, hst]
theorem run_noneB {w : World} {t t2 ty et : TypeId} {i : TypeInfo} {k : TypeDesc} (ht : P.underlying t = some (.slice et)) (ht2 : P.underlying t2 = some k) (hk : (∃ e2, k = .slice e2) ∨ k = .string) (hi : P.info? et = some i)
  {ba : Option Addr} {c : Nat} {y : Value} (hnew : Src P w i.size y 0 []) :
  (Builtin.append_ #[t, t2] ty #[.slice ba 0 c, y]).run P w = .ok (.slice ba 0 c) w := by
 have hf := hnew.here w rfl
 rcases hk with ⟨e2, rfl⟩ | rfl <;>
 cases ba <;> simp [Builtin.append_, run_underlying ht, run_underlying ht2, sizeOf, typeInfo, hi, hnew.len, hf, storeCells]
theorem app_buf {w : World} {t t2 ty et : TypeId} {i : TypeInfo} {zv : Value} {k : TypeDesc} (ht : P.underlying t = some (.slice et)) (ht2 : P.underlying t2 = some k) (hk : (∃ e2, k = .slice e2) ∨ k = .string) (hi : P.info? et = some i) (hz : i.zero = some zv)
  (hs : i.size = 1) (hby : i.bytes = 1) (hzs : zv.cells.size = 1) (hzo : ∀ c ∈ zv.cells.toList, c.oneCell' = true)
  {o : Option Nat} {v : Value} {n : Nat} {bs : List Value} (hb : Buf w o v n bs) {y : Value} {m : Nat} {news : List Value} (hnew : Src P w 1 y m news) (h1 : ∀ v ∈ news, v.oneCell' = true) (hlim : n + m ≤ 140737488355328) :
  ∃ v' w' o', (Builtin.append_ #[t, t2] ty #[v, y]).run P w = .ok v' w' ∧ Buf w' o' v' (n + m) (bs ++ news) ∧ BelowL (fun b => o = some b) w w' ∧ Nxt w o o' := by
 have hnl : news.length = m := by have := hnew.size; omega
 have hnew' : Src P w i.size y m news := by rw [hs]; exact hnew
 have fresh : ∀ (c : Nat), c < n + m → bs.length = n → (∀ x ∈ bs, x.oneCell' = true) →
   Buf (w.drew.alloc (.cells ⟨bs ++ news ++ (Builtin.zeroCells zv.cells (grownCap w (n + m) c et - (n + m))).toList⟩ et)) (some w.heap.size) (.slice (some ⟨w.heap.size, 0, none⟩) (n + m) (grownCap w (n + m) c et)) (n + m) (bs ++ news) ∧
   BelowL (fun b => o = some b) w (w.drew.alloc (.cells ⟨bs ++ news ++ (Builtin.zeroCells zv.cells (grownCap w (n + m) c et - (n + m))).toList⟩ et)) := by
  intro c hc hbl hbo
  have hge := grownCap_ge w (n + m) c et
  have hzc := size_zeroCells zv.cells (grownCap w (n + m) c et - (n + m))
  have hat := heap_alloc_new w.drew (.cells ⟨bs ++ news ++ (Builtin.zeroCells zv.cells (grownCap w (n + m) c et - (n + m))).toList⟩ et)
  refine ⟨.inr ⟨w.heap.size, 0, _, _, et, rfl, rfl, hat, hge, ?_, ?_, by rw [List.length_append]; omega, fun j x hj => ?_⟩, ⟨rfl, rfl, rfl, by simp, fun k hk _ => heap_alloc_old w.drew _ hk, by show w.drawn ≤ w.drawn + 1; omega⟩⟩
  ·simp only [List.length_append, Array.length_toList, hzc, hzs]; omega
  ·intro x hx
   rcases List.mem_append.1 hx with hx | hx
   ·rcases List.mem_append.1 hx with hx | hx
    ·exact hbo x hx
    ·exact h1 x hx
   ·exact zero_ones _ hzo x hx
  ·rw [cell_of_row _ w.heap.size (0 + j) _ et (0, 0) hat]
   have hjl := (List.getElem?_eq_some_iff.1 hj).1
   simp only [Nat.zero_add, List.getElem?_toArray]
   rw [List.getElem?_append_left hjl]
   exact hj
 rcases hb with ⟨ho, ⟨ad, rfl⟩, rfl, rfl⟩ | ⟨g, b, c, L, tb, ho, rfl, hh, hnc, hcl, hone, hbl, hcs⟩
 ·subst ho
  rcases Nat.eq_zero_or_pos m with h0 | h0
  ·subst h0
   have : news = [] := List.eq_nil_of_length_eq_zero hnl
   subst this
   exact ⟨_, _, none, run_noneB ht ht2 hk hi hnew', .inl ⟨rfl, ⟨ad, rfl⟩, rfl, rfl⟩, BelowL.refl _ _, .inl rfl⟩
  ·obtain ⟨f1, f2⟩ := fresh 0 (by omega) rfl (by simp)
   exact ⟨_, _, _, run_growB ht ht2 hk hi hz (Src.slice (by simp) (fun h => absurd h (by omega))) hnew' (by omega) (by omega) (by rw [hby]; omega), f1, f2, .inr ⟨_, rfl, Nat.le_refl _⟩⟩
 ·subst ho
  have hold : Src P w i.size (.slice (some ⟨g, b, none⟩) n c) n bs := Src.slice (by rw [hs]; omega) (fun _ => ⟨_, _, rfl, hcs⟩)
  by_cases hroom : n + m ≤ c
  ·have hfit : b + n * i.size + news.length ≤ L.length := by rw [hs]; omega
   have hrun := run_roomB (P := P) (ty := ty) (c := c) ht ht2 hk hi hh hnew' h1 hroom hfit
   refine ⟨_, _, some g, hrun, .inr ⟨g, b, c, _, tb, rfl, rfl, setBlk_at hh, hroom, by rw [layC_length]; exact hcl, layC_ones _ _ _ hone h1, by rw [List.length_append]; omega, ?_⟩, ⟨rfl, rfl, rfl, Nat.le_of_eq (setBlk_size ..).symm, fun k _ hk => setBlk_far fun e => hk (by rw [e]), Nat.le_refl _⟩, .inl rfl⟩
   have h5 := layC_cells (news := news) hh hcs (by rw [hbl]; rw [hs] at hfit; omega)
   rw [hbl] at h5
   rw [hs, Nat.mul_one]
   exact h5
  ·have hbo : ∀ x ∈ bs, x.oneCell' = true := fun x hx => by
    obtain ⟨j, hj⟩ := List.getElem?_of_mem hx
    have h6 := hcs j x hj
    rw [cell_of_row _ g (b + j) _ tb (0, 0) hh] at h6
    simp only [List.getElem?_toArray] at h6
    exact hone x (List.mem_of_getElem? h6)
   obtain ⟨f1, f2⟩ := fresh c (by omega) hbl hbo
   exact ⟨_, _, _, run_growB ht ht2 hk hi hz hold hnew' (by omega) (by omega) (by rw [hby]; omega), f1, f2, .inr ⟨_, rfl, Nat.le_refl _⟩⟩
theorem wpList_app_buf {w : World} {ops : Array Oper} {rest : List Oper} {op : Oper} {a : Act} {Q : Exit → Act → World → Prop} (hgd : op.guard = none) (sl x : Operand) (t t2 : TypeId)
  (ho : op.op = .call { callee := .builtin .append, args := #[sl, x], argTypes := #[t, t2] })
  {et : TypeId} {i : TypeInfo} {zv : Value} {k : TypeDesc} (ht : P.underlying t = some (.slice et)) (ht2 : P.underlying t2 = some k) (hk : (∃ e2, k = .slice e2) ∨ k = .string) (hi : P.info? et = some i) (hz : i.zero = some zv)
  (hs : i.size = 1) (hby : i.bytes = 1) (hzs : zv.cells.size = 1) (hzo : ∀ c ∈ zv.cells.toList, c.oneCell' = true)
  (o : Option Nat) (v : Value) (n : Nat) (bs : List Value) (hv : a.eval sl = v) (hb : Buf w o v n bs) (y : Value) (m : Nat) (news : List Value) (hy : a.eval x = y) (hnew : Src P w 1 y m news) (h1 : ∀ v ∈ news, v.oneCell' = true) (hlim : n + m ≤ 140737488355328)
  (h : ∀ v' w' o', Buf w' o' v' (n + m) (bs ++ news) → BelowL (fun b => o = some b) w w' → Nxt w o o' → wpList P ops Q rest (a.put op.dst v') w') : wpList P ops Q (op :: rest) a w := by
 refine wpList_plain hgd fun K hK => ?_
 obtain ⟨v', w', o', hr, h2, h3, h4⟩ := app_buf (P := P) (ty := op.type) ht ht2 hk hi hz hs hby hzs hzo hb hnew h1 hlim
 unfold Oper.wp execOp
 simp only [ho, resolve, invoke, builtin, Sem.run_bind, Sem.run_pure, Result.andThen_ok, List.map_toArray, List.map_cons, List.map_nil, hv, hy, hr]
 exact hK _ _ (h v' w' o' h2 h3 h4)
end
end Go.Vc

namespace Go.Vc
open Go Go.Proofs Go.Shelf Go.RowKit Go.Sort Go.Lib
theorem BelowL.on {L : Nat → Prop} {a b c : World} (h : BelowL L a b) (k : BelowL L b c) : BelowL L a c :=
 ⟨k.os.trans h.os, k.tape.trans h.tape, k.output.trans h.output, Nat.le_trans h.size k.size, fun i hi hl => (k.block i (Nat.lt_of_lt_of_le hi h.size) hl).trans (h.block i hi hl), Nat.le_trans h.drawn k.drawn⟩
theorem nd20 (u : Nat) (h : u < 18446744073709551616) : Lib.nDigits u ≤ 20 := by
 by_cases h1 : u < 10
 ·rw [Lib.nDigits_small h1]; omega
 ·have := Lib.numDigits_eq u (by omega) h
  split at this <;> omega
section
variable {P : Program} {ρ : Ren}
abbrev BufOut (w : World) (o : Option Nat) (n : Nat) (bs news : List Value) (e : Ending) (w' : World) : Prop :=
 ∃ v' o', e = .returned v' ∧ Buf w' o' v' (n + news.length) (bs ++ news) ∧ BelowL (fun b => o = some b) w w' ∧ Nxt w o o'
set_option maxHeartbeats 6400000 in
set_option maxRecDepth 100000 in
theorem uint_small (L : LaysM.n288 P ρ) (n u : Nat) (hu : u < 100) {o : Option Nat} {sv : Value} {bs : List Value} {w : World} (hb : Buf w o sv n bs) (hlim : n + 20 ≤ 140737488355328) :
  Calls P (ρ.f 288) #[sv, .int .u64 u, .int .i64 10] w (BufOut w o n bs (Lib.byteCells (Lib.decDigits u))) := by
 have mixed := L.mixed
 have t5 := L.t5; have a5 := L.a5; have z5 := L.z5; have v5 := L.v5
 have t37 := L.t37; have u37 := run_underlying L.t37; have a37 := L.a37; have z37 := L.z37; have v37 := L.v37
 have t53 := L.t53; have a53 := L.a53; have z53 := L.z53; have v53 := L.v53
 have t3 := L.t3; have a3 := L.a3; have z3 := L.z3; have v3 := L.v3
 have t4 := L.t4; have a4 := L.a4; have z4 := L.z4; have v4 := L.v4
 have t9 := L.t9; have a9 := L.a9; have z9 := L.z9; have v9 := L.v9
 have t171 := L.t171; have a171 := L.a171; have z171 := L.z171; have v171 := L.v171
 have t0 := L.t0; have a0 := L.a0; have z0 := L.z0; have v0 := L.v0
 have t173 := L.t173; have a173 := L.a173; have z173 := L.z173; have v173 := L.v173
 have e283 : ∀ args w, (callFunc (ρ.f 283) args).run P w = .ok (.enter (ρ.f 283) args) w := enters_of L.f283 (by kernel_rfl) rfl
 obtain ⟨i0, hi, hz0, hz1, hz2⟩ := info_parts L.i5
 have hlen : (Lib.decDigits u).length ≤ 20 := by
  rw [Lib.decDigits_length]
  have := nd20 u (by omega)
  omega
 have hsz : (⟨(Lib.decDigits u).toArray⟩ : ByteArray).size = (Lib.decDigits u).length := by simp [ByteArray.size]
 have hstr : strCells (⟨(Lib.decDigits u).toArray⟩ : ByteArray) = Lib.byteCells (Lib.decDigits u) := rfl
 go_enter L.f288, Body.n288_ntmps ρ
 go_wp2_with (first
  | (go_at_fn (ρ.f 283); refine (Any.internal_strconv_small { L with } u hu _).mono ?_; rintro e w' ⟨rfl, rfl⟩)
  | (at_builtin; refine wpList_app_buf rfl _ _ (ρ.t 37) (ρ.t 9) rfl L.t37 L.t9 (.inr rfl) hi hz0 hz1 hz2 rfl (by decide) o _ n bs rfl hb (.string ⟨(Lib.decDigits u).toArray⟩) _ _ rfl (Src.str _) (strCells_oneCell _) (by rw [hsz]; omega) ?_))
 intro v' w1 o1 hb1 hlw hnx
 go_wp2
 go_ret
 refine ⟨v', o1, rfl, ?_, hlw, hnx⟩
 rw [Lib.byteCells_length]
 first | exact hb1 | (rw [hsz, hstr] at hb1; exact hb1)
set_option maxHeartbeats 12800000 in
set_option maxRecDepth 100000 in
theorem uint_big (L : LaysM.n288 P ρ) (n u : Nat) (hu : 100 ≤ u) (hu64 : u < 18446744073709551616) {o : Option Nat} {sv : Value} {bs : List Value} {w : World} (hb : Buf w o sv n bs) (hlim : n + 20 ≤ 140737488355328)
  (htab : Lib.TabIs P w "internal/strconv.uint64pow10" .u64 Lib.pow10Tab) :
  Calls P (ρ.f 288) #[sv, .int .u64 u, .int .i64 10] w (BufOut w o n bs (Lib.byteCells (Lib.decDigits u))) := by
 have mixed := L.mixed
 have t5 := L.t5; have a5 := L.a5; have z5 := L.z5; have v5 := L.v5
 have t37 := L.t37; have u37 := run_underlying L.t37; have a37 := L.a37; have z37 := L.z37; have v37 := L.v37
 have t53 := L.t53; have a53 := L.a53; have z53 := L.z53; have v53 := L.v53
 have t3 := L.t3; have a3 := L.a3; have z3 := L.z3; have v3 := L.v3
 have t4 := L.t4; have a4 := L.a4; have z4 := L.z4; have v4 := L.v4
 have t9 := L.t9; have a9 := L.a9; have z9 := L.z9; have v9 := L.v9
 have t171 := L.t171; have a171 := L.a171; have z171 := L.z171; have v171 := L.v171
 have t0 := L.t0; have a0 := L.a0; have z0 := L.z0; have v0 := L.v0
 have t173 := L.t173; have a173 := L.a173; have z173 := L.z173; have v173 := L.v173
 have e284 : ∀ args w, (callFunc (ρ.f 284) args).run P w = .ok (.enter (ρ.f 284) args) w := enters_of L.f284 (by kernel_rfl) rfl
 have e285 : ∀ args w, (callFunc (ρ.f 285) args).run P w = .ok (.enter (ρ.f 285) args) w := enters_of L.f285 (by kernel_rfl) rfl
 obtain ⟨i0, hi, hz0, hz1, hz2⟩ := info_parts L.i5
 have hu1 : 1 ≤ u := by omega
 have hnd20 : Lib.nDigits u ≤ 20 := nd20 u hu64
 have hal : P.arrayLen (ρ.t 171) = 24 := by simp [Program.arrayLen, L.t171]
 have hsl : ∀ W, (Instr.sliceAt (ρ.t 171) (.pointer (some ⟨w.heap.size, 0, none⟩)) none (some (.int .i64 (Lib.nDigits u : Int))) none).run P W = .ok (.slice (some ⟨w.heap.size, 0, none⟩) (Lib.nDigits u) 24) W := fun W => by
  rw [run_sliceAt_array_h W (ρ.t 171) ⟨w.heap.size, 0, none⟩ (by simp [Program.arrayLen, Program.elem, L.t171]) .i64 (Lib.nDigits u : Int) (by omega) (by rw [hal]; omega)]
  go_simp
 have hH0 := Lib.holds_zero0 w (ρ.t 171) (Lib.nDigits u) (by omega)
 have hfmt := Any.internal_strconv_formatBase10 { L with } w.heap.size 0 24 u (Array.replicate (Lib.nDigits u) 0) (w.alloc (.cells Lib.zeros24 (ρ.t 171))) hH0 (by rw [Array.size_replicate]; exact Lib.lt_pow_nDigits u) hu64 (by rw [Array.size_replicate]; omega)
 rw [Array.size_replicate] at hfmt
 have HH0 := Lib.hid hH0
 have iu : (100 : Int) ≤ (u : Int) := by omega
 clear hH0 hal
 go_enter L.f288, Body.n288_ntmps ρ
 go_wp2_with (first
  | (go_at_fn (ρ.f 284); refine (Any.internal_strconv_numDigits { L with } u hu1 hu64 _ (Lib.tabIs_alloc htab _)).mono ?_; rintro e w' ⟨rfl, rfl⟩))
 go_at_fn (ρ.f 285)
 refine hfmt.mono ?_
 rintro e w' ⟨rfl, k, v', dk, rfl, hF⟩
 have hcells : CellsAt ((putRow (fun (b : UInt8) => Value.int .u8 (b.toNat : Int)) (w.alloc (.cells Lib.zeros24 (ρ.t 171))) w.heap.size 0 dk).drewN k) w.heap.size 0 (Lib.byteCells (Lib.decDigits u)) := by
  intro j u' hj
  have hjl : j < (Lib.decDigits u).length := by
   have h5 := (List.getElem?_eq_some_iff.1 hj).1
   rwa [Lib.byteCells_length] at h5
  have e5 : (Lib.byteCells (Lib.decDigits u))[j]? = some (Value.int .u8 ((Lib.decDigits u)[j].toNat : Int)) := by simp [Lib.byteCells, hjl]
  rw [e5] at hj
  cases hj
  rw [Lib.row_is_numeral hF j hjl, World.cell?_drewN]
  exact cell?_putRow (fun (b : UInt8) => Value.int .u8 (b.toNat : Int)) _ w.heap.size 0 _ dk HH0.out (by rw [hF.size, Array.size_replicate]) j (by rw [hF.size]; rw [Lib.decDigits_length] at hjl; exact hjl)
 obtain ⟨os, eo⟩ := Lib.fin_at w (.cells Lib.zeros24 (ρ.t 171)) dk k 0
 have hlt := hb.lt
 have hb2 : Buf ((putRow (fun (b : UInt8) => Value.int .u8 (b.toNat : Int)) (w.alloc (.cells Lib.zeros24 (ρ.t 171))) w.heap.size 0 dk).drewN k) o sv n bs := by
  rw [eo]; exact hb.of fun g hg => Lib.heap_grow_old w k os g (hlt g hg)
 have hlw : BelowL (fun b => o = some b) w ((putRow (fun (b : UInt8) => Value.int .u8 (b.toNat : Int)) (w.alloc (.cells Lib.zeros24 (ρ.t 171))) w.heap.size 0 dk).drewN k) := by
  rw [eo]; exact ⟨rfl, rfl, rfl, Lib.size_grow w k os, fun g hg _ => Lib.heap_grow_old w k os g hg, by show w.drawn ≤ w.drawn + k; omega⟩
 generalize (putRow (fun (b : UInt8) => Value.int .u8 (b.toNat : Int)) (w.alloc (.cells Lib.zeros24 (ρ.t 171))) w.heap.size 0 dk).drewN k = W2 at hcells hb2 hlw ⊢
 clear eo HH0 hfmt
 go_wp2_with (at_builtin; refine wpList_app_buf rfl _ _ (ρ.t 37) (ρ.t 37) rfl L.t37 L.t37 (.inl ⟨_, rfl⟩) hi hz0 hz1 hz2 rfl (by decide) o _ n bs rfl hb2 (.slice (some ⟨w.heap.size, 0, none⟩) (Lib.nDigits u) 24) (Lib.nDigits u) (Lib.byteCells (Lib.decDigits u)) rfl (Src.slice ?c0 (fun _ => ⟨_, _, rfl, hcells⟩)) ?c2 ?c3 ?_)
 case c0 => rw [Lib.byteCells_length, Lib.decDigits_length, Nat.mul_one]
 case c2 => intro u' hu'; simp only [Lib.byteCells, List.mem_map] at hu'; obtain ⟨b, _, rfl⟩ := hu'; rfl
 case c3 => omega
 intro v2 w3 o2 hb3 hlw3 hnx3
 go_wp2
 go_ret
 refine ⟨v2, o2, rfl, ?_, hlw.on hlw3, hnx3.imp id fun ⟨g, h1, h2⟩ => ⟨g, h1, Nat.le_trans hlw.size h2⟩⟩
 rw [Lib.byteCells_length, Lib.decDigits_length]
 exact hb3
theorem uint_buf (L : LaysM.n288 P ρ) (n u : Nat) (hu64 : u < 18446744073709551616) {o : Option Nat} {sv : Value} {bs : List Value} {w : World} (hb : Buf w o sv n bs) (hlim : n + 20 ≤ 140737488355328)
  (htab : Lib.TabIs P w "internal/strconv.uint64pow10" .u64 Lib.pow10Tab) :
  Calls P (ρ.f 288) #[sv, .int .u64 u, .int .i64 10] w (BufOut w o n bs (Lib.byteCells (Lib.decDigits u))) := by
 by_cases h : u < 100
 ·exact uint_small L n u h hb hlim
 ·exact uint_big L n u (by omega) hu64 hb hlim htab
set_option maxHeartbeats 6400000 in
set_option maxRecDepth 100000 in
theorem int_buf (L : LaysM.n249 P ρ) (n : Nat) (i : Int) (h0 : -9223372036854775808 ≤ i) (h1 : i ≤ 9223372036854775807) {o : Option Nat} {sv : Value} {bs : List Value} {w : World} (hb : Buf w o sv n bs) (hlim : n + 21 ≤ 140737488355328)
  (htab : ∀ w', BelowL (fun b => o = some b) w w' → Lib.TabIs P w' "internal/strconv.uint64pow10" .u64 Lib.pow10Tab) :
  Calls P (ρ.f 249) #[sv, .int .i64 i, .int .i64 10] w (BufOut w o n bs (Lib.byteCells (Lib.itoa i))) := by
 have mixed := L.mixed
 have t5 := L.t5; have a5 := L.a5; have z5 := L.z5; have v5 := L.v5
 have t37 := L.t37; have u37 := run_underlying L.t37; have a37 := L.a37; have z37 := L.z37; have v37 := L.v37
 have t2 := L.t2; have a2 := L.a2; have z2 := L.z2; have v2 := L.v2
 have t3 := L.t3; have a3 := L.a3; have z3 := L.z3; have v3 := L.v3
 have t53 := L.t53; have a53 := L.a53; have z53 := L.z53; have v53 := L.v53
 have t4 := L.t4; have a4 := L.a4; have z4 := L.z4; have v4 := L.v4
 have e288 : ∀ args w, (callFunc (ρ.f 288) args).run P w = .ok (.enter (ρ.f 288) args) w := enters_of L.f288 (by kernel_rfl) rfl
 obtain ⟨i0, hi, hz0, hz1, hz2⟩ := info_parts L.i5
 by_cases hneg : i < 0
 ·obtain ⟨u, rfl⟩ : ∃ u : Nat, i = -(u : Int) := ⟨i.natAbs, by omega⟩
  have hu1 : 1 ≤ u := by omega
  have hu64 : u < 18446744073709551616 := by omega
  have hwr : IntKind.u64.wrap (-IntKind.u64.wrap (-(u : Int))) = (u : Int) := by rw [IntKind.wrap_u64, IntKind.wrap_u64]; omega
  rw [Lib.itoa_neg u hu1]
  have hlt := hb.lt
  go_enter L.f249, Body.n249_ntmps ρ
  go_wp2_with (at_builtin; refine wpList_app_buf rfl _ _ (ρ.t 37) (ρ.t 37) rfl L.t37 L.t37 (.inl ⟨_, rfl⟩) hi hz0 hz1 hz2 rfl (by decide) o _ n bs rfl (hb.of fun g hg => heap_alloc_old w _ (hlt g hg)) (.slice (some ⟨w.heap.size, 0, none⟩) 1 1) 1 [Value.int .u8 45] rfl (Src.slice rfl (fun _ => ⟨_, _, rfl, by intro j u' hj; match j, hj with | 0, hj => simp at hj; subst hj; simp⟩)) (by intro u' hu'; simp at hu'; subst hu'; rfl) (by omega) ?_)
  intro v1 w1 o1 hb1 hlw hnx
  have hlw1 : BelowL (fun b => o = some b) w w1 := by
   refine BelowL.on ?_ hlw
   exact ⟨rfl, rfl, rfl, by simp, fun g hg _ => heap_alloc_old w _ hg, Nat.le_refl _⟩
  have hsz1 : w.heap.size ≤ w1.heap.size := hlw1.size
  have htab1 : Lib.TabIs P w1 "internal/strconv.uint64pow10" .u64 Lib.pow10Tab := htab w1 hlw1
  have hnx1 : Nxt w o o1 := hnx.imp id fun ⟨g, h1, h2⟩ => ⟨g, h1, by simp at h2; omega⟩
  go_wp2_with (go_at_fn (ρ.f 288); refine (uint_buf { L with } (n + 1) u hu64 hb1 (by omega) htab1).mono ?_; rintro e w2 ⟨v2, o2, rfl, hb2, hlw2, hnx2⟩)
  go_wp2
  go_ret
  have e2 : bs ++ Lib.byteCells (45 :: Lib.decDigits u) = bs ++ [Value.int .u8 45] ++ Lib.byteCells (Lib.decDigits u) := by simp [Lib.byteCells]
  have e1 : n + (Lib.byteCells (45 :: Lib.decDigits u)).length = n + 1 + (Lib.byteCells (Lib.decDigits u)).length := by simp [Lib.byteCells]; omega
  refine ⟨v2, o2, rfl, by rw [e1, e2]; exact hb2, ⟨hlw2.os.trans hlw1.os, hlw2.tape.trans hlw1.tape, hlw2.output.trans hlw1.output, Nat.le_trans hlw1.size hlw2.size, fun g hg hne => (hlw2.block g (by omega) fun e => ?_).trans (hlw1.block g hg hne), Nat.le_trans hlw1.drawn hlw2.drawn⟩, ?_⟩
  ·rcases hnx1 with h | ⟨q, h, hq⟩
   ·exact hne (h ▸ e)
   ·rw [e] at h; injection h with h; omega
  ·rcases hnx2 with h | ⟨q, h, hq⟩
   ·rw [h]; exact hnx1
   ·exact .inr ⟨q, h, by omega⟩
 ·obtain ⟨u, rfl⟩ : ∃ u : Nat, i = u := ⟨i.toNat, by omega⟩
  have hu64 : u < 18446744073709551616 := by omega
  rw [Lib.itoa_nonneg]
  have htab0 := htab w (BelowL.refl _ _)
  go_enter L.f249, Body.n249_ntmps ρ
  go_wp2_with (go_at_fn (ρ.f 288); refine (uint_buf { L with } n u hu64 hb (by omega) htab0).mono ?_; rintro e w2 ⟨v2, o2, rfl, hb2, hlw2, hnx2⟩)
  go_wp2
  first | go_ret | go_ret2
  exact ⟨v2, o2, rfl, hb2, hlw2, hnx2⟩
set_option maxRecDepth 100000 in
theorem appendInt_buf (L : LaysM.n176 P ρ) (n : Nat) (i : Int) (h0 : -9223372036854775808 ≤ i) (h1 : i ≤ 9223372036854775807) {o : Option Nat} {sv : Value} {bs : List Value} {w : World} (hb : Buf w o sv n bs) (hlim : n + 21 ≤ 140737488355328)
  (htab : ∀ w', BelowL (fun b => o = some b) w w' → Lib.TabIs P w' "internal/strconv.uint64pow10" .u64 Lib.pow10Tab) :
  Calls P (ρ.f 176) #[sv, .int .i64 i, .int .i64 10] w (BufOut w o n bs (Lib.byteCells (Lib.itoa i))) := by
 have mixed := L.mixed
 have t5 := L.t5; have a5 := L.a5; have z5 := L.z5; have v5 := L.v5
 have t37 := L.t37; have u37 := run_underlying L.t37; have a37 := L.a37; have z37 := L.z37; have v37 := L.v37
 have t2 := L.t2; have a2 := L.a2; have z2 := L.z2; have v2 := L.v2
 have t3 := L.t3; have a3 := L.a3; have z3 := L.z3; have v3 := L.v3
 have e249 : ∀ args w, (callFunc (ρ.f 249) args).run P w = .ok (.enter (ρ.f 249) args) w := enters_of L.f249 (by kernel_rfl) rfl
 go_enter L.f176, Body.n176_ntmps ρ
 go_wp2_with (go_at_fn (ρ.f 249); refine (int_buf { L with } n i h0 h1 hb hlim htab).mono ?_; rintro e w2 ⟨v2, o2, rfl, hb2, hlw2, hnx2⟩)
 go_wp2
 go_ret
 exact ⟨v2, o2, rfl, hb2, hlw2, hnx2⟩
end
end Go.Vc
