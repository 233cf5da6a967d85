/- A part of the proofs of the seat YtjkldmepdenlfaaDoor: the contracts of functions, each proved out of its code. -/
import Derived.Test.YtjkldmepdenlfaaDoorVh
import Derived.Lib.Bytealg
namespace Go.Vc
set_option linter.unusedSimpArgs false
set_option linter.unusedVariables false

/-! ## Names, without the program: parts between dots -/
abbrev mkB (l : List UInt8) : ByteArray := ⟨⟨l⟩⟩
theorem mkB_inj {a b : List UInt8} (h : mkB a = mkB b) : a = b := by injection h with h; injection h
abbrev sAny : ByteArray := ⟨#[42]⟩
abbrev sAll : ByteArray := ⟨#[42, 42]⟩
/-! ### which texts -/
/-! ### what meets -/
end Go.Vc

namespace Go.Vc
set_option linter.unusedSimpArgs false
set_option linter.unusedVariables false

/-! ## The automaton of globs, without the program -/
/-! ### a glob's states -/
/-! ### closing -/
def cl (E L : Nat → Bool) : Nat → Bool
  | 0 => L 0
  | s + 1 => L (s + 1) || (cl E L s && E s)
theorem cl_of {E L : Nat → Bool} {s : Nat} (h : L s = true) : cl E L s = true := by cases s <;> simp [cl, h]
theorem cl_next {E L : Nat → Bool} {s : Nat} (h : cl E L s = true) (h2 : E s = true) : cl E L (s + 1) = true := by simp [cl, h, h2]
/-- the least one that holds L and is closed -/
theorem cl_least {E L : Nat → Bool} {Q : Nat → Prop} (h1 : ∀ s, L s = true → Q s) (h2 : ∀ s, Q s → E s = true → Q (s + 1)) : ∀ s, cl E L s = true → Q s
  | 0, h => h1 0 h
  | s + 1, h => by
    simp only [cl, Bool.or_eq_true, Bool.and_eq_true] at h
    rcases h with h | h
    · exact h1 _ h
    · exact h2 _ (cl_least h1 h2 s h.1) h.2
/-! ### the automaton -/
structure NF where
  signs : List ByteArray
  beg : List Nat
  ways : List (List (Int × Int))
  done : List (List Nat)
  deriving Inhabited
def ltB (a b : ByteArray) : Bool := Op.bytesLess a.toList b.toList
def hasB (l : List ByteArray) (x : ByteArray) : Bool := l.any (fun y => decide (y = x))
def insB : List ByteArray → ByteArray → List ByteArray
  | [], x => [x]
  | a :: l, x => if ltB a x then a :: insB l x else x :: a :: l
def addB (l : List ByteArray) (x : ByteArray) : List ByteArray := if hasB l x then l else insB l x
def addsB (l ps : List ByteArray) : List ByteArray := ps.foldl addB l
/-- the parts that are signs -/
def realB (ps : List ByteArray) : List ByteArray := ps.filter (fun p => decide (p ≠ sAny) && decide (p ≠ sAll))
def signsOf (gs : List (List ByteArray)) : List ByteArray := addsB [] (gs.flatMap realB)
def letterN (signs : List ByteArray) (p : ByteArray) : Nat := signs.findIdx (fun s => decide (s = p))
def wayOf (signs : List ByteArray) (at_ : Nat) (p : ByteArray) : List (Int × Int) :=
  if p = sAll then (-1, ((at_ + 1 : Nat) : Int)) :: (List.range (signs.length + 1)).map (fun s : Nat => ((s : Int), (at_ : Int)))
  else if p = sAny then (List.range (signs.length + 1)).map (fun s : Nat => ((s : Int), ((at_ + 1 : Nat) : Int)))
  else [((letterN signs p : Int), ((at_ + 1 : Nat) : Int))]
def waysP (signs : List ByteArray) : Nat → List ByteArray → List (List (Int × Int))
  | _, [] => [[]]
  | a, p :: ps => wayOf signs a p :: waysP signs (a + 1) ps
def waysG (signs : List ByteArray) : Nat → List (List ByteArray) → List (List (Int × Int))
  | _, [] => []
  | a, ps :: gs => waysP signs a ps ++ waysG signs (a + ps.length + 1) gs
def base (gs : List (List ByteArray)) (i : Nat) : Nat := ((gs.take i).map (fun ps => ps.length + 1)).sum
def doneG : Nat → List (List ByteArray) → List (List Nat)
  | _, [] => []
  | i, ps :: gs => (List.replicate ps.length [] ++ [[i]]) ++ doneG (i + 1) gs
def nfaOf (gs : List (List ByteArray)) : NF := ⟨signsOf gs, (List.range gs.length).map (base gs), waysG (signsOf gs) 0 gs, doneG 0 gs⟩
end Go.Vc

namespace Go.Vc
set_option linter.unusedSimpArgs false
set_option linter.unusedVariables false

/-! ### which state is which -/
theorem base_zero (gs : List (List ByteArray)) : base gs 0 = 0 := rfl
theorem base_succ {gs : List (List ByteArray)} {i : Nat} (h : i < gs.length) : base gs (i + 1) = base gs i + (gs[i].length + 1) := by
  unfold base
  rw [List.take_succ_eq_append_getElem h, List.map_append, List.sum_append]; rfl
theorem base_split {gs : List (List ByteArray)} : ∀ n, n ≤ gs.length → ∀ s, s < base gs n → ∃ i, ∃ h : i < gs.length, i < n ∧ ∃ k, k ≤ gs[i].length ∧ s = base gs i + k
  | 0, _, s, h => by simp [base_zero] at h
  | n + 1, hn, s, h => by
    rw [base_succ (by omega)] at h
    by_cases hs : s < base gs n
    · obtain ⟨i, h1, h2, k, h3, h4⟩ := base_split n (by omega) s hs
      exact ⟨i, h1, by omega, k, h3, h4⟩
    · exact ⟨n, by omega, by omega, s - base gs n, by omega, by omega⟩
theorem waysP_len (signs : List ByteArray) : ∀ (ps : List ByteArray) (a : Nat), (waysP signs a ps).length = ps.length + 1
  | [], _ => rfl
  | p :: ps, a => by simp [waysP, waysP_len signs ps]
theorem waysP_at (signs : List ByteArray) : ∀ (ps : List ByteArray) (a k : Nat), (waysP signs a ps).getD k [] = match ps[k]? with
    | some p => wayOf signs (a + k) p
    | none => []
  | [], a, 0 => rfl
  | [], a, k + 1 => rfl
  | p :: ps, a, 0 => rfl
  | p :: ps, a, k + 1 => by
    simp only [waysP, List.getD_cons_succ, List.getElem?_cons_succ, waysP_at signs ps (a + 1) k, show a + 1 + k = a + (k + 1) by omega]
theorem base_cons (ps : List ByteArray) (gs : List (List ByteArray)) (i : Nat) : base (ps :: gs) (i + 1) = ps.length + 1 + base gs i := by simp [base]
theorem waysG_len (signs : List ByteArray) : ∀ (gs : List (List ByteArray)) (a : Nat), (waysG signs a gs).length = base gs gs.length
  | [], _ => rfl
  | ps :: gs, a => by
    rw [waysG, List.length_append, waysP_len, waysG_len signs gs, List.length_cons, base_cons]
theorem waysG_at (signs : List ByteArray) : ∀ (gs : List (List ByteArray)) (a i k : Nat) (h : i < gs.length), k ≤ gs[i].length → (waysG signs a gs).getD (base gs i + k) [] = match (gs[i])[k]? with
    | some p => wayOf signs (a + base gs i + k) p
    | none => []
  | ps :: gs, a, 0, k, _, hk => by
    simp only [List.getElem_cons_zero] at hk
    rw [base_zero, Nat.zero_add, waysG, List.getD_eq_getElem?_getD, List.getElem?_append_left (by rw [waysP_len]; omega), ← List.getD_eq_getElem?_getD, waysP_at]
    rfl
  | ps :: gs, a, i + 1, k, h, hk => by
    simp only [List.getElem_cons_succ] at hk ⊢
    rw [base_cons, waysG, List.getD_eq_getElem?_getD, List.getElem?_append_right (by rw [waysP_len]; omega), waysP_len, ← List.getD_eq_getElem?_getD,
      show ps.length + 1 + base gs i + k - (ps.length + 1) = base gs i + k by omega, waysG_at signs gs _ i k (by simpa using h) hk]
    rw [show a + ps.length + 1 + base gs i + k = a + (ps.length + 1 + base gs i) + k by omega]
/-! ### closing and stepping -/
def NF.size (n : NF) : Nat := n.ways.length
def NF.eps (n : NF) (s : Nat) : Bool := (n.ways.getD s []).any (fun e => decide (e.1 = -1))
def inI (l : List Int) (s : Nat) : Bool := l.any (fun x => decide (x = (s : Int)))
theorem inI_iff {l : List Int} {s : Nat} : inI l s = true ↔ (s : Int) ∈ l := by simp [inI]
def closeN (n : NF) (l : List Int) : List Nat := (List.range n.size).filter (cl n.eps (inI l))
theorem closeN_mem {n : NF} {l : List Int} {s : Nat} : s ∈ closeN n l ↔ s < n.size ∧ cl n.eps (inI l) s = true := by simp [closeN]
def toI (l : List Nat) : List Int := l.map (fun s : Nat => (s : Int))
section
variable {gs : List (List ByteArray)}
theorem size_nfa : (nfaOf gs).size = base gs gs.length := waysG_len _ _ _
theorem ways_at {i k : Nat} (h : i < gs.length) (hk : k ≤ gs[i].length) : (nfaOf gs).ways.getD (base gs i + k) [] = match (gs[i])[k]? with
    | some p => wayOf (signsOf gs) (base gs i + k) p
    | none => [] := by
  have := waysG_at (signsOf gs) gs 0 i k h hk
  rw [Nat.zero_add] at this
  exact this
end
end Go.Vc

namespace Go.Vc
set_option linter.unusedSimpArgs false
set_option linter.unusedVariables false

/-! ## Closing, met one by one and by bits: without the program -/
structure NF.Good (n : NF) : Prop where
  to : ∀ s, s < n.size → ∀ e ∈ n.ways.getD s [], e.1 = -1 → e.2 = ((s + 1 : Nat) : Int) ∧ s + 1 < n.size
def isSt (n : NF) (x : Int) : Bool := decide (0 ≤ x ∧ x < n.size)
structure InvC (n : NF) (L : Nat → Bool) (met ws : List Nat) : Prop where
  nodup : met.Nodup
  inn : ∀ s ∈ met, s < n.size
  has : ∀ s, s < n.size → L s = true → s ∈ met
  sub : ∀ s ∈ ws, s ∈ met
  sound : ∀ s ∈ met, cl n.eps L s = true
  shut : ∀ s ∈ met, s ∈ ws ∨ (n.eps s = true → s + 1 ∈ met)
/-- while a list's own are being added -/
structure PreC (n : NF) (L : Nat → Bool) (todo : List Int) (met ws : List Nat) : Prop where
  nodup : met.Nodup
  inn : ∀ s ∈ met, s < n.size
  has : ∀ s, s < n.size → L s = true → s ∈ met ∨ (s : Int) ∈ todo
  sub : ∀ s ∈ ws, s ∈ met
  sound : ∀ s ∈ met, cl n.eps L s = true
  shut : ∀ s ∈ met, s ∈ ws
abbrev WorkC := List Nat × List Nat × List PV
def addC (n : NF) (x : Int) (s : WorkC) : WorkC := if isSt n x = true ∧ x.toNat ∉ s.1 then (s.1 ++ [x.toNat], s.2.1 ++ [x.toNat], []) else s
theorem isSt_iff {n : NF} {x : Int} : isSt n x = true ↔ ∃ s : Nat, x = s ∧ s < n.size := by
  simp only [isSt, decide_eq_true_eq]
  constructor
  · intro h; exact ⟨x.toNat, by omega, by omega⟩
  · rintro ⟨s, rfl, h⟩; omega
theorem nodup_snoc {l : List Nat} {s : Nat} (h : l.Nodup) (h2 : s ∉ l) : (l ++ [s]).Nodup := by
  rw [List.nodup_append]
  exact ⟨h, by simp, fun a ha b hb => by simp only [List.mem_singleton] at hb; subst hb; exact fun e => h2 (by rw [← e]; exact ha)⟩
theorem PreC.init (n : NF) (l : List Int) : PreC n (inI l) l [] [] :=
  ⟨by simp, by simp, fun s _ h => .inr (inI_iff.1 h), by simp, by simp, by simp⟩
theorem PreC.add {n : NF} {l todo : List Int} {x : Int} {s : WorkC} (hx : x ∈ l) (h : PreC n (inI l) (x :: todo) s.1 s.2.1) : PreC n (inI l) todo (addC n x s).1 (addC n x s).2.1 := by
  unfold addC
  split
  · rename_i hc
    obtain ⟨k, rfl, hk⟩ := isSt_iff.1 hc.1
    rw [Int.toNat_natCast] at hc ⊢
    refine ⟨nodup_snoc h.nodup hc.2, fun s hs => ?_, fun s hs hl => ?_, fun s hs => ?_, fun s hs => ?_, fun s hs => ?_⟩
    · rcases List.mem_append.1 hs with hs | hs
      · exact h.inn s hs
      · simp only [List.mem_singleton] at hs; subst hs; exact hk
    · rcases h.has s hs hl with h1 | h1
      · exact .inl (List.mem_append_left _ h1)
      · rcases List.mem_cons.1 h1 with h1 | h1
        · exact .inl (List.mem_append_right _ (by simp; omega))
        · exact .inr h1
    · rcases List.mem_append.1 hs with hs | hs
      · exact List.mem_append_left _ (h.sub s hs)
      · exact List.mem_append_right _ hs
    · rcases List.mem_append.1 hs with hs | hs
      · exact h.sound s hs
      · simp only [List.mem_singleton] at hs; subst hs
        exact cl_of (inI_iff.2 hx)
    · rcases List.mem_append.1 hs with hs | hs
      · exact List.mem_append_left _ (h.shut s hs)
      · exact List.mem_append_right _ hs
  · rename_i hc
    refine ⟨h.nodup, h.inn, fun s hs hl => ?_, h.sub, h.sound, h.shut⟩
    rcases h.has s hs hl with h1 | h1
    · exact .inl h1
    · rcases List.mem_cons.1 h1 with h1 | h1
      · left
        apply Decidable.byContradiction
        intro hn
        exact hc ⟨isSt_iff.2 ⟨s, h1.symm, hs⟩, by rw [← h1, Int.toNat_natCast]; exact hn⟩
      · exact .inr h1
theorem PreC.done {n : NF} {L : Nat → Bool} {met ws : List Nat} (h : PreC n L [] met ws) : InvC n L met ws :=
  ⟨h.nodup, h.inn, fun s hs hl => (h.has s hs hl).resolve_right (by simp), h.sub, h.sound, fun s hs => .inl (h.shut s hs)⟩
/-- while the ways of one state are followed -/
structure MidC (n : NF) (L : Nat → Bool) (k : Nat) (todo : List (Int × Int)) (met ws : List Nat) : Prop where
  nodup : met.Nodup
  inn : ∀ s ∈ met, s < n.size
  has : ∀ s, s < n.size → L s = true → s ∈ met
  sub : ∀ s ∈ ws, s ∈ met
  sound : ∀ s ∈ met, cl n.eps L s = true
  own : k ∈ met
  rest : ∀ e ∈ todo, e ∈ n.ways.getD k []
  left : n.eps k = true → k + 1 ∈ met ∨ ∃ e ∈ todo, e.1 = -1
  shut : ∀ s ∈ met, s = k ∨ s ∈ ws ∨ (n.eps s = true → s + 1 ∈ met)
theorem InvC.pop {n : NF} {L : Nat → Bool} {met ws : List Nat} {k : Nat} (h : InvC n L met (ws ++ [k])) : MidC n L k (n.ways.getD k []) met ws where
  nodup := h.nodup
  inn := h.inn
  has := h.has
  sub := fun j hj => h.sub j (List.mem_append_left _ hj)
  sound := h.sound
  own := h.sub k (by simp)
  rest := fun e he => he
  left := fun he => by
    right
    unfold NF.eps at he
    obtain ⟨e, h1, h2⟩ := List.any_eq_true.1 he
    exact ⟨e, h1, by simpa using h2⟩
  shut := fun j hj => by
    rcases h.shut j hj with h1 | h1
    · rcases List.mem_append.1 h1 with h1 | h1
      · exact .inr (.inl h1)
      · simp only [List.mem_singleton] at h1; exact .inl h1
    · exact .inr (.inr h1)
theorem MidC.skip {n : NF} {L : Nat → Bool} {met ws : List Nat} {k : Nat} {e : Int × Int} {todo : List (Int × Int)} (he : e.1 ≠ -1) (h : MidC n L k (e :: todo) met ws) : MidC n L k todo met ws :=
  { h with
    rest := fun f hf => h.rest f (List.mem_cons_of_mem _ hf)
    left := fun h1 => by
      rcases h.left h1 with h2 | ⟨f, h2, h3⟩
      · exact .inl h2
      · rcases List.mem_cons.1 h2 with rfl | h2
        · exact absurd h3 he
        · exact .inr ⟨f, h2, h3⟩ }
theorem MidC.to {n : NF} (hg : n.Good) {L : Nat → Bool} {met ws : List Nat} {k : Nat} {e : Int × Int} {todo : List (Int × Int)} (he : e.1 = -1) (h : MidC n L k (e :: todo) met ws) : e.2 = ((k + 1 : Nat) : Int) ∧ k + 1 < n.size ∧ n.eps k = true := by
  have h1 := h.rest e (by simp)
  have := hg.to k (h.inn k h.own) e h1 he
  exact ⟨this.1, this.2, List.any_eq_true.2 ⟨e, h1, by simpa using he⟩⟩
theorem MidC.add {n : NF} (hg : n.Good) {L : Nat → Bool} {k : Nat} {s : WorkC} {e : Int × Int} {todo : List (Int × Int)} (he : e.1 = -1) (h : MidC n L k (e :: todo) s.1 s.2.1) : MidC n L k todo (addC n e.2 s).1 (addC n e.2 s).2.1 := by
  obtain ⟨h1, h2, h3⟩ := h.to hg he
  unfold addC
  rw [h1, Int.toNat_natCast]
  have hs : isSt n ((k + 1 : Nat) : Int) = true := isSt_iff.2 ⟨_, rfl, h2⟩
  split
  · rename_i hc
    refine ⟨nodup_snoc h.nodup hc.2, fun s hs => ?_, fun s hs hl => List.mem_append_left _ (h.has s hs hl), fun s hs => ?_, fun s hs => ?_, List.mem_append_left _ h.own, fun f hf => h.rest f (List.mem_cons_of_mem _ hf), fun _ => .inl (List.mem_append_right _ (by simp)), fun j hj => ?_⟩
    · rcases List.mem_append.1 hs with hs | hs
      · exact h.inn s hs
      · simp only [List.mem_singleton] at hs; subst hs; exact h2
    · rcases List.mem_append.1 hs with hs | hs
      · exact List.mem_append_left _ (h.sub s hs)
      · exact List.mem_append_right _ hs
    · rcases List.mem_append.1 hs with hs | hs
      · exact h.sound s hs
      · simp only [List.mem_singleton] at hs; subst hs
        exact cl_next (h.sound k h.own) h3
    · rcases List.mem_append.1 hj with hj | hj
      · rcases h.shut j hj with h4 | h4 | h4
        · exact .inl h4
        · exact .inr (.inl (List.mem_append_left _ h4))
        · exact .inr (.inr fun h5 => List.mem_append_left _ (h4 h5))
      · exact .inr (.inl (List.mem_append_right _ hj))
  · rename_i hc
    have hin : k + 1 ∈ s.1 := Decidable.byContradiction fun hn => hc ⟨hs, hn⟩
    exact { h with
      rest := fun f hf => h.rest f (List.mem_cons_of_mem _ hf)
      left := fun _ => .inl hin }
theorem MidC.done {n : NF} {L : Nat → Bool} {k : Nat} {met ws : List Nat} (h : MidC n L k [] met ws) : InvC n L met ws where
  nodup := h.nodup
  inn := h.inn
  has := h.has
  sub := h.sub
  sound := h.sound
  shut := fun j hj => by
    rcases h.shut j hj with rfl | h1 | h1
    · exact .inr fun he => (h.left he).resolve_right (by rintro ⟨e, he, _⟩; cases he)
    · exact .inl h1
    · exact .inr h1
theorem InvC.end_ {n : NF} (hg : n.Good) {l : List Int} {met : List Nat} (h : InvC n (inI l) met []) (s : Nat) : s ∈ met ↔ s ∈ closeN n l := by
  rw [closeN_mem]
  constructor
  · exact fun hm => ⟨h.inn s hm, h.sound s hm⟩
  · rintro ⟨h1, h2⟩
    have := cl_least (E := n.eps) (L := inI l) (Q := fun s => s < n.size → s ∈ met) (fun s hl hs => h.has s hs hl) (fun s hq he hs => (h.shut s (hq (by omega))).resolve_left (by simp) he) s h2
    exact this h1
/-! ### rising numbers -/
/-! ### by bits -/
end Go.Vc

namespace Go.Vc
set_option linter.unusedSimpArgs false
set_option linter.unusedVariables false

/-! ## Signs: sorted, each once: without the program -/
/-! ### where a sign is -/
end Go.Vc

namespace Go.Vc
set_option linter.unusedSimpArgs false
set_option linter.unusedVariables false

/-! ## How the automaton is made, step by step; how great it is -/
/-! ### sizes -/
structure GsOk (gs : List (List ByteArray)) : Prop where
  n : gs.length ≤ 20
  p : ∀ ps ∈ gs, ps.length ≤ 8
theorem base_le {gs : List (List ByteArray)} (h : ∀ ps ∈ gs, ps.length ≤ 8) : ∀ i, i ≤ gs.length → base gs i ≤ 9 * i
  | 0, _ => Nat.le_refl _
  | i + 1, hi => by
    have := base_le h i (by omega)
    have := h gs[i] (List.getElem_mem _)
    rw [base_succ (by omega)]; omega
theorem GsOk.size {gs : List (List ByteArray)} (h : GsOk gs) : (nfaOf gs).size ≤ 180 := by
  have := base_le h.p gs.length (Nat.le_refl _)
  have := h.n
  rw [size_nfa]; omega
theorem insB_len (x : ByteArray) : ∀ l : List ByteArray, (insB l x).length = l.length + 1
  | [] => rfl
  | a :: l => by unfold insB; split <;> simp [insB_len x l]
theorem addsB_len : ∀ (ps l : List ByteArray), (addsB l ps).length ≤ l.length + ps.length
  | [], l => by simp [addsB]
  | p :: ps, l => by
    have := addsB_len ps (addB l p)
    have h2 : (addB l p).length ≤ l.length + 1 := by
      unfold addB; split
      · omega
      · rw [insB_len]; exact Nat.le_refl _
    unfold addsB at *
    rw [List.foldl_cons, List.length_cons]; omega
theorem flat_len : ∀ (gs : List (List ByteArray)), (∀ ps ∈ gs, ps.length ≤ 8) → (gs.flatMap realB).length ≤ 8 * gs.length
  | [], _ => Nat.le_refl _
  | ps :: gs, h => by
    have := flat_len gs fun q hq => h q (List.mem_cons_of_mem _ hq)
    have h2 := h ps (by simp)
    have h3 : (realB ps).length ≤ ps.length := List.length_filter_le _ _
    rw [List.flatMap_cons, List.length_append, List.length_cons]; omega
theorem signs_le {gs : List (List ByteArray)} (h : ∀ ps ∈ gs, ps.length ≤ 8) : (signsOf gs).length ≤ 8 * gs.length := by
  have h1 := addsB_len (gs.flatMap realB) []
  have h2 := flat_len gs h
  unfold signsOf
  simp only [List.length_nil] at h1
  omega
theorem GsOk.signs {gs : List (List ByteArray)} (h : GsOk gs) : (signsOf gs).length ≤ 160 := by
  have h1 := signs_le h.p
  have h2 := h.n
  omega
theorem wayOf_len (signs : List ByteArray) (a : Nat) (p : ByteArray) : (wayOf signs a p).length ≤ signs.length + 2 := by
  unfold wayOf
  split
  · simp
  · split
    · simp
    · simp
theorem ways_len {gs : List (List ByteArray)} (s : Nat) : ((nfaOf gs).ways.getD s []).length ≤ (signsOf gs).length + 2 := by
  by_cases hs : s < (nfaOf gs).size
  · have hs' := hs
    rw [size_nfa] at hs'
    obtain ⟨i, hi, _, k, hk, rfl⟩ := base_split _ (Nat.le_refl _) s hs'
    rw [ways_at hi hk]
    cases (gs[i])[k]? with
    | none => simp
    | some p => exact wayOf_len _ _ _
  · rw [List.getD_eq_getElem?_getD, List.getElem?_eq_none (by unfold NF.size at hs; omega)]; simp
theorem GsOk.ways {gs : List (List ByteArray)} (h : GsOk gs) (s : Nat) : ((nfaOf gs).ways.getD s []).length ≤ 162 := by
  have := ways_len (gs := gs) s
  have := h.signs
  omega
end Go.Vc
