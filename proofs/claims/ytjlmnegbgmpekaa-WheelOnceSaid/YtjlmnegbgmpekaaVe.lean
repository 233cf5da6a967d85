/- A part of the proofs of the seat Ytjlmnegbgmpekaa: the layer that turns the code of a function into what is to be shown (verification conditions), proved sound. -/
import Derived.Test.YtjlmnegbgmpekaaVd
import Derived.LoopN
namespace Go.Vc
open Go.RowKit
set_option linter.constructorNameAsVariable false

/-! ## Operations that may come up in any order: each is looked at with only what it leans on -/
def inL : List Nat → Nat → Bool
  | [], _ => false
  | a :: l, q => a == q || inL l q
theorem inL_iff : ∀ {l : List Nat} {q : Nat}, inL l q = true ↔ q ∈ l
  | [], q => by simp [inL]
  | a :: l, q => by simp only [inL, Bool.or_eq_true, beq_iff_eq, List.mem_cons, inL_iff (l := l)]; constructor <;> rintro (h | h) <;> simp [h]
theorem inL_no {l : List Nat} {q : Nat} : inL l q = false ↔ q ∉ l := by
  rw [← inL_iff]; simp

/-- what an operation leaves: a value, and maybe a row -/
structure Eff where
  v : AV
  nr : Option (Nat × Row)
def St.app (σ : St) (d : Nat) (E : Eff) : St := match E.nr with
  | none => σ.put d E.v
  | some (r, row) => (σ.newRow r row).put d E.v
def effAfter (d : Nat) (v : AV) : List (Nat × List PV) → Eff
  | [] => ⟨v.ren 0, none⟩
  | (s, xs) :: _ => ⟨v.ren (rowName d), some (rowName d, .sl s xs)⟩
def effP (P : Program) (A : St) (d : Nat) (g : Option (Nat × Bool)) (op : IOp) (E : Eff) : Prop := match g, op with
  | none, .q q => q.pre A ∧ E = ⟨q.val A, none⟩
  | some (t, b), .q q => (frGet A.fr t).gok ∧ ∃ v, ((frGet A.fr t).gv b = true → q.pre A ∧ v = q.val A) ∧ E = ⟨.whn ((frGet A.fr t).gv b) v, none⟩
  | none, .alloc z => E = ⟨.ptr d 0, some (d, .box (AV.clips (only d) z))⟩
  | none, .box x => x.cd A = true ∧ okc (x.sv A) = true ∧ E = ⟨.ptr d 0, some (d, .box (AV.clips (only d) (x.sv A).cells))⟩
  | none, .lits xs s => (cds A xs = true ∧ allOk (evs A xs) = true ∧ allW s (evs A xs) ∧ xs.length * s ≤ 16777216) ∧ E = ⟨mkLit (evs A xs), none⟩
  | none, .mks l c s bytes z => (l.cd A = true ∧ c.cd A = true ∧ isInt (l.sv A) ∧ isInt (c.sv A) ∧ 0 ≤ intV (l.sv A) ∧ intV (l.sv A) ≤ intV (c.sv A) ∧ (bytes : Int) * intV (c.sv A) ≤ 281474976710656 ∧ intV (c.sv A) ≤ 9223372036854775807) ∧ E = ⟨.row d 0 (intV (l.sv A)).toNat, some (d, .sl s (List.replicate (intV (l.sv A)).toNat z))⟩
  | none, .call f args => (f.cd A = true ∧ cds A args = true) ∧ ∃ h ps pure v rs, callArgs A f args = some (h, ps, pure) ∧ Fn P h ps v rs ∧ (pure = true ∨ (v.flat = true ∧ flatRows rs)) ∧ okRows v rs ∧ E = effAfter d v rs
  | some (t, b), .call f args => (frGet A.fr t).gok ∧ ((frGet A.fr t).gv b = true → f.cd A = true ∧ cds A args = true) ∧
      ∃ h ps pure p, callArgs A f args = some (h, ps, pure) ∧ ((frGet A.fr t).gv b = true → Fn P h ps (.pv p) [] ∧ (pure = true ∨ p.flat = true)) ∧ E = ⟨.whn ((frGet A.fr t).gv b) (.pv p), none⟩
  | _, _ => False
/-- the name of the row that it may leave -/
def ownOf (d : Nat) : IOp → Nat
  | .call _ _ => rowName d
  | _ => d
def makesRow : IOp → Bool
  | .alloc _ | .box _ | .call _ _ | .mks _ _ _ _ _ => true
  | _ => false

section
variable {P : Program} {A B σ : St} {d : Nat} {g : Option (Nat × Bool)} {op : IOp} {E : Eff}

theorem effAfter_own {v : AV} {rs : List (Nat × List PV)} {r : Nat} {row : Row} (h : (effAfter d v rs).nr = some (r, row)) : r = rowName d := by
  cases rs with
  | nil => simp [effAfter] at h
  | cons a l => obtain ⟨s, xs⟩ := a; simp [effAfter] at h; exact h.1.symm
theorem eff_own (h : effP P A d g op E) {r : Nat} {row : Row} (hn : E.nr = some (r, row)) : r = ownOf d op ∧ makesRow op = true := by
  unfold effP at h
  split at h
  · rw [h.2] at hn; cases hn
  · obtain ⟨_, _, _, e⟩ := h
    rw [e] at hn; cases hn
  · rw [h] at hn; injection hn with hn; injection hn with hn; exact ⟨hn.symm, rfl⟩
  · rw [h.2.2] at hn; injection hn with hn; injection hn with hn; exact ⟨hn.symm, rfl⟩
  · rw [h.2] at hn; cases hn
  · rw [h.2] at hn; injection hn with hn; injection hn with hn; exact ⟨hn.symm, rfl⟩
  · obtain ⟨_, _, _, _, _, _, _, _, _, _, e⟩ := h
    rw [e] at hn
    exact ⟨effAfter_own hn, rfl⟩
  · obtain ⟨_, _, _, _, _, _, _, _, e⟩ := h
    rw [e] at hn; cases hn
  · exact h.elim
theorem eff_kind (h : effP P A d g op E) : op.quiet = true ∨ op.soft = true := by
  unfold effP at h
  split at h
  · exact .inl rfl
  · exact .inl rfl
  · exact .inr rfl
  · exact .inr rfl
  · exact .inr rfl
  · exact .inr rfl
  · exact .inr rfl
  · exact .inr rfl
  · exact h.elim
theorem after_app {v : AV} {rs : List (Nat × List PV)} : σ.after d v rs = σ.app d (effAfter d v rs) := by
  cases rs with
  | nil => rfl
  | cons a l => obtain ⟨s, xs⟩ := a; rfl
theorem SRel.whnf {e : Env} {x : Cx} {a : Act} {u v : AV} (h : SRel e (σ.put d (.whn false u)) x a) : SRel e (σ.put d (.whn false v)) x a :=
  { h with
    fr := fun k w hm => by
      simp only [St.put, frPut] at hm
      rcases List.mem_cons.1 hm with hm | hm
      · injection hm with h1 h2
        subst h1; subst h2
        obtain ⟨cv, k1, k2⟩ := h.fr k (.whn false u) (by simp only [St.put, frPut]; exact List.mem_cons_self)
        exact ⟨cv, k1, by simp only [VRel] at k2 ⊢; exact ⟨fun hf => (by cases hf), k2.2⟩⟩
      · exact h.fr k w (by simp only [St.put, frPut]; exact List.mem_cons_of_mem _ hm) }
/-- the conditions of an operation, out of what it leaves -/
theorem eff_vc (h : effP P σ d g op E) : vcOps P [⟨some d, g, op⟩] σ (fun σ' => ∀ e y a, SRel e σ' y a → SRel e (σ.app d E) y a) := by
  unfold effP at h
  split at h
  · obtain ⟨h1, rfl⟩ := h
    exact ⟨h1, fun e y a hs => hs⟩
  · rename_i t b q
    obtain ⟨h1, v, h2, rfl⟩ := h
    refine ⟨h1, fun hb => (h2 hb).1, fun e y a hs => ?_⟩
    cases hb : (frGet σ.fr t).gv b with
    | false =>
      rw [hb] at hs
      simp only [St.app]
      exact hs.whnf
    | true =>
      rw [(h2 hb).2]
      rw [hb] at hs
      exact hs
  · subst h; exact fun e y a hs => hs
  · obtain ⟨h1, h2, rfl⟩ := h
    exact ⟨h1, h2, fun e y a hs => hs⟩
  · obtain ⟨h1, rfl⟩ := h
    exact ⟨h1, fun e y a hs => hs⟩
  · obtain ⟨h1, rfl⟩ := h
    exact ⟨h1, fun e y a hs => hs⟩
  · obtain ⟨h1, gg, ps, pure, v, rs, h2, h3, h4, h5, rfl⟩ := h
    simp only [vcOps, vcOp, h2]
    refine ⟨h1, v, rs, h3, h4, h5, .inl fun e y a hs => ?_⟩
    rw [← after_app]; exact hs
  · obtain ⟨h1, h2, gg, ps, pure, p, h3, h4, rfl⟩ := h
    simp only [vcOps, vcGd, h3]
    exact ⟨h1, h2, p, h4, fun e y a hs => hs⟩
  · exact h.elim

/-! ### more is known: the same is left -/
def Opd.use : Opd → List Nat
  | .t n => [n]
  | _ => []
def Q.opds : Q → List Opd
  | .mv x | .sob x | .not x | .ext x _ | .fa x _ | .ld x _ _ | .ldc x _ _ | .fld x _ _ _ | .len x _ | .conv _ x | .mlen x | .ent x => [x]
  | .shf _ x y | .bin _ x y | .beq _ x y | .ia x y _ | .iaa x y _ _ | .idx x y | .idxa x y _ | .seq _ _ x y | .mm _ x y | .mget x y _ _ _ => [x, y]
  | .pick c a b => [c, a, b]
  | .slc x lo hi _ _ => x :: optL lo ++ optL hi
  | .mk _ parts => parts.map (·.2.2)
  | .clo _ caps => caps
  | .chk x lo hi mx => [x, lo, hi, mx]
  | .slcx x lo hi _ => x :: optL lo ++ optL hi
def IOp.opds : IOp → List Opd
  | .q qq => qq.opds
  | .box x => [x]
  | .lits xs _ => xs
  | .mks l c _ _ _ => [l, c]
  | .call f args => f :: args
  | _ => []
def guardUse : Option (Nat × Bool) → List Nat
  | some (t, _) => [t]
  | none => []
def usesIn (U : List Nat) (g : Option (Nat × Bool)) (op : IOp) : Bool := (guardUse g).all (inL U) && op.opds.all fun x => x.use.all (inL U)

structure Ext (U : List Nat) (A B : St) : Prop where
  fr : ∀ t ∈ U, frGet A.fr t = frGet B.fr t
  st : ∀ r row, stGet A.st r = some row → stGet B.st r = some row

theorem Opd.ev_ext {U : List Nat} (h : Ext U A B) {x : Opd} (hx : x.use.all (inL U) = true) : x.ev A = x.ev B := by
  cases x with
  | t n =>
    simp only [Opd.use, List.all_cons, List.all_nil, Bool.and_true] at hx
    exact h.fr n (inL_iff.1 hx)
  | _ => rfl
theorem evs_eq : ∀ {xs : List Opd}, (∀ x ∈ xs, x.ev A = x.ev B) → evs A xs = evs B xs ∧ cds A xs = cds B xs
  | [], _ => ⟨rfl, rfl⟩
  | x :: xs, h => by
    have h1 := h x (by simp)
    have h2 := evs_eq (xs := xs) fun y hy => h y (List.mem_cons_of_mem _ hy)
    simp only [evs, cds, Opd.sv, Opd.cd, h1, h2.1, h2.2, and_self]
theorem mkV_eq : ∀ {l : List (Nat × Nat × Opd)} {cs : List AV}, (∀ x ∈ l.map (·.2.2), x.ev A = x.ev B) → mkV A l cs = mkV B l cs
  | [], _, _ => rfl
  | (o, n, x) :: l, cs, h => by
    have h1 := h x (by simp)
    simp only [mkV, Opd.sv, h1]
    exact mkV_eq fun y hy => h y (by simp only [List.map_cons]; exact List.mem_cons_of_mem _ hy)
theorem mkP_eq {m : Nat} : ∀ {l : List (Nat × Nat × Opd)}, (∀ x ∈ l.map (·.2.2), x.ev A = x.ev B) → mkP A m l → mkP B m l
  | [], _, h => h
  | (o, n, x) :: l, h, hk => by
    have h1 := h x (by simp)
    simp only [mkP, Opd.sv, h1] at hk ⊢
    exact ⟨hk.1, hk.2.1, hk.2.2.1, mkP_eq (fun y hy => h y (by simp only [List.map_cons]; exact List.mem_cons_of_mem _ hy)) hk.2.2.2⟩
theorem pre_ext {U : List Nat} (h : Ext U A B) {q : Q} (hq : ∀ x ∈ q.opds, x.ev A = x.ev B) (hp : q.pre A) : q.pre B ∧ q.val A = q.val B := by
  obtain ⟨hc, hp⟩ := hp
  have one : ∀ {r row}, stGet A.st r = some row → stGet B.st r = some row := fun hr => h.st _ _ hr
  cases q with
  | mv x | not x | ext x _ | fa x _ | ldc x _ _ | fld x _ _ _ | len x _ | conv _ x =>
    have h1 := hq x (by simp [Q.opds])
    simp only [Q.pre, Q.cd, Q.val, Opd.sv, Opd.cd, h1] at hc hp ⊢
    exact ⟨⟨hc, hp⟩, trivial⟩
  | shf _ x y | bin _ x y | beq _ x y | iaa x y _ _ | idx x y | idxa x y _ | seq _ _ x y | mm _ x y =>
    have h1 := hq x (by simp [Q.opds])
    have h2 := hq y (by simp [Q.opds])
    simp only [Q.pre, Q.cd, Q.val, Opd.sv, Opd.cd, h1, h2] at hc hp ⊢
    exact ⟨⟨hc, hp⟩, trivial⟩
  | pick c x y =>
    have h1 := hq x (by simp [Q.opds])
    have h2 := hq y (by simp [Q.opds])
    have h3 := hq c (by simp [Q.opds])
    simp only [Q.pre, Q.cd, Q.val, Opd.sv, Opd.cd, h1, h2, h3] at hc hp ⊢
    exact ⟨⟨hc, hp⟩, trivial⟩
  | chk x lo hi mx =>
    have h1 := hq x (by simp [Q.opds])
    have h2 := hq lo (by simp [Q.opds])
    have h3 := hq hi (by simp [Q.opds])
    have h4 := hq mx (by simp [Q.opds])
    simp only [Q.pre, Q.cd, Q.val, Opd.sv, Opd.cd, cds, h1, h2, h3, h4] at hc hp ⊢
    exact ⟨⟨hc, hp⟩, trivial⟩
  | clo f caps =>
    have := evs_eq (A := A) (B := B) (xs := caps) fun x hx => hq x hx
    simp only [Q.pre, Q.cd, Q.val, this.1, this.2] at hc hp ⊢
    exact ⟨⟨hc, hp⟩, trivial⟩
  | mk z parts =>
    have h1 := evs_eq (A := A) (B := B) (xs := parts.map (·.2.2)) fun x hx => hq x (by simpa [Q.opds] using hx)
    have h2 := mkV_eq (A := A) (B := B) (l := parts) (cs := z) fun x hx => hq x (by simpa [Q.opds] using hx)
    simp only [Q.pre, Q.cd, Q.val, h1.2, h2] at hc hp ⊢
    exact ⟨⟨hc, mkP_eq (fun x hx => hq x (by simpa [Q.opds] using hx)) hp⟩, trivial⟩
  | sob x =>
    have h1 := hq x (by simp [Q.opds])
    simp only [Q.pre, Q.cd, Q.val, Opd.sv, Opd.cd, h1] at hc hp ⊢
    generalize (x.ev B).un1 = v at hp
    have key : strP (rowV B v) ∧ strV (rowV A v) = strV (rowV B v) := by
      cases v with
      | row r off n =>
        simp only [rowV] at hp ⊢
        cases hr : stGet A.st r with
        | none => simp only [hr, strP] at hp
        | some row => simp only [one hr]; simp only [hr] at hp ⊢; exact ⟨hp, trivial⟩
      | _ => exact ⟨hp, rfl⟩
    exact ⟨⟨hc, key.1⟩, key.2⟩
  | ia x i s =>
    have h1 := hq x (by simp [Q.opds])
    have h2 := hq i (by simp [Q.opds])
    simp only [Q.pre, Q.cd, Q.val, Opd.sv, Opd.cd, h1, h2] at hc hp ⊢
    refine ⟨⟨hc, ?_⟩, trivial⟩
    unfold iaP at hp ⊢
    split at hp
    · exact hp
    · refine ⟨hp.1, hp.2.1, ?_⟩
      rename_i r off m k n e1 e2
      have h3 := hp.2.2
      cases hr : stGet A.st r with
      | none => rw [hr] at h3; cases h3
      | some row => rw [hr] at h3; rw [one hr]; exact h3
    · exact hp.elim
  | ld x n agg =>
    have h1 := hq x (by simp [Q.opds])
    simp only [Q.pre, Q.cd, Q.val, Opd.sv, Opd.cd, h1] at hc hp ⊢
    generalize (x.ev B).un1 = v at hp
    have key : ldP B n agg v ∧ ldV A n agg v = ldV B n agg v := by
      cases v with
      | ptr r o =>
        simp only [ldP] at hp
        simp only [ldP, ldV]
        cases hr : stGet A.st r with
        | none => rw [hr] at hp; exact hp.elim
        | some row => rw [hr] at hp; rw [one hr]; exact ⟨hp, rfl⟩
      | rptr r i o =>
        simp only [ldP] at hp
        simp only [ldP, ldV]
        cases hr : stGet A.st r with
        | none => rw [hr] at hp; exact hp.elim
        | some row => rw [hr] at hp; rw [one hr]; exact ⟨hp, rfl⟩
      | pv p => cases p <;> exact ⟨hp, rfl⟩
      | _ => exact ⟨hp, rfl⟩
    exact ⟨⟨hc, key.1⟩, key.2⟩
  | slc x lo hi s str =>
    have h0 := hq x (by simp [Q.opds])
    have hl : ∀ y ∈ optL lo, y.ev A = y.ev B := fun y hy => hq y (by simp [Q.opds, hy])
    have hh : ∀ y ∈ optL hi, y.ev A = y.ev B := fun y hy => hq y (by simp [Q.opds, hy])
    have h1 := evs_eq (A := A) (B := B) (xs := x :: optL lo ++ optL hi) fun y hy => hq y hy
    have e1 : loOf A lo = loOf B lo := by
      cases lo with
      | none => rfl
      | some y => simp only [loOf, Opd.sv, hl y (by simp [optL])]
    have e2 : ∀ n, hiOf A n hi = hiOf B n hi := fun n => by
      cases hi with
      | none => rfl
      | some y => simp only [hiOf, Opd.sv, hh y (by simp [optL])]
    have e3 : bndP A lo = bndP B lo := by
      cases lo with
      | none => rfl
      | some y => simp only [bndP, Opd.sv, hl y (by simp [optL])]
    have e4 : bndP A hi = bndP B hi := by
      cases hi with
      | none => rfl
      | some y => simp only [bndP, Opd.sv, hh y (by simp [optL])]
    simp only [Q.pre, Q.cd, Q.val, h1.2, e1, e2, e3, e4, Opd.sv, h0] at hc hp ⊢
    refine ⟨⟨hc, hp.1, hp.2.1, ?_⟩, trivial⟩
    have h5 := hp.2.2
    unfold slcP at h5 ⊢
    split at h5
    · exact h5
    · exact h5
    · refine ⟨h5.1, h5.2.1, h5.2.2.1, h5.2.2.2.1, ?_⟩
      rename_i r off m e
      have h3 := h5.2.2.2.2
      cases hr : stGet A.st r with
      | none => rw [hr] at h3; cases h3
      | some row => rw [hr] at h3; rw [one hr]; exact h3
    · exact h5
    · exact h5.elim
  | slcx x lo hi s =>
    have h0 := hq x (by simp [Q.opds])
    have hl : ∀ y ∈ optL lo, y.ev A = y.ev B := fun y hy => hq y (by simp [Q.opds, hy])
    have hh : ∀ y ∈ optL hi, y.ev A = y.ev B := fun y hy => hq y (by simp [Q.opds, hy])
    have h1 := evs_eq (A := A) (B := B) (xs := x :: optL lo ++ optL hi) fun y hy => hq y hy
    have e1 : loOf A lo = loOf B lo := by
      cases lo with
      | none => rfl
      | some y => simp only [loOf, Opd.sv, hl y (by simp [optL])]
    have e2 : ∀ n, hiOf A n hi = hiOf B n hi := fun n => by
      cases hi with
      | none => rfl
      | some y => simp only [hiOf, Opd.sv, hh y (by simp [optL])]
    have e3 : bndP A lo = bndP B lo := by
      cases lo with
      | none => rfl
      | some y => simp only [bndP, Opd.sv, hl y (by simp [optL])]
    have e4 : bndP A hi = bndP B hi := by
      cases hi with
      | none => rfl
      | some y => simp only [bndP, Opd.sv, hh y (by simp [optL])]
    simp only [Q.pre, Q.cd, Q.val, h1.2, e1, e2, e3, e4, Opd.sv, h0] at hc hp ⊢
    refine ⟨⟨hc, hp.1, hp.2.1, ?_⟩, trivial⟩
    have h5 := hp.2.2
    unfold slcxP at h5 ⊢
    split at h5
    · split at h5
      · rename_i hr
        rw [one hr]; exact h5
      · rename_i hr
        rw [one hr]; exact h5
      · exact h5.elim
    · exact h5.elim
  | mget m k comma kk zero =>
    have h1 := hq m (by simp [Q.opds])
    have h2 := hq k (by simp [Q.opds])
    simp only [Q.pre, Q.cd, Q.val, Opd.sv, Opd.cd, h1, h2] at hc hp ⊢
    generalize (m.ev B).un1 = v at hp
    generalize (k.ev B).un1 = u at hp
    have key : mgetP B kk v u ∧ mgetV A comma zero v u = mgetV B comma zero v u := by
      unfold mgetP at hp
      split at hp
      · rename_i r p
        simp only [mgetP, mgetV]
        cases hr : stGet A.st r with
        | none => rw [hr] at hp; exact hp.elim
        | some row => rw [hr] at hp; rw [one hr]; exact ⟨hp, rfl⟩
      · exact hp.elim
    exact ⟨⟨hc, key.1⟩, key.2⟩
  | mlen m =>
    have h1 := hq m (by simp [Q.opds])
    simp only [Q.pre, Q.cd, Q.val, Opd.sv, Opd.cd, h1] at hc hp ⊢
    generalize (m.ev B).un1 = v at hp
    have key : mlenP B v ∧ mlenV A v = mlenV B v := by
      unfold mlenP at hp
      split at hp
      · rename_i r
        simp only [mlenP, mlenV]
        cases hr : stGet A.st r with
        | none => rw [hr] at hp; exact hp.elim
        | some row => rw [hr] at hp; rw [one hr]; exact ⟨hp, rfl⟩
      · exact hp.elim
    exact ⟨⟨hc, key.1⟩, key.2⟩
  | ent m =>
    have h1 := hq m (by simp [Q.opds])
    simp only [Q.pre, Q.cd, Q.val, Opd.sv, Opd.cd, h1] at hc hp ⊢
    generalize (m.ev B).un1 = v at hp
    have key : entP B v ∧ entV A v = entV B v := by
      unfold entP at hp
      split at hp
      · rename_i r
        simp only [entP, entV]
        cases hr : stGet A.st r with
        | none => rw [hr] at hp; exact hp.elim
        | some row =>
          rw [hr] at hp; rw [one hr]
          cases row with
          | mit m n rem cur =>
            cases cur with
            | none => exact hp.elim
            | some i =>
              simp only at hp ⊢
              cases hm : stGet A.st m with
              | none => rw [hm] at hp; exact hp.elim
              | some row => rw [hm] at hp; rw [one hm]; exact ⟨hp, rfl⟩
          | mid m n bs rem cur =>
            cases cur with
            | none => exact hp.elim
            | some i =>
              simp only at hp ⊢
              cases hm : stGet A.st m with
              | none => rw [hm] at hp; exact hp.elim
              | some row => rw [hm] at hp; rw [one hm]; exact ⟨hp, rfl⟩
          | _ => exact hp.elim
      · exact hp.elim
    exact ⟨⟨hc, key.1⟩, key.2⟩
theorem snapL_ext {f h : AV → Option PV} (hf : ∀ v p, f v = some p → h v = some p) : ∀ {l : List AV} {ps : List PV}, snapL f l = some ps → snapL h l = some ps
  | [], ps, hs => hs
  | v :: l, ps, hs => by
    simp only [snapL] at hs ⊢
    split at hs
    · rename_i p qs h1 h2
      rw [hf _ _ h1, snapL_ext hf h2]; exact hs
    · cases hs
theorem snap_ext {s t : List (Nat × Row)} (h : ∀ r row, stGet s r = some row → stGet t r = some row) : ∀ (k : Nat) (v : AV) (p : PV), snap s k v = some p → snap t k v = some p
  | 0, _, _, hs => by cases hs
  | k + 1, v, p, hs => by
    have ih := snap_ext h k
    have ihL := fun {l : List AV} {ps : List PV} (hh : snapL (snap s k) l = some ps) => snapL_ext ih hh
    cases v with
    | agg cs | tup cs | fn _ cs =>
      simp only [snap] at hs ⊢
      split at hs
      · rename_i ps h1; rw [ihL h1]; exact hs
      · cases hs
    | row r off n =>
      simp only [snap] at hs ⊢
      cases hr : stGet s r with
      | none => rw [hr] at hs; cases hs
      | some row => rw [hr] at hs; rw [h _ _ hr]; exact hs
    | ptr r off =>
      cases off with
      | zero =>
        simp only [snap] at hs ⊢
        cases hr : stGet s r with
        | none => rw [hr] at hs; cases hs
        | some row =>
          rw [hr] at hs; rw [h _ _ hr]
          cases row with
          | box cs =>
            simp only at hs ⊢
            split at hs
            · rename_i ps h1; rw [ihL h1]; exact hs
            · cases hs
          | _ => cases hs
      | succ n => simp only [snap] at hs; cases hs
    | cptr cs off => cases off <;> exact hs
    | _ => exact hs
theorem callArgs_ext {U : List Nat} (h : Ext U A B) {f : Opd} {args : List Opd} (hf : f.ev A = f.ev B) (ha : ∀ x ∈ args, x.ev A = x.ev B) {r : FuncId × List PV × Bool} (hc : callArgs A f args = some r) : callArgs B f args = some r := by
  have h1 := (evs_eq ha).1
  simp only [callArgs, Opd.sv, hf, h1] at hc ⊢
  split at hc
  · rename_i gg caps hg
    split at hc
    · rename_i ps hs
      rw [snapL_ext (snap_ext h.st 4) hs]; exact hc
    · cases hc
  · cases hc
theorem effP_ext {U : List Nat} (h : Ext U A B) (hu : usesIn U g op = true) (he : effP P A d g op E) : effP P B d g op E := by
  simp only [usesIn, Bool.and_eq_true, List.all_eq_true] at hu
  have ho : ∀ x ∈ op.opds, x.ev A = x.ev B := fun x hx => Opd.ev_ext h (List.all_eq_true.2 (hu.2 x hx))
  unfold effP at he
  split at he
  · rename_i q
    obtain ⟨h1, rfl⟩ := he
    obtain ⟨h2, h3⟩ := pre_ext h (q := q) (fun x hx => ho x hx) h1
    rw [h3]; exact ⟨h2, rfl⟩
  · rename_i t b q
    have hg : frGet A.fr t = frGet B.fr t := h.fr t (inL_iff.1 (hu.1 t (by simp [guardUse])))
    rw [hg] at he
    obtain ⟨h1, v, h2, rfl⟩ := he
    refine ⟨h1, v, fun hb => ?_, rfl⟩
    obtain ⟨h3, h4⟩ := pre_ext h (q := q) (fun x hx => ho x hx) (h2 hb).1
    exact ⟨h3, (h2 hb).2.trans h4⟩
  · exact he
  · rename_i x
    have h1 := ho x (by simp [IOp.opds])
    simp only [effP, Opd.sv, Opd.cd, h1] at he ⊢
    exact he
  · rename_i xs s
    have h1 := evs_eq (A := A) (B := B) (xs := xs) fun x hx => ho x hx
    simp only [effP, h1.1, h1.2] at he ⊢
    exact he
  · rename_i l c s bytes z
    have h1 := ho l (by simp [IOp.opds])
    have h2 := ho c (by simp [IOp.opds])
    simp only [effP, Opd.sv, Opd.cd, h1, h2] at he ⊢
    exact he
  · rename_i f args
    have h1 := evs_eq (A := A) (B := B) (xs := args) fun x hx => ho x (by simp [IOp.opds, hx])
    have h2 := ho f (by simp [IOp.opds])
    obtain ⟨h3, gg, ps, pure, v, rs, h4, h5, h6, h7, h8⟩ := he
    simp only [Opd.cd, h2, h1.2] at h3
    exact ⟨h3, gg, ps, pure, v, rs, callArgs_ext h h2 (fun x hx => ho x (by simp [IOp.opds, hx])) h4, h5, h6, h7, h8⟩
  · rename_i t b f args
    have hg : frGet A.fr t = frGet B.fr t := h.fr t (inL_iff.1 (hu.1 t (by simp [guardUse])))
    have h1 := evs_eq (A := A) (B := B) (xs := args) fun x hx => ho x (by simp [IOp.opds, hx])
    have h2 := ho f (by simp [IOp.opds])
    rw [hg] at he
    obtain ⟨h0, h3, gg, ps, pure, p, h4, h5, h6⟩ := he
    simp only [Opd.cd, h2, h1.2] at h3
    exact ⟨h0, h3, gg, ps, pure, p, callArgs_ext h h2 (fun x hx => ho x (by simp [IOp.opds, hx])) h4, h5, h6⟩
  · exact he.elim
end
end Go.Vc

namespace Go.Vc
open Go.RowKit
set_option linter.unusedSimpArgs false
set_option linter.constructorNameAsVariable false

/-! ### a group's conditions -/
def GI.own (i : GI) : Nat := ownOf i.d i.op
/-- names of the group's rows that an operation knows nothing of -/
def GI.out (N : List Nat) (i : GI) : Nat → Bool := fun q => inL N q && (!inL i.R q && !(i.own == q))
def addRow (D : Nat → Bool) (st : List (Nat × Row)) : Option (Nat × Row) → List (Nat × Row)
  | none => st
  | some (r, row) => (r, row.clip D) :: stDel st r
def St.add (σ : St) (d : Nat) (D : Nat → Bool) (E : Eff) : St := ⟨frPut σ.fr d (E.v.clip D), addRow D σ.st E.nr⟩
def vcG (P : Program) (N : List Nat) : List GI → St → (St → Prop) → Prop
  | [], σ, K => K σ
  | i :: L, σ, K => ∃ E, effP P (σ.norm i.U i.R) i.d i.g i.op E ∧ vcG P N L (σ.add i.d (i.out N) E) K

/-- the same for all who look -/
structure Same (σ τ : St) : Prop where
  fr : ∀ t, frSome σ.fr t = frSome τ.fr t
  st : ∀ r, stGet σ.st r = stGet τ.st r
theorem Same.rfl' {σ : St} : Same σ σ := ⟨fun _ => rfl, fun _ => rfl⟩
theorem frKeep_eq {l m : List (Nat × AV)} : ∀ {U : List Nat}, (∀ t ∈ U, frSome l t = frSome m t) → frKeep l U = frKeep m U
  | [], _ => rfl
  | t :: U, h => by
    have ih := frKeep_eq (U := U) fun t ht => h t (List.mem_cons_of_mem _ ht)
    simp only [frKeep, h t (by simp), ih]
theorem stKeep_eq {l m : List (Nat × Row)} : ∀ {U : List Nat}, (∀ t ∈ U, stGet l t = stGet m t) → stKeep l U = stKeep m U
  | [], _ => rfl
  | t :: U, h => by
    have ih := stKeep_eq (U := U) fun t ht => h t (List.mem_cons_of_mem _ ht)
    simp only [stKeep, h t (by simp), ih]
theorem Same.norm {σ τ : St} (h : Same σ τ) (U R : List Nat) : σ.norm U R = τ.norm U R := by
  unfold St.norm
  rw [frKeep_eq fun t _ => h.fr t, stKeep_eq fun r _ => h.st r]
theorem frSome_put {l : List (Nat × AV)} {d t : Nat} {v : AV} : frSome (frPut l d v) t = if d = t then some v else frSome l t := by
  simp only [frPut, frSome]
  split
  · rfl
  · rename_i hn
    induction l with
    | nil => rfl
    | cons a l ih =>
      obtain ⟨k, u⟩ := a
      simp only [frDel]
      split
      · rename_i hk
        have : ¬ k = t := fun e => hn (by rw [← hk, e])
        simp only [frSome, if_neg this]
        exact ih
      · simp only [frSome]
        split
        · rfl
        · exact ih
theorem stGet_del {l : List (Nat × Row)} {r q : Nat} (h : r ≠ q) : stGet (stDel l r) q = stGet l q := by
  induction l with
  | nil => rfl
  | cons a l ih =>
    obtain ⟨k, u⟩ := a
    simp only [stDel]
    split
    · rename_i hk
      have : ¬ k = q := fun e => h (by rw [← hk, e])
      simp only [stGet, if_neg this]
      exact ih
    · simp only [stGet]
      split
      · rfl
      · exact ih
theorem stGet_add {D : Nat → Bool} {l : List (Nat × Row)} {o : Option (Nat × Row)} {q : Nat} : stGet (addRow D l o) q = match o with
    | none => stGet l q
    | some (r, row) => if r = q then some (row.clip D) else stGet l q := by
  cases o with
  | none => rfl
  | some a =>
    obtain ⟨r, row⟩ := a
    simp only [addRow, stGet]
    split
    · rfl
    · rename_i h; exact stGet_del h
theorem Same.add {σ τ : St} (h : Same σ τ) (d : Nat) (D : Nat → Bool) (E : Eff) : Same (σ.add d D E) (τ.add d D E) := by
  refine ⟨fun t => ?_, fun r => ?_⟩
  · simp only [St.add, frSome_put, h.fr]
  · simp only [St.add, stGet_add]
    split
    · exact h.st r
    · simp only [h.st]
theorem add_swap {σ : St} {d d' : Nat} {D D' : Nat → Bool} {E E' : Eff} (hd : d ≠ d') (hr : ∀ r row r' row', E.nr = some (r, row) → E'.nr = some (r', row') → r ≠ r') :
    Same ((σ.add d D E).add d' D' E') ((σ.add d' D' E').add d D E) := by
  refine ⟨fun t => ?_, fun q => ?_⟩
  · simp only [St.add, frSome_put]
    by_cases h1 : d = t
    · subst h1
      rw [if_pos rfl, if_neg (Ne.symm hd), if_pos rfl]
    · by_cases h2 : d' = t
      · subst h2; simp [hd]
      · simp [h1, h2]
  · simp only [St.add, stGet_add]
    cases he : E.nr with
    | none => rfl
    | some a =>
      obtain ⟨r, row⟩ := a
      cases he' : E'.nr with
      | none => rfl
      | some b =>
        obtain ⟨r', row'⟩ := b
        have hne := hr r row r' row' he he'
        simp only
        by_cases h1 : r = q
        · subst h1; rw [if_pos rfl, if_neg (Ne.symm hne), if_pos rfl]
        · by_cases h2 : r' = q
          · subst h2; simp [hne]
          · simp [h1, h2]
theorem vcG_same {P : Program} {N : List Nat} {K : St → Prop} (hK : ∀ σ τ, Same σ τ → K σ → K τ) : ∀ {L : List GI} {σ τ : St}, Same σ τ → vcG P N L σ K → vcG P N L τ K
  | [], _, _, h, hk => hK _ _ h hk
  | i :: L, σ, τ, h, hk => by
    obtain ⟨E, h1, h2⟩ := hk
    exact ⟨E, by rw [← h.norm]; exact h1, vcG_same hK (h.add _ _ _) h2⟩
/-- neither leans on the other -/
structure Indep (i j : GI) : Prop where
  d : i.d ≠ j.d
  own : i.own ≠ j.own
  u : j.d ∉ i.U
  u' : i.d ∉ j.U
  r : j.own ∉ i.R
  r' : i.own ∉ j.R
theorem norm_add {σ : St} {d : Nat} {D : Nat → Bool} {E : Eff} {U R : List Nat} (hd : d ∉ U) (hr : ∀ r row, E.nr = some (r, row) → r ∉ R) : (σ.add d D E).norm U R = σ.norm U R := by
  have h1 : frKeep (σ.add d D E).fr U = frKeep σ.fr U := frKeep_eq fun t ht => by
    simp only [St.add, frSome_put]
    rw [if_neg fun e => hd (by rw [e]; exact ht)]
  have h2 : stKeep (σ.add d D E).st R = stKeep σ.st R := stKeep_eq fun r hr' => by
    simp only [St.add, stGet_add]
    split
    · rfl
    · rename_i r0 row he
      rw [if_neg fun e => hr r0 row he (by rw [e]; exact hr')]
  unfold St.norm
  rw [h1, h2]
theorem vcG_swap {P : Program} {N : List Nat} {K : St → Prop} (hK : ∀ σ τ, Same σ τ → K σ → K τ) {i j : GI} {L : List GI} {σ : St} (h : Indep i j) (hk : vcG P N (i :: j :: L) σ K) : vcG P N (j :: i :: L) σ K := by
  obtain ⟨E, h1, E', h2, h3⟩ := hk
  have o1 : ∀ r row, E.nr = some (r, row) → r = i.own := fun r row hn => (eff_own h1 hn).1
  rw [norm_add h.u' fun r row hn => by rw [o1 r row hn]; exact h.r'] at h2
  have o2 : ∀ r row, E'.nr = some (r, row) → r = j.own := fun r row hn => (eff_own h2 hn).1
  refine ⟨E', h2, E, ?_, vcG_same hK (add_swap h.d fun r row r' row' a b => by rw [o1 r row a, o2 r' row' b]; exact h.own) h3⟩
  rw [norm_add h.u fun r row hn => by rw [o2 r row hn]; exact h.r]
  exact h1
theorem vcG_front {P : Program} {N : List Nat} {K : St → Prop} (hK : ∀ σ τ, Same σ τ → K σ → K τ) {j : GI} : ∀ {L1 L2 : List GI} {σ : St}, (∀ i ∈ L1, Indep i j) → vcG P N (L1 ++ j :: L2) σ K → vcG P N (j :: (L1 ++ L2)) σ K
  | [], _, _, _, hk => hk
  | i :: L1, L2, σ, h, hk => by
    refine vcG_swap hK (h i (by simp)) ?_
    obtain ⟨E, h1, h2⟩ := hk
    exact ⟨E, h1, vcG_front hK (fun k hk => h k (List.mem_cons_of_mem _ hk)) h2⟩

/-! ### what a machine's state has of it -/
mutual
theorem clip_clip {D D' : Nat → Bool} (h : ∀ q, D' q = true → D q = true) : ∀ v : AV, (v.clip D).clip D' = v.clip D
  | .un | .pv _ | .e0 | .eptr _ _ _ | .cptr _ _ => by simp only [AV.clip]
  | .agg cs | .tup cs | .lit cs | .fn _ cs => by simp only [AV.clip, clips_clips h cs]
  | .row r _ _ | .ptr r _ | .rptr r _ _ | .mp r | .it r => by
    simp only [AV.clip]
    cases hD : D r
    · have : D' r = false := by
        cases hD' : D' r
        · rfl
        · rw [h r hD'] at hD; cases hD
      simp only [Bool.false_eq_true, if_false, AV.clip, this]
    · simp only [if_true, AV.clip]
  | .whn _ v => by simp only [AV.clip, clip_clip h v]
theorem clips_clips {D D' : Nat → Bool} (h : ∀ q, D' q = true → D q = true) : ∀ l : List AV, AV.clips D' (AV.clips D l) = AV.clips D l
  | [] => rfl
  | v :: l => by simp only [AV.clips, clip_clip h v, clips_clips h l]
end
theorem rclip_clip {D D' : Nat → Bool} (h : ∀ q, D' q = true → D q = true) (row : Row) : (row.clip D).clip D' = row.clip D := by
  cases row with
  | mit m n rem cur =>
    simp only [Row.clip]
    cases hD : D m
    · have : D' m = false := by
        cases hD' : D' m
        · rfl
        · rw [h m hD'] at hD; cases hD
      simp only [Bool.false_eq_true, if_false, Row.clip, this]
    · simp only [if_true, Row.clip]
  | mid m n bs rem cur =>
    simp only [Row.clip]
    cases hD : D m
    · have : D' m = false := by
        cases hD' : D' m
        · rfl
        · rw [h m hD'] at hD; cases hD
      simp only [Bool.false_eq_true, if_false, Row.clip, this]
    · simp only [if_true, Row.clip]
  | _ => simp only [Row.clip, clips_clips h]
/-- nothing leads into row r, and there is none -/
structure NoRef (r : Nat) (σ : St) : Prop where
  fr : ∀ k v, (k, v) ∈ σ.fr → v.clip (only r) = v
  st : ∀ q row, (q, row) ∈ σ.st → q ≠ r ∧ row.clip (only r) = row
theorem frClip_id {D : Nat → Bool} : ∀ {l : List (Nat × AV)}, (∀ k v, (k, v) ∈ l → v.clip D = v) → frClip D l = l
  | [], _ => rfl
  | (k, v) :: l, h => by simp only [frClip, h k v (by simp), frClip_id fun k v hm => h k v (List.mem_cons_of_mem _ hm)]
theorem stClip_id {D : Nat → Bool} : ∀ {l : List (Nat × Row)}, (∀ k v, (k, v) ∈ l → v.clip D = v) → stClip D l = l
  | [], _ => rfl
  | (k, v) :: l, h => by simp only [stClip, h k v (by simp), stClip_id fun k v hm => h k v (List.mem_cons_of_mem _ hm)]
theorem stDel_id {r : Nat} : ∀ {l : List (Nat × Row)}, (∀ k v, (k, v) ∈ l → k ≠ r) → stDel l r = l
  | [], _ => rfl
  | (k, v) :: l, h => by simp only [stDel, if_neg (h k v (by simp)), stDel_id fun k v hm => h k v (List.mem_cons_of_mem _ hm)]
theorem NoRef.new {r : Nat} {σ : St} (h : NoRef r σ) (row : Row) : σ.newRow r row = ⟨σ.fr, (r, row) :: σ.st⟩ := by
  unfold St.newRow
  rw [frClip_id h.fr, stDel_id fun k v hm => (h.st k v hm).1, stClip_id fun k v hm => (h.st k v hm).2]
theorem Kept.rfl' {x : Cx} : Kept x x := ⟨Nat.le_refl _, fun _ _ _ => rfl, fun _ _ h => h⟩
theorem SRel.weak {e : Env} {σ τ : St} {x : Cx} {a : Act} (h : SRel e σ x a) (hfr : ∀ k v, (k, v) ∈ τ.fr → ∃ u D, (k, u) ∈ σ.fr ∧ v = u.clip D) (hst : ∀ r row, (r, row) ∈ τ.st → ∃ u D, (r, u) ∈ σ.st ∧ row = u.clip D)
    (hk : τ.st.map (·.1) = σ.st.map (·.1)) : SRel e τ x a :=
  have hm : ∀ r row, (r, row) ∈ τ.st → ∃ row', (r, row') ∈ σ.st := fun r row hm => let ⟨u, _, h1, _⟩ := hst r row hm; ⟨u, h1⟩
  { defers := h.defers
    size := h.size
    fr := fun k v hm => by
      obtain ⟨u, D, h1, rfl⟩ := hfr k v hm
      obtain ⟨cv, h2, h3⟩ := h.fr k u h1
      exact ⟨cv, h2, VRel.clip Kept.rfl' (fun _ _ => rfl) u h3⟩
    st := fun r row hm => by
      obtain ⟨u, D, h1, rfl⟩ := hst r row hm
      exact Row.clip_rel Kept.rfl' (fun _ _ => rfl) (fun _ => rfl) (h.st r u h1)
    keys := by rw [hk]; exact h.keys
    inj := fun r row r' row' h1 h2 => let ⟨u, k1⟩ := hm r row h1; let ⟨u', k2⟩ := hm r' row' h2; h.inj r u r' u' k1 k2
    F := fun b => by
      rw [h.F b]
      have key : ∀ {s t : List (Nat × Row)}, s.map (·.1) = t.map (·.1) → Own s x.ρ b → Own t x.ρ b := by
        intro s t hst ⟨r, row, h1, h2⟩
        have : r ∈ t.map (·.1) := by rw [← hst]; exact List.mem_map.2 ⟨_, h1, rfl⟩
        obtain ⟨⟨r', row'⟩, h3, rfl⟩ := List.mem_map.1 this
        exact ⟨_, row', h3, h2⟩
      constructor
      · exact Or.imp id (key hk.symm)
      · exact Or.imp id (key hk)
    own := fun r row h1 hok => let ⟨u, k1⟩ := hm r row h1; h.own r u k1 hok
    f0 := h.f0
    tabs := h.tabs
    below := h.below
    fix := h.fix
    small := h.small }
theorem clip_none' (v : AV) : v = v.clip (fun _ => false) := (clip_none v).symm
theorem rclip_none (row : Row) : row = row.clip (fun _ => false) := by
  cases row <;> simp only [Row.clip, clips_none, Bool.false_eq_true, if_false]
theorem SRel.add {e : Env} {σ : St} {x : Cx} {a : Act} {d : Nat} {D : Nat → Bool} {E : Eff} (h : SRel e (σ.app d E) x a) (hn : ∀ r row, E.nr = some (r, row) → NoRef r σ) : SRel e (σ.add d D E) x a := by
  cases he : E.nr with
  | none =>
    simp only [St.app, he] at h
    refine h.weak (fun k v hm => ?_) (fun r row hm => ?_) ?_
    · simp only [St.add, frPut] at hm
      rcases List.mem_cons.1 hm with hm | hm
      · injection hm with h1 h2
        subst h1; subst h2
        exact ⟨E.v, D, by simp only [St.put, frPut]; exact List.mem_cons_self, rfl⟩
      · exact ⟨v, fun _ => false, by simp only [St.put, frPut]; exact List.mem_cons_of_mem _ hm, clip_none' v⟩
    · simp only [St.add, he, addRow] at hm
      exact ⟨row, fun _ => false, hm, rclip_none row⟩
    · simp only [St.add, he, addRow, St.put]
  | some q =>
    obtain ⟨r, row⟩ := q
    have hr := hn r row he
    simp only [St.app, he, hr.new] at h
    have hdel : stDel σ.st r = σ.st := stDel_id fun k v hm => (hr.st k v hm).1
    refine h.weak (fun k v hm => ?_) (fun q row' hm => ?_) ?_
    · simp only [St.add, frPut] at hm
      rcases List.mem_cons.1 hm with hm | hm
      · injection hm with h1 h2
        subst h1; subst h2
        exact ⟨E.v, D, by simp only [St.put, frPut]; exact List.mem_cons_self, rfl⟩
      · exact ⟨v, fun _ => false, by simp only [St.put, frPut]; exact List.mem_cons_of_mem _ hm, clip_none' v⟩
    · simp only [St.add, he, addRow, hdel] at hm
      rcases List.mem_cons.1 hm with hm | hm
      · injection hm with h1 h2
        subst h1; subst h2
        exact ⟨row, D, by simp only [St.put]; exact List.mem_cons_self, rfl⟩
      · exact ⟨row', fun _ => false, by simp only [St.put]; exact List.mem_cons_of_mem _ hm, rclip_none row'⟩
    · simp only [St.add, he, addRow, hdel, St.put, List.map_cons]
theorem NoRef.add {q : Nat} {σ : St} {d : Nat} {D : Nat → Bool} {E : Eff} (h : NoRef q σ) (hD : D q = true) (hq : ∀ r row, E.nr = some (r, row) → r ≠ q) : NoRef q (σ.add d D E) := by
  have hD' : ∀ p, only q p = true → D p = true := fun p hp => by
    simp only [only, beq_iff_eq] at hp
    rw [hp]; exact hD
  refine ⟨fun k v hm => ?_, fun p row hm => ?_⟩
  · simp only [St.add, frPut] at hm
    rcases List.mem_cons.1 hm with hm | hm
    · injection hm with h1 h2
      subst h2
      exact clip_clip hD' _
    · exact h.fr k v (frDel_mem hm).1
  · simp only [St.add] at hm
    cases he : E.nr with
    | none => rw [he] at hm; exact h.st p row hm
    | some b =>
      obtain ⟨r, row0⟩ := b
      rw [he] at hm
      simp only [addRow] at hm
      rcases List.mem_cons.1 hm with hm | hm
      · injection hm with h1 h2
        subst h1; subst h2
        exact ⟨hq _ row0 he, rclip_clip hD' _⟩
      · exact h.st p row (stDel_mem hm).1
def stOut (N : List Nat) : List (Nat × Row) → List (Nat × Row)
  | [] => []
  | (r, row) :: l => if inL N r then stOut N l else (r, row.clip (inL N)) :: stOut N l
/-- nothing of the rows named N -/
def St.strip (σ : St) (N : List Nat) : St := ⟨frClip (inL N) σ.fr, stOut N σ.st⟩
theorem stOut_mem {N : List Nat} : ∀ {l : List (Nat × Row)} {r : Nat} {row : Row}, (r, row) ∈ stOut N l → inL N r = false ∧ ∃ u, (r, u) ∈ l ∧ row = u.clip (inL N)
  | [], _, _, h => by cases h
  | (q, u) :: l, r, row, h => by
    simp only [stOut] at h
    split at h
    · obtain ⟨h1, u', h2, h3⟩ := stOut_mem h
      exact ⟨h1, u', List.mem_cons_of_mem _ h2, h3⟩
    · rename_i hq
      rcases List.mem_cons.1 h with h | h
      · injection h with h1 h2
        subst h1
        exact ⟨by simpa using hq, u, by simp, h2⟩
      · obtain ⟨h1, u', h2, h3⟩ := stOut_mem h
        exact ⟨h1, u', List.mem_cons_of_mem _ h2, h3⟩
theorem stOut_keys {N : List Nat} : ∀ {l : List (Nat × Row)}, (l.map (·.1)).Nodup → ((stOut N l).map (·.1)).Nodup
  | [], _ => by simp [stOut]
  | (q, u) :: l, h => by
    simp only [List.map_cons, List.nodup_cons] at h
    simp only [stOut]
    split
    · exact stOut_keys h.2
    · simp only [List.map_cons, List.nodup_cons]
      refine ⟨fun hm => ?_, stOut_keys h.2⟩
      obtain ⟨⟨q', row⟩, h1, h2⟩ := List.mem_map.1 hm
      have h2' : q' = q := h2
      subst h2'
      obtain ⟨_, u', h3, _⟩ := stOut_mem h1
      exact h.1 (List.mem_map.2 ⟨_, h3, rfl⟩)
theorem SRel.strip {e : Env} {σ : St} {x : Cx} {a : Act} (h : SRel e σ x a) (N : List Nat) : ∃ y, y.w = x.w ∧ SRel e (σ.strip N) y a := by
  have k : Kept x ⟨x.w, fun b => e.F0 b ∨ Own (σ.strip N).st x.ρ b, x.ρ⟩ := ⟨Nat.le_refl _, fun _ _ _ => rfl, fun b _ hb => (h.F b).2 (hb.imp id fun ⟨r, row, h1, h2⟩ => let ⟨_, u, h3, _⟩ := stOut_mem h1; ⟨r, u, h3, h2⟩)⟩
  have hm : ∀ r row, (r, row) ∈ (σ.strip N).st → ∃ row', (r, row') ∈ σ.st := fun r row hm => let ⟨_, u, h1, _⟩ := stOut_mem hm; ⟨u, h1⟩
  exact ⟨⟨x.w, fun b => e.F0 b ∨ Own (σ.strip N).st x.ρ b, x.ρ⟩, rfl, {
    defers := h.defers
    size := h.size
    fr := fun t v hm => by
      obtain ⟨u, h1, rfl⟩ := frClip_mem hm
      obtain ⟨cv, h2, h3⟩ := h.fr t u h1
      exact ⟨cv, h2, VRel.clip k (fun _ _ => rfl) u h3⟩
    st := fun r row hm => by
      obtain ⟨_, u, h1, rfl⟩ := stOut_mem hm
      exact Row.clip_rel k (fun _ _ => rfl) (fun _ => rfl) (h.st r u h1)
    keys := stOut_keys h.keys
    inj := fun r row r' row' h1 h2 => let ⟨u, k1⟩ := hm r row h1; let ⟨u', k2⟩ := hm r' row' h2; h.inj r u r' u' k1 k2
    F := fun b => Iff.rfl
    own := fun r row h1 hok => let ⟨u, k1⟩ := hm r row h1; h.own r u k1 hok
    f0 := h.f0
    tabs := h.tabs
    below := h.below
    fix := h.fix
    small := h.small }⟩
theorem strip_noref {σ : St} {N : List Nat} {r : Nat} (h : inL N r = true) : NoRef r (σ.strip N) := by
  have hD : ∀ p, only r p = true → inL N p = true := fun p hp => by
    simp only [only, beq_iff_eq] at hp
    rw [hp]; exact h
  refine ⟨fun k v hm => ?_, fun q row hm => ?_⟩
  · obtain ⟨u, _, rfl⟩ := frClip_mem hm
    exact clip_clip hD u
  · obtain ⟨h1, u, _, rfl⟩ := stOut_mem hm
    refine ⟨fun e => ?_, rclip_clip hD u⟩
    rw [e, h] at h1; cases h1
end Go.Vc

namespace Go.Vc
open Go.RowKit
set_option linter.constructorNameAsVariable false

/-! ### a group of a region: its check, and that it is sound -/
def marks (sz : Nat) (l : List Nat) : Array Bool := ⟨(List.range sz).map (inL l)⟩
theorem marks_size {sz : Nat} {l : List Nat} : (marks sz l).size = sz := by simp [marks]
theorem marks_get {sz : Nat} {l : List Nat} {i : Nat} (d : Bool) (h : i < sz) : (marks sz l).getD i d = inL l i := by
  simp [marks, Array.getD_eq_getD_getElem?, h]
theorem marks_out {sz : Nat} {l : List Nat} {i : Nat} (d : Bool) (h : ¬ i < sz) : (marks sz l).getD i d = d := by
  simp [marks, Array.getD_eq_getD_getElem?, h]

def giOf (P : Program) (owns : List Nat) (n : Nat) (ops : Array Oper) (N : List Nat) (x : Nat × List Nat × List Nat) : Option (Nat × GI) := match ops[x.1]? with
  | some o => match instOf P owns n ops o with
    | some ⟨some d, g, op⟩ => if usesIn x.2.1 g op && (!makesRow op || inL N (ownOf d op)) then some (x.1, ⟨d, g, op, x.2.1, x.2.2⟩) else none
    | _ => none
  | none => none
def gisOf (P : Program) (owns : List Nat) (n : Nat) (ops : Array Oper) (N : List Nat) : List (Nat × List Nat × List Nat) → Option (List (Nat × GI))
  | [] => some []
  | x :: l => match giOf P owns n ops N x, gisOf P owns n ops N l with
    | some a, some r => some (a :: r)
    | _, _ => none
/-- does one wait for one of D? -/
def waitsOn (ops : Array Oper) (D : List Nat) (k : Nat) : Bool := match ops[k]? with
  | some o => o.after.toList.any fun e => Region.binds .any e && inL D e.on
  | none => false
/-- D, and those that wait for one of it -/
def descG (ops : Array Oper) : List Nat → List Nat → List Nat
  | [], D => D
  | k :: r, D => if waitsOn ops D k then descG ops r (k :: D) else descG ops r D
def notIn (l D : List Nat) : List Nat := l.filter fun x => !inL D x
def pairOk (ops : Array Oper) (ids : List Nat) (a b : Nat × GI) : Bool :=
  !(a.2.d == b.2.d) && !(a.2.own == b.2.own) && !inL a.2.U b.2.d && !inL a.2.R b.2.own &&
    ((!inL b.2.U a.2.d && !inL b.2.R a.2.own) || (!(a.1 == b.1) && inL (descG ops ids [a.1]) b.1))
def pairsOk (ops : Array Oper) (ids : List Nat) : List (Nat × GI) → Bool
  | [] => true
  | a :: l => l.all (pairOk ops ids a) && pairsOk ops ids l
def prefOk (ops : Array Oper) : List Nat → List Nat → Bool
  | _, [] => true
  | pre, i :: l => inL (Region.ready .any ops (marks ops.size pre)) i && prefOk ops (i :: pre) l
def loneOk (ops : Array Oper) (ids : List Nat) : Bool := ids.all fun h => (Region.ready .any ops (marks ops.size (notIn ids (descG ops ids [h])))).all (inL ids)
def groupOf (P : Program) (owns : List Nat) (n : Nat) (ops : Array Oper) (N : List Nat) (l : List (Nat × List Nat × List Nat)) : Option (List (Nat × GI)) := match gisOf P owns n ops N l with
  | some G => if prefOk ops [] (l.map (·.1)) && loneOk ops (l.map (·.1)) && pairsOk ops (l.map (·.1)) G then some G else none
  | none => none

section
variable {P : Program} {owns : List Nat} {ops : Array Oper} {N : List Nat} {e : Env} {Q : Exit → Act → World → Prop} {calm : Nat → Bool} {K : St → Prop}

structure GOk (P : Program) (owns : List Nat) (n : Nat) (ops : Array Oper) (N : List Nat) (p : Nat × GI) : Prop where
  is : ∃ o, ops[p.1]? = some o ∧ instOf P owns n ops o = some ⟨some p.2.d, p.2.g, p.2.op⟩
  uses : usesIn p.2.U p.2.g p.2.op = true
  row : makesRow p.2.op = true → inL N p.2.own = true
theorem gisOf_ok {n : Nat} : ∀ {l : List (Nat × List Nat × List Nat)} {G : List (Nat × GI)}, gisOf P owns n ops N l = some G → G.map (·.1) = l.map (·.1) ∧ ∀ p ∈ G, GOk P owns n ops N p
  | [], G, h => by simp only [gisOf, Option.some.injEq] at h; subst h; exact ⟨rfl, fun p hp => by cases hp⟩
  | x :: l, G, h => by
    simp only [gisOf] at h
    split at h
    · rename_i a r h1 h2
      injection h with h; subst h
      obtain ⟨h3, h4⟩ := gisOf_ok h2
      unfold giOf at h1
      split at h1
      · rename_i o ho
        split at h1
        · rename_i d g op hi
          split at h1
          · rename_i hc
            simp only [Bool.and_eq_true, Bool.or_eq_true, Bool.not_eq_true'] at hc
            injection h1 with h1; subst h1
            refine ⟨by simp [h3], fun p hp => ?_⟩
            rcases List.mem_cons.1 hp with rfl | hp
            · exact ⟨⟨o, ho, hi⟩, hc.1, fun hm => hc.2.resolve_left fun hf => (by rw [hm] at hf; cases hf)⟩
            · exact h4 p hp
          · cases h1
        · cases h1
      · cases h1
    · cases h
theorem ready_sub {l l' : Array Bool} {j : Nat} (h : j ∈ Region.ready .any ops l) (hs : ∀ i, l.getD i false = true → l'.getD i false = true) (hj : l'.getD j true = false) : j ∈ Region.ready .any ops l' := by
  rw [mem_ready] at h ⊢
  obtain ⟨_, o, ho, h⟩ := h
  exact ⟨hj, o, ho, fun e he hb => hs _ (h e he hb)⟩
theorem ready_lt {l : Array Bool} {j : Nat} (h : j ∈ Region.ready .any ops l) : j < ops.size := by
  rw [mem_ready] at h
  obtain ⟨_, o, ho, _⟩ := h
  exact (Array.getElem?_eq_some_iff.1 ho).1
/-- what is listed while L is left of a group -/
structure Left (ops : Array Oper) (ids : List Nat) (L : List Nat) (listed : Array Bool) : Prop where
  size : listed.size = ops.size
  at_ : ∀ i, i < ops.size → listed.getD i false = (inL ids i && !inL L i)
  down : ∀ k o, ops[k]? = some o → listed.getD k false = true → ∀ e ∈ o.after, Region.binds .any e = true → listed.getD e.on false = true
theorem waitsOn_un {listed : Array Bool} {D : List Nat} {k : Nat} (hd : ∀ o, ops[k]? = some o → listed.getD k false = true → ∀ e ∈ o.after, Region.binds .any e = true → listed.getD e.on false = true)
    (hD : ∀ i ∈ D, listed.getD i false = false) (h : waitsOn ops D k = true) : listed.getD k false = false := by
  unfold waitsOn at h
  split at h
  · rename_i o ho
    obtain ⟨e, he, h⟩ := List.any_eq_true.1 h
    simp only [Bool.and_eq_true] at h
    cases hl : listed.getD k false with
    | false => rfl
    | true =>
      have := hd o ho hl e (by simpa using he) h.1
      rw [hD _ (inL_iff.1 h.2)] at this
      cases this
  · cases h
theorem desc_un {ids L : List Nat} {listed : Array Bool} (h : Left ops ids L listed) : ∀ {r D : List Nat}, (∀ i ∈ D, listed.getD i false = false) → ∀ i ∈ descG ops r D, listed.getD i false = false
  | [], D, hD => hD
  | k :: r, D, hD => by
    simp only [descG]
    split
    · rename_i hw
      refine desc_un h fun i hi => ?_
      rcases List.mem_cons.1 hi with rfl | hi
      · exact waitsOn_un (fun o ho => h.down _ o ho) hD hw
      · exact hD i hi
    · exact desc_un h hD
/-- one that waits for one that is left is not ready -/
theorem desc_not {ids L : List Nat} {listed : Array Bool} (h : Left ops ids L listed) {j : Nat} (hj : j ∈ Region.ready .any ops listed) : ∀ {r D : List Nat}, (∀ i ∈ D, listed.getD i false = false) → j ∈ descG ops r D → j ∈ D
  | [], D, _, hm => hm
  | k :: r, D, hD, hm => by
    simp only [descG] at hm
    split at hm
    · rename_i hw
      have hk := waitsOn_un (fun o ho => h.down _ o ho) hD hw
      have hkj : j ∈ k :: D := desc_not h hj (fun i hi => by
        rcases List.mem_cons.1 hi with rfl | hi
        · exact hk
        · exact hD i hi) hm
      rcases List.mem_cons.1 hkj with e | hkj
      · exfalso
        subst e
        unfold waitsOn at hw
        split at hw
        · rename_i o ho
          obtain ⟨e, he, h1⟩ := List.any_eq_true.1 hw
          simp only [Bool.and_eq_true] at h1
          obtain ⟨_, o', ho', hall⟩ := mem_ready.1 hj
          rw [ho] at ho'
          injection ho' with ho'
          subst ho'
          have := hall e (by simpa using he) h1.1
          rw [hD _ (inL_iff.1 h1.2)] at this
          cases this
        · cases hw
      · exact hkj
    · exact desc_not h hj hD hm
theorem Left.lt {ids L : List Nat} {listed : Array Bool} (h : Left ops ids L listed) {i : Nat} (hi : listed.getD i false = true) : i < ops.size := by
  refine Classical.byContradiction fun hn => ?_
  have : listed[i]? = none := Array.getElem?_eq_none (by have := h.size; omega)
  simp [Array.getD_eq_getD_getElem?, this] at hi
theorem Left.un {ids L : List Nat} {listed : Array Bool} (h : Left ops ids L listed) {i : Nat} (hi : i < ops.size) : listed.getD i true = (inL ids i && !inL L i) := by
  rw [← h.at_ i hi]
  have hi' : i < listed.size := by rw [h.size]; exact hi
  have : listed[i]? = some listed[i] := Array.getElem?_eq_getElem hi'
  simp [Array.getD_eq_getD_getElem?, this]
theorem notIn_mem {l D : List Nat} {x : Nat} : x ∈ notIn l D ↔ x ∈ l ∧ x ∉ D := by
  simp [notIn, List.mem_filter, inL_no]
theorem first_in {G : List (Nat × GI)} {p : Nat → Prop} : (∃ q ∈ G, p q.1) → ∃ pre q post, G = pre ++ q :: post ∧ p q.1 ∧ ∀ r ∈ pre, ¬ p r.1 := by
  induction G with
  | nil => rintro ⟨q, hq, _⟩; cases hq
  | cons a G ih =>
    rintro ⟨q, hq, hp⟩
    by_cases ha : p a.1
    · exact ⟨[], a, G, rfl, ha, fun r hr => by cases hr⟩
    · rcases List.mem_cons.1 hq with rfl | hq
      · exact absurd hp ha
      · obtain ⟨pre, q', post, h1, h2, h3⟩ := ih ⟨q, hq, hp⟩
        refine ⟨a :: pre, q', post, by rw [h1]; rfl, h2, fun r hr => ?_⟩
        rcases List.mem_cons.1 hr with rfl | hr
        · exact ha
        · exact h3 r hr
theorem prefOk_at : ∀ {l pre pre2 post : List Nat} {i : Nat}, prefOk ops pre l = true → l = pre2 ++ i :: post → ∃ pre', (∀ x, x ∈ pre' ↔ x ∈ pre ∨ x ∈ pre2) ∧ i ∈ Region.ready .any ops (marks ops.size pre')
  | [], pre, pre2, post, i, _, e => by simp at e
  | a :: l, pre, [], post, i, h, e => by
    simp only [List.nil_append, List.cons.injEq] at e
    obtain ⟨rfl, rfl⟩ := e
    simp only [prefOk, Bool.and_eq_true] at h
    exact ⟨pre, fun x => by simp, inL_iff.1 h.1⟩
  | a :: l, pre, b :: pre2, post, i, h, e => by
    simp only [List.cons_append, List.cons.injEq] at e
    obtain ⟨rfl, e⟩ := e
    simp only [prefOk, Bool.and_eq_true] at h
    obtain ⟨pre', h1, h2⟩ := prefOk_at h.2 e
    refine ⟨pre', fun x => ?_, h2⟩
    rw [h1 x]
    simp only [List.mem_cons]
    constructor
    · rintro ((h | h) | h)
      · exact .inr (.inl h)
      · exact .inl h
      · exact .inr (.inr h)
    · rintro (h | h | h)
      · exact .inl (.inr h)
      · exact .inl (.inl h)
      · exact .inr h
theorem pairsOk_pw {ids : List Nat} : ∀ {G : List (Nat × GI)}, pairsOk ops ids G = true → G.Pairwise fun a b => pairOk ops ids a b = true
  | [], _ => List.Pairwise.nil
  | a :: l, h => by
    simp only [pairsOk, Bool.and_eq_true, List.all_eq_true] at h
    exact List.Pairwise.cons (fun b hb => h.1 b hb) (pairsOk_pw h.2)
theorem frSome_keep {l : List (Nat × AV)} {t : Nat} : ∀ {U : List Nat}, frSome (frKeep l U) t = if t ∈ U then frSome l t else none
  | [] => rfl
  | u :: U => by
    have ih := frSome_keep (l := l) (t := t) (U := U)
    simp only [frKeep]
    by_cases hu : u = t
    · subst hu
      cases hs : frSome l u with
      | none =>
        simp only [ih, hs]
        simp
      | some v => simp [frSome]
    · have hne : ¬ t = u := fun e => hu e.symm
      cases hs : frSome l u with
      | none => simp only [ih, List.mem_cons, hne, false_or]
      | some v => simp only [frSome, if_neg hu, ih, List.mem_cons, hne, false_or]
theorem frGet_some : ∀ {l : List (Nat × AV)} {t : Nat}, frGet l t = (frSome l t).getD .un
  | [], t => rfl
  | (k, v) :: l, t => by
    simp only [frGet, frSome]
    split
    · rfl
    · exact frGet_some
theorem stGet_keep {l : List (Nat × Row)} {r : Nat} {row : Row} : ∀ {R : List Nat}, stGet (stKeep l R) r = some row → stGet l r = some row
  | [], h => by simp [stKeep, stGet] at h
  | q :: R, h => by
    simp only [stKeep] at h
    split at h
    · exact stGet_keep h
    · split at h
      · rename_i v hv
        simp only [stGet] at h
        split at h
        · rename_i hq
          subst hq
          rw [hv]; exact h
        · exact stGet_keep h
      · exact stGet_keep h
theorem norm_ext (σ : St) (U R : List Nat) : Ext U (σ.norm U R) σ :=
  ⟨fun t ht => by simp only [St.norm, frGet_some, frSome_keep, if_pos ht], fun r row h => stGet_keep h⟩
theorem inst_calm [EP e P] {σ : St} {x : Cx} {a : Act} {o : Oper} {i : Inst} {is : List Inst} (hi : instOf P owns e.n ops o = some i) (hc : i.op.quiet = true ∨ i.op.soft = true) (h : SRel e σ x a) (hk : vcOps P (i :: is) σ K) :
    if Region.wanted o (yielded ops a.tmps) then o.wp P a x.w (fun a' w' => Agr x.w w' ∧ Behind P e is K a' w') Q else Agr x.w x.w ∧ Behind P e is K (a.put o.dst undef) x.w := by
  rcases hc with hq | hs
  · obtain ⟨cv, σ', hy, h1, h2⟩ := inst_quiet hi hq h hk
    rcases hy with ⟨hw, hr⟩ | ⟨hw, hv⟩
    · rw [hw, if_pos rfl]
      exact wp_value (hr x.w (Agr.refl _)) ⟨Agr.refl _, σ', x, h1, rfl, h2⟩
    · rw [hw, if_neg (by simp)]
      subst hv
      exact ⟨Agr.refl _, σ', x, h1, rfl, h2⟩
  · exact inst_soft hi hs h hk Q
theorem pair_indep {ids L : List Nat} {listed : Array Bool} (hl : Left ops ids L listed) {a b : Nat × GI} (h : pairOk ops ids a b = true) (hr : b.1 ∈ Region.ready .any ops listed) (ha : listed.getD a.1 false = false) : Indep a.2 b.2 := by
  simp only [pairOk, Bool.and_eq_true, Bool.or_eq_true, Bool.not_eq_true', beq_eq_false_iff_ne] at h
  obtain ⟨⟨⟨⟨h1, h2⟩, h3⟩, h4⟩, h5⟩ := h
  rcases h5 with ⟨h5, h6⟩ | ⟨h5, h6⟩
  · exact ⟨h1, h2, inL_no.1 h3, inL_no.1 h5, inL_no.1 h4, inL_no.1 h6⟩
  · have := desc_not hl hr (r := ids) (D := [a.1]) (fun i hi => by simp at hi; rw [hi]; exact ha) (inL_iff.1 h6)
    simp only [List.mem_cons, List.not_mem_nil, or_false] at this
    exact absurd this.symm h5
theorem grp_sound [EP e P] {G : List (Nat × GI)} {ids : List Nat} {rest : Nat} (hids : G.map (·.1) = ids) (hG : ∀ p ∈ G, GOk P owns e.n ops N p) (hpre : prefOk ops [] ids = true) (hlone : loneOk ops ids = true)
    (hpair : G.Pairwise fun a b => pairOk ops ids a b = true) (hK : ∀ σ τ, Same σ τ → K σ → K τ)
    (hrest : ∀ σ x a, SRel e σ x a → K σ → wpAnyK P ops Q calm rest (marks ops.size ids) a x.w) :
    ∀ (m : Nat) (L : List (Nat × GI)) (listed : Array Bool) (σ : St) (x : Cx) (a : Act), L.length = m → L.Sublist G → Left ops ids (L.map (·.1)) listed → SRel e σ x a →
      vcG P N (L.map (·.2)) σ K → (∀ p ∈ L, makesRow p.2.op = true → NoRef p.2.own σ) → wpAnyK P ops Q calm (m + rest) listed a x.w := by
  intro m
  induction m with
  | zero =>
    intro L listed σ x a hm hL hl h hk _
    have : L = [] := List.eq_nil_of_length_eq_zero hm
    subst this
    have hls : listed = marks ops.size ids := by
      refine Array.ext (by rw [hl.size, marks_size]) fun i h1 h2 => ?_
      have hi : i < ops.size := by rw [← hl.size]; exact h1
      have e1 := hl.at_ i hi
      have e2 := marks_get (l := ids) false hi
      simp only [List.map_nil, inL, Bool.not_false, Bool.and_true] at e1
      rw [Array.getD_eq_getD_getElem?, Array.getElem?_eq_getElem h1, Option.getD_some] at e1
      rw [Array.getD_eq_getD_getElem?, Array.getElem?_eq_getElem h2, Option.getD_some] at e2
      rw [e1, e2]
    rw [hls, Nat.zero_add]
    exact hrest σ x a h hk
  | succ m ih =>
    intro L listed σ x a hm hL hl h hk hn
    have hsub : ∀ p ∈ L, p ∈ G := fun p hp => hL.subset hp
    have hidL : ∀ i, i ∈ L.map (·.1) → i ∈ ids := fun i hi => by
      obtain ⟨p, hp, rfl⟩ := List.mem_map.1 hi
      rw [← hids]
      exact List.mem_map.2 ⟨p, hsub p hp, rfl⟩
    have hne : ∃ p, p ∈ L := by
      cases L with
      | nil => simp at hm
      | cons p _ => exact ⟨p, by simp⟩
    obtain ⟨p0, hp0⟩ := hne
    rw [show m + 1 + rest = (m + rest) + 1 by omega]
    refine ⟨fun h0 => ?_, fun j hj => ?_⟩
    · exfalso
      obtain ⟨pre, q, post, h1, h2, h3⟩ := first_in (G := G) (p := fun i => i ∈ L.map (·.1)) ⟨p0, hsub p0 hp0, List.mem_map.2 ⟨p0, hp0, rfl⟩⟩
      have hid : ids = pre.map (·.1) ++ q.1 :: post.map (·.1) := by rw [← hids, h1]; simp
      obtain ⟨pre', h4, h5⟩ := prefOk_at hpre hid
      have hq := ready_lt h5
      have : q.1 ∈ Region.ready .any ops listed := by
        refine ready_sub h5 (fun i hi => ?_) ?_
        · have hlt : i < ops.size := by
            refine Classical.byContradiction fun hlt => ?_
            rw [marks_out false hlt] at hi; cases hi
          rw [marks_get false hlt, inL_iff, h4] at hi
          rcases hi with hi | hi
          · cases hi
          · rw [hl.at_ i hlt, Bool.and_eq_true, inL_iff, Bool.not_eq_true', inL_no]
            refine ⟨by rw [hid]; exact List.mem_append_left _ hi, fun hin => ?_⟩
            obtain ⟨r, hr, e⟩ := List.mem_map.1 hi
            exact h3 r hr (by rw [e]; exact hin)
        · rw [hl.un hq, Bool.and_eq_false_iff]
          right
          rw [Bool.not_eq_false', inL_iff]
          exact h2
      rw [h0] at this
      cases this
    · have hjs := ready_lt hj
      have hjL : j ∈ L.map (·.1) := by
        refine Classical.byContradiction fun hjn => ?_
        have hh : p0.1 ∈ ids := hidL _ (List.mem_map.2 ⟨p0, hp0, rfl⟩)
        have hlo := List.all_eq_true.1 hlone _ hh
        have hun := (mem_ready.1 hj).1
        rw [hl.un hjs, inL_no.2 hjn, Bool.not_false, Bool.and_true] at hun
        have h0f : listed.getD p0.1 false = false := by
          obtain ⟨o, ho, _⟩ := (hG p0 (hsub p0 hp0)).is
          rw [hl.at_ _ (Array.getElem?_eq_some_iff.1 ho).1, Bool.and_eq_false_iff, Bool.not_eq_false', inL_iff]
          exact .inr (List.mem_map.2 ⟨p0, hp0, rfl⟩)
        have hde := desc_un hl (r := ids) (D := [p0.1]) (fun i hi => by simp at hi; rw [hi]; exact h0f)
        have hjr : j ∈ Region.ready .any ops (marks ops.size (notIn ids (descG ops ids [p0.1]))) := by
          refine ready_sub hj (fun i hi => ?_) ?_
          · have hlt := hl.lt hi
            have hi' := hi
            rw [hl.at_ i hlt, Bool.and_eq_true, inL_iff, Bool.not_eq_true', inL_no] at hi
            rw [marks_get false hlt, inL_iff, notIn_mem]
            exact ⟨hi.1, fun hc => by rw [hde i hc] at hi'; cases hi'⟩
          · rw [marks_get true hjs, inL_no, notIn_mem]
            exact fun hc => inL_no.1 hun hc.1
        have := List.all_eq_true.1 hlo j hjr
        rw [hun] at this
        cases this
      obtain ⟨pj, hpj, rfl⟩ := List.mem_map.1 hjL
      obtain ⟨L1, L2, rfl⟩ := List.append_of_mem hpj
      have hpw := List.Pairwise.sublist hL hpair
      rw [List.pairwise_append] at hpw
      obtain ⟨hpw1, hpw2, hpw3⟩ := hpw
      rw [List.pairwise_cons] at hpw2
      have hnd : ∀ p ∈ L1 ++ L2, p.1 ≠ pj.1 := by
        intro p hp e
        have key : ∀ {a b : Nat × GI}, pairOk ops ids a b = true → a ∈ G → b ∈ G → a.1 ≠ b.1 := by
          intro a b hab ha hb e
          obtain ⟨o, h1, h2⟩ := (hG a ha).is
          obtain ⟨o', h3, h4⟩ := (hG b hb).is
          rw [e, h3] at h1
          injection h1 with h1
          subst h1
          rw [h4] at h2
          injection h2 with h2
          injection h2 with h2
          injection h2 with h2
          simp only [pairOk, Bool.and_eq_true, Bool.not_eq_true', beq_eq_false_iff_ne] at hab
          exact hab.1.1.1.1 h2.symm
        rcases List.mem_append.1 hp with hp | hp
        · exact key (hpw3 p hp pj (by simp)) (hsub p (by simp [hp])) (hsub pj (by simp)) e
        · exact key (hpw2.1 p hp) (hsub pj (by simp)) (hsub p (by simp [hp])) e.symm
      have hind : ∀ p ∈ L1, Indep p.2 pj.2 := by
        intro p hp
        refine pair_indep hl (hpw3 p hp pj (by simp)) hj ?_
        obtain ⟨o, ho, _⟩ := (hG p (hsub p (by simp [hp]))).is
        rw [hl.at_ _ (Array.getElem?_eq_some_iff.1 ho).1, Bool.and_eq_false_iff, Bool.not_eq_false', inL_iff]
        exact .inr (List.mem_map.2 ⟨p, by simp [hp], rfl⟩)
      rw [List.map_append, List.map_cons] at hk
      have hk2 := vcG_front hK (fun i hi => by obtain ⟨p, hp, rfl⟩ := List.mem_map.1 hi; exact hind p hp) hk
      obtain ⟨E, h1, h2⟩ := hk2
      rw [← List.map_append] at h2
      have hg := hG pj (hsub pj (by simp))
      have h3 := effP_ext (norm_ext σ pj.2.U pj.2.R) hg.uses h1
      obtain ⟨o, ho, hinst⟩ := hg.is
      have hrow : ∀ r row, E.nr = some (r, row) → r = pj.2.own ∧ makesRow pj.2.op = true := fun r row hr => eff_own h3 hr
      have hno : ∀ r row, E.nr = some (r, row) → NoRef r σ := fun r row hr => by
        obtain ⟨rfl, hm⟩ := hrow r row hr
        exact hn pj (by simp) hm
      have hnew : ∀ p ∈ L1 ++ L2, makesRow p.2.op = true → NoRef p.2.own (σ.add pj.2.d (pj.2.out N) E) := by
        intro p hp hm
        have hpG : p ∈ L1 ++ pj :: L2 := by
          rcases List.mem_append.1 hp with hp | hp
          · simp [hp]
          · simp [hp]
        have hN := (hG p (hsub p hpG)).row hm
        have hff : pj.2.own ≠ p.2.own ∧ p.2.own ∉ pj.2.R := by
          rcases List.mem_append.1 hp with hp | hp
          · exact ⟨Ne.symm (hind p hp).own, (hind p hp).r'⟩
          · have := hpw2.1 p hp
            simp only [pairOk, Bool.and_eq_true, Bool.not_eq_true', beq_eq_false_iff_ne] at this
            exact ⟨this.1.1.1.2, inL_no.1 this.1.2⟩
        refine (hn p hpG hm).add ?_ fun r row hr => ?_
        · simp only [GI.out, Bool.and_eq_true, Bool.not_eq_true', beq_eq_false_iff_ne]
          exact ⟨hN, inL_no.2 hff.2, hff.1⟩
        · rw [(hrow r row hr).1]; exact hff.1
      have hleft : Left ops ids ((L1 ++ L2).map (·.1)) (listed.setIfInBounds pj.1 true) := by
        refine ⟨by simp [hl.size], fun i hi => ?_, fun k ok hok hk e he hb => ?_⟩
        rotate_left
        · by_cases hkj : k = pj.1
          · subst hkj
            obtain ⟨_, o', ho', hall⟩ := mem_ready.1 hj
            rw [hok] at ho'
            injection ho' with ho'
            subst ho'
            exact getD_set_true (hall e he hb)
          · rw [getD_set_ne false (Ne.symm hkj)] at hk
            exact getD_set_true (hl.down k ok hok hk e he hb)
        by_cases hij : pj.1 = i
        · subst hij
          have e1 : (listed.setIfInBounds pj.1 true).getD pj.1 false = true := by
            simp [Array.getD_eq_getD_getElem?, hl.size, hi]
          rw [e1]
          symm
          rw [Bool.and_eq_true, inL_iff, Bool.not_eq_true', inL_no]
          refine ⟨hidL _ (List.mem_map.2 ⟨pj, by simp, rfl⟩), fun hm => ?_⟩
          obtain ⟨p, hp, e⟩ := List.mem_map.1 hm
          exact hnd p hp e
        · rw [getD_set_ne false hij, hl.at_ i hi]
          congr 1
          congr 1
          rw [Bool.eq_iff_iff, inL_iff, inL_iff]
          simp only [List.map_append, List.map_cons, List.mem_append, List.mem_cons]
          constructor
          · rintro (h | h | h)
            · exact .inl h
            · exact absurd h.symm hij
            · exact .inr h
          · rintro (h | h)
            · exact .inl h
            · exact .inr (.inr h)
      have hLs : (L1 ++ L2).Sublist G := by
        refine List.Sublist.trans ?_ hL
        exact List.Sublist.append (List.Sublist.refl _) (List.sublist_cons_self _ _)
      have hlen : (L1 ++ L2).length = m := by
        simp only [List.length_append, List.length_cons] at hm ⊢
        omega
      have step : ∀ a' w', (Agr x.w w' ∧ Behind P e [] (fun σ' => ∀ e y a, SRel e σ' y a → SRel e (σ.app pj.2.d E) y a) a' w') → (calm pj.1 = true → Agr x.w w') ∧ wpAnyK P ops Q calm (m + rest) (listed.setIfInBounds pj.1 true) a' w' := by
        rintro a' w' ⟨g1, σ', y, g2, rfl, g3⟩
        exact ⟨fun _ => g1, ih _ _ _ y a' hlen hLs hleft ((g3 e y a' g2).add hno) h2 hnew⟩
      have hv := inst_calm (Q := Q) hinst (eff_kind h3) h (eff_vc h3)
      unfold wpOp
      simp only [ho]
      split
      · rename_i hw
        rw [if_pos hw] at hv
        exact .inl (Oper.wp_mono step hv)
      · rename_i hw
        rw [if_neg hw] at hv
        exact step _ _ hv
end
end Go.Vc

namespace Go.Vc
open Go.RowKit

/-! ## A group's conditions, as they are laid out -/
def stepU (P : Program) (i : GI) (A : St) (k : Eff → Prop) : Prop := match i.g, i.op with
  | none, .q q => q.pre A ∧ k ⟨q.val A, none⟩
  | some (t, b), .q q => (frGet A.fr t).gok ∧ ((frGet A.fr t).gv b = true → q.pre A) ∧ k ⟨.whn ((frGet A.fr t).gv b) (q.val A), none⟩
  | none, .alloc z => k ⟨.ptr i.d 0, some (i.d, .box (AV.clips (only i.d) z))⟩
  | none, .box x => x.cd A = true ∧ okc (x.sv A) = true ∧ k ⟨.ptr i.d 0, some (i.d, .box (AV.clips (only i.d) (x.sv A).cells))⟩
  | none, .lits xs s => (cds A xs = true ∧ allOk (evs A xs) = true ∧ allW s (evs A xs) ∧ xs.length * s ≤ 16777216) ∧ k ⟨mkLit (evs A xs), none⟩
  | none, .mks l c s bytes z => (l.cd A = true ∧ c.cd A = true ∧ isInt (l.sv A) ∧ isInt (c.sv A) ∧ 0 ≤ intV (l.sv A) ∧ intV (l.sv A) ≤ intV (c.sv A) ∧ (bytes : Int) * intV (c.sv A) ≤ 281474976710656 ∧ intV (c.sv A) ≤ 9223372036854775807) ∧ k ⟨.row i.d 0 (intV (l.sv A)).toNat, some (i.d, .sl s (List.replicate (intV (l.sv A)).toNat z))⟩
  | none, .call f args => (f.cd A = true ∧ cds A args = true) ∧ match callArgs A f args with
    | some (g, ps, pure) => CallVC P g ps pure (fun v rs => k (effAfter i.d v rs))
    | none => False
  | some (t, b), .call f args => (frGet A.fr t).gok ∧ ((frGet A.fr t).gv b = true → f.cd A = true ∧ cds A args = true) ∧ match callArgs A f args with
    | some (h, ps, pure) => CallGd P ((frGet A.fr t).gv b) h ps pure (fun p => k ⟨.whn ((frGet A.fr t).gv b) (.pv p), none⟩)
    | none => False
  | _, _ => False
def vcU (P : Program) (N : List Nat) : List GI → St → (St → Prop) → Prop
  | [], σ, K => K σ
  | i :: L, σ, K => stepU P i (σ.norm i.U i.R) (fun E => vcU P N L (σ.add i.d (i.out N) E) K)
theorem stepU_eff {P : Program} {i : GI} {A : St} {k : Eff → Prop} (h : stepU P i A k) : ∃ E, effP P A i.d i.g i.op E ∧ k E := by
  obtain ⟨d, g, op, U, R⟩ := i
  unfold stepU at h
  simp only at h ⊢
  split at h
  · exact ⟨_, ⟨h.1, rfl⟩, h.2⟩
  · exact ⟨_, ⟨h.1, _, fun hb => ⟨h.2.1 hb, rfl⟩, rfl⟩, h.2.2⟩
  · exact ⟨_, rfl, h⟩
  · exact ⟨_, ⟨h.1, h.2.1, rfl⟩, h.2.2⟩
  · exact ⟨_, ⟨h.1, rfl⟩, h.2⟩
  · exact ⟨_, ⟨h.1, rfl⟩, h.2⟩
  · obtain ⟨h1, h2⟩ := h
    split at h2
    · rename_i gg ps pure hca
      obtain ⟨v, rs, h3, h4, h5, h6⟩ := h2
      exact ⟨_, ⟨h1, gg, ps, pure, v, rs, hca, h3, h4, h5, rfl⟩, h6⟩
    · exact h2.elim
  · obtain ⟨h0, h1, h2⟩ := h
    split at h2
    · rename_i gg ps pure hca
      obtain ⟨p, h3, h4⟩ := h2
      exact ⟨_, ⟨h0, h1, gg, ps, pure, p, hca, h3, rfl⟩, h4⟩
    · exact h2.elim
  · exact h.elim
theorem vcU_vcG {P : Program} {N : List Nat} {K : St → Prop} : ∀ {L : List GI} {σ : St}, vcU P N L σ K → vcG P N L σ K
  | [], _, h => h
  | i :: L, σ, h => by
    obtain ⟨E, h1, h2⟩ := stepU_eff h
    exact ⟨E, h1, vcU_vcG h2⟩

/-- a group: the names of its rows, its operations, what is kept of it -/
structure RG where
  N : List Nat
  ops : List (Nat × List Nat × List Nat)
  keep : List Nat
  rows : List Nat
  deriving Inhabited
/-- what the text of a function tells beside its code -/
structure RD where
  keep : List Nat
  rows : List Nat
  steps : List (Nat × Nat)
  calm : Nat
  virt : List (Nat × Nat × Nat)
  grp : Option RG
  deriving Inhabited

def rdOf : List (Nat × RD) → Nat → RD
  | [], _ => default
  | (k, d) :: r, id => if k == id then d else rdOf r id

def ofCode (P : Program) (owns : List Nat) (n : Nat) (rd : List (Nat × RD)) : Code → Option MC
  | .skip => some .skip
  | .region id ops false => match instsOf P owns n ops ops.toList with
    | some is => some (.reg is (rdOf rd id).virt (rdOf rd id).keep (rdOf rd id).rows)
    | none => some .bad
  | .region id ops true => match (rdOf rd id).grp with
    | none => if Region.noSelect ops && (rdOf rd id).steps.length == ops.size then match plan P owns n ops (rdOf rd id).calm (rdOf rd id).steps (Array.replicate ops.size false) with
        | some is => some (.reg is (rdOf rd id).virt (rdOf rd id).keep (rdOf rd id).rows)
        | none => none
      else none
    | some G => if Region.noSelect ops && (rdOf rd id).steps.length + G.ops.length == ops.size then
        match groupOf P owns n ops G.N G.ops, plan P owns n ops (rdOf rd id).calm (rdOf rd id).steps (marks ops.size (G.ops.map (·.1))) with
        | some l, some is => some (.seq (.grp G.N (l.map (·.2)) G.keep G.rows) (.reg is (rdOf rd id).virt (rdOf rd id).keep (rdOf rd id).rows))
        | _, _ => none
      else none
  | .seq a b => match ofCode P owns n rd a, ofCode P owns n rd b with
    | some a, some b => some (.seq a b)
    | _, _ => none
  | .cond c a b => match Opd.of c, ofCode P owns n rd a, ofCode P owns n rd b with
    | some c, some a, some b => some (.cond c a b)
    | _, _, _ => none
  | .block id b => match ofCode P owns n rd b with
    | some b => some (.block id b)
    | none => none
  | .loop b => match ofCode P owns n rd b with
    | some b => some (.loop b)
    | none => none
  | .exit id => some (.exit id)
  | .ret => some .ret
  | _ => none

def thenK (next : St → Prop) (K : Exit → St → Prop) : Exit → St → Prop
  | .normal, σ => next σ
  | ex, σ => K ex σ
def blockK (id : Nat) (K : Exit → St → Prop) : Exit → St → Prop
  | .exit i, σ => if i = id then K .normal σ else K (.exit i) σ
  | ex, σ => K ex σ

/-- whatever the first state tells, the second tells no more -/
def Weak (σ σ' : St) : Prop := ∀ (e : Env) (x : Cx) (a : Act), SRel e σ x a → ∃ y : Cx, y.w = x.w ∧ SRel e σ' y a
theorem Weak.refl (σ : St) : Weak σ σ := fun _ x _ h => ⟨x, rfl, h⟩
theorem Weak.trans {σ σ' σ'' : St} (h : Weak σ σ') (h2 : Weak σ' σ'') : Weak σ σ'' := fun e x a hs =>
  let ⟨y, h3, h4⟩ := h e x a hs
  let ⟨z, h5, h6⟩ := h2 e y a h4
  ⟨z, h5.trans h3, h6⟩
theorem Weak.norm (σ : St) (keep rows : List Nat) : Weak σ (σ.norm keep rows) := fun e x _ h => ⟨⟨x.w, fun b => e.F0 b ∨ Own (σ.norm keep rows).st x.ρ b, x.ρ⟩, rfl, h.norm keep rows⟩
def MC.vc (P : Program) : MC → (Exit → St → Prop) → St → Prop
  | .skip, K, σ => K .normal σ
  | .bad, _, _ => False
  | .reg l vs keep rows, K, σ => vcOps P l σ (fun σ' => K .normal ((σ'.virts vs).norm keep rows))
  | .grp N l keep rows, K, σ => vcU P N l (σ.strip N) (fun σ' => K .normal (σ'.norm keep rows))
  | .seq a b, K, σ => a.vc P (thenK (b.vc P K) K) σ
  | .cond c a b, K, σ => ∃ t, c.ev σ = vbool t ∧ (t = true → a.vc P K σ) ∧ (t = false → b.vc P K σ)
  | .block id b, K, σ => b.vc P (blockK id K) σ
  | .loop b, K, σ => ∃ (T : Type) (I : T → St) (W : St → T → Prop) (G : T → Prop) (μ : T → Nat) (t₀ : T), (∀ σ t, W σ t → Weak σ (I t)) ∧ W σ t₀ ∧ G t₀ ∧ ∀ t, G t → b.vc P (thenK (fun σ' => ∃ t', W σ' t' ∧ G t' ∧ μ t' < μ t) K) (I t)
  | .exit id, K, σ => K (.exit id) σ
  | .ret, K, σ => K .ret σ

/-- the same of the machine's states -/
def Qof (e : Env) (K : Exit → St → Prop) : Exit → Act → World → Prop
  | .normal, a, w => ∃ σ y, SRel e σ y a ∧ y.w = w ∧ K .normal σ
  | .exit id, a, w => ∃ σ y, SRel e σ y a ∧ y.w = w ∧ K (.exit id) σ
  | .ret, a, w => ∃ σ y, SRel e σ y a ∧ y.w = w ∧ K .ret σ
  | _, _, _ => False

theorem MC.sound {P : Program} {e : Env} [EP e P] {owns : List Nat} {rd : List (Nat × RD)} (hm : P.follows .mixedOrders = true) : ∀ (c : Code) (m : MC), ofCode P owns e.n rd c = some m → ∀ (K : Exit → St → Prop) (σ : St) (x : Cx) (a : Act),
    SRel e σ x a → m.vc P K σ → c.wp P (Qof e K) a x.w
  | .skip, m, hc, K, σ, x, a, h, hk => by
    simp only [ofCode, Option.some.injEq] at hc; subst hc
    exact wp_skip ⟨σ, x, h, rfl, hk⟩
  | .region id ops false, m, hc, K, σ, x, a, h, hk => by
    simp only [ofCode] at hc
    split at hc
    · rename_i is his
      injection hc with hc; subst hc
      simp only [MC.vc] at hk
      exact wp_region_list (list_sound (fun a' w' σ' y g1 g2 g3 => let ⟨z, k1, k2⟩ := g1.virts (rdOf rd id).virt; ⟨_, _, k2.norm _ _, k1.trans g2, g3⟩) _ is σ x a his h hk)
    · injection hc with hc; subst hc
      simp only [MC.vc] at hk
  | .region id ops true, m, hc, K, σ, x, a, h, hk => by
    simp only [ofCode] at hc
    split at hc
    · split at hc
      · rename_i hg
        simp only [Bool.and_eq_true, beq_iff_eq] at hg
        split at hc
        · rename_i is his
          injection hc with hc; subst hc
          simp only [MC.vc] at hk
          have h' := h.ext (w' := { x.w with drawn := x.w.drawn + 1 }) ⟨rfl, rfl, rfl, Nat.le_refl _, fun _ _ => rfl, Nat.le_succ _⟩
          refine wp_region_any hm (wpAny_of_K _ _ _ _ (calm := ((rdOf rd id).calm).testBit) ?_)
          have := wpAnyK_of_S _ _ _ _ (plan_sound (Q := Qof e K) (K := fun σ' => K .normal ((σ'.virts (rdOf rd id).virt).norm (rdOf rd id).keep (rdOf rd id).rows)) hg.1 (fun c a w hq => hq) _ is _ e inferInstance (fun _ => True) σ _ a (fun a' w' σ' y g1 g2 g3 => let ⟨z, k1, k2⟩ := g1.virts (rdOf rd id).virt; ⟨_, _, k2.norm _ _, k1.trans g2, g3⟩) (fun _ _ _ _ => trivial) his h' hk)
          rw [hg.2] at this
          exact this
        · cases hc
      · cases hc
    · rename_i G hG
      split at hc
      · rename_i hg
        simp only [Bool.and_eq_true, beq_iff_eq] at hg
        split at hc
        · rename_i l is hl his
          injection hc with hc; subst hc
          simp only [MC.vc, thenK] at hk
          have h' := h.ext (w' := { x.w with drawn := x.w.drawn + 1 }) ⟨rfl, rfl, rfl, Nat.le_refl _, fun _ _ => rfl, Nat.le_succ _⟩
          refine wp_region_any hm (wpAny_of_K _ _ _ _ (calm := ((rdOf rd id).calm).testBit) ?_)
          unfold groupOf at hl
          split at hl
          · rename_i G0 hG0
            split at hl
            · rename_i hck
              injection hl with hl; subst hl
              simp only [Bool.and_eq_true] at hck
              obtain ⟨hids, hok⟩ := gisOf_ok hG0
              obtain ⟨y, hyw, hs⟩ := h'.strip G.N
              have hlen : ops.size = G0.length + (rdOf rd id).steps.length := by
                have := congrArg List.length hids
                simp only [List.length_map] at this
                rw [this]
                have := hg.2
                omega
              rw [hlen]
              have := grp_sound (P := P) (owns := owns) (ops := ops) (N := G.N) (e := e) (Q := Qof e K) (calm := ((rdOf rd id).calm).testBit) (ids := G.ops.map (·.1)) (rest := (rdOf rd id).steps.length)
                (K := fun σ' => vcOps P is (σ'.norm G.keep G.rows) (fun σ'' => K .normal ((σ''.virts (rdOf rd id).virt).norm (rdOf rd id).keep (rdOf rd id).rows)))
                hids hok hck.1.1 hck.1.2 (pairsOk_pw hck.2) (fun σ1 τ1 hst hk1 => by rw [← hst.norm]; exact hk1)
                (fun σ1 x1 a1 hs1 hk1 => wpAnyK_of_S _ _ _ _ (plan_sound (Q := Qof e K) (K := fun σ' => K .normal ((σ'.virts (rdOf rd id).virt).norm (rdOf rd id).keep (rdOf rd id).rows)) hg.1 (fun c a w hq => hq)
                  _ is _ e inferInstance (fun _ => True) (σ1.norm G.keep G.rows) ⟨x1.w, fun b => e.F0 b ∨ Own (σ1.norm G.keep G.rows).st x1.ρ b, x1.ρ⟩ a1 (fun a' w' σ' y g1 g2 g3 => let ⟨z, k1, k2⟩ := g1.virts (rdOf rd id).virt; ⟨_, _, k2.norm _ _, k1.trans g2, g3⟩) (fun _ _ _ _ => trivial) his (hs1.norm G.keep G.rows) hk1))
                G0.length G0 (Array.replicate ops.size false) (σ.strip G.N) y a rfl (List.Sublist.refl _)
                ⟨by simp, fun i hi => by
                  have : (Array.replicate ops.size false).getD i false = false := by simp [Array.getD_eq_getD_getElem?, hi]
                  rw [this, hids]
                  cases inL (G.ops.map (·.1)) i <;> rfl, fun k o _ hk => by
                  have : (Array.replicate ops.size false).getD k false = false := by
                    simp only [Array.getD_eq_getD_getElem?, Array.getElem?_replicate]
                    split <;> rfl
                  rw [this] at hk; cases hk⟩ hs (vcU_vcG hk) (fun p hp hm => strip_noref ((hok p hp).row hm))
              rw [hyw] at this
              rw [← hlen] at this ⊢
              exact this
            · cases hl
          · cases hl
        · cases hc
      · cases hc
  | .seq c d, m, hc, K, σ, x, a, h, hk => by
    simp only [ofCode] at hc
    split at hc
    · rename_i m1 m2 h1 h2
      injection hc with hc; subst hc
      simp only [MC.vc] at hk
      refine wp_seq (wp_mono (MC.sound hm c m1 h1 _ σ x a h hk) fun ex a' w' hq => ?_)
      cases ex with
      | normal =>
        obtain ⟨σ', y, g1, g2, g3⟩ := hq
        rw [← g2]
        exact MC.sound hm d m2 h2 K σ' y a' g1 g3
      | _ => exact hq
    · cases hc
  | .cond q c d, m, hc, K, σ, x, a, h, hk => by
    simp only [ofCode] at hc
    split at hc
    · rename_i z m1 m2 hz h1 h2
      injection hc with hc; subst hc
      simp only [MC.vc] at hk
      obtain ⟨t, k1, k2, k3⟩ := hk
      have hv := Opd.of_ev h hz
      rw [k1] at hv
      have hv' : a.eval q = .bool t := by simpa only [vbool, VRel, PRel] using hv
      exact wp_cond_split hv' (fun ht => MC.sound hm c m1 h1 K σ x a h (k2 ht)) (fun ht => MC.sound hm d m2 h2 K σ x a h (k3 ht))
    · cases hc
  | .block id c, m, hc, K, σ, x, a, h, hk => by
    simp only [ofCode] at hc
    split at hc
    · rename_i m1 h1
      injection hc with hc; subst hc
      simp only [MC.vc] at hk
      refine wp_block (wp_mono (MC.sound hm c m1 h1 _ σ x a h hk) fun ex a' w' hq => ?_)
      cases ex with
      | exit i =>
        obtain ⟨σ', y, g1, g2, g3⟩ := hq
        simp only [blockK] at g3
        simp only [Exit.inBlock]
        split
        · rename_i hi; rw [if_pos hi] at g3; exact ⟨σ', y, g1, g2, g3⟩
        · rename_i hi; rw [if_neg hi] at g3; exact ⟨σ', y, g1, g2, g3⟩
      | _ => exact hq
    · cases hc
  | .loop c, m, hc, K, σ, x, a, h, hk => by
    simp only [ofCode] at hc
    split at hc
    · rename_i m1 h1
      injection hc with hc; subst hc
      simp only [MC.vc] at hk
      obtain ⟨T, I, W, G, μ, t₀, k0, k1, k2, k3⟩ := hk
      obtain ⟨y0, hy0, hs0⟩ := k0 _ _ k1 e x a h
      have rounds : ∀ (n : Nat) (t : T), μ t < n → G t → ∀ (y : Cx) (a' : Act), SRel e (I t) y a' → Code.rounds P c (Qof e K) n a' y.w := by
        intro n
        induction n with
        | zero => intro t hlt; omega
        | succ n ih =>
          intro t hlt hg y a' hs
          rw [rounds_succ]
          refine wp_mono (MC.sound hm c m1 h1 _ (I t) y a' hs (k3 t hg)) fun ex a'' w'' hq => ?_
          cases ex with
          | normal =>
            obtain ⟨σ', z, g1, g2, t', g3, g4, g5⟩ := hq
            obtain ⟨z2, hz2, hs2⟩ := k0 _ _ g3 e z a'' g1
            rw [← g2, ← hz2]
            exact ih t' (by omega) g4 z2 a'' hs2
          | _ => exact hq
      rw [← hy0]
      exact wp_loop_rounds (μ t₀ + 1) (rounds _ t₀ (by omega) k2 y0 a hs0)
    · cases hc
  | .exit id, m, hc, K, σ, x, a, h, hk => by
    simp only [ofCode, Option.some.injEq] at hc; subst hc
    exact wp_exit ⟨σ, x, h, rfl, hk⟩
  | .ret, m, hc, K, σ, x, a, h, hk => by
    simp only [ofCode, Option.some.injEq] at hc; subst hc
    exact wp_ret ⟨σ, x, h, rfl, hk⟩
  | .rangeFunc _ _ _ _, _, hc, _, _, _, _, _, _ | .scope _, _, hc, _, _, _, _, _, _ | .label _, _, hc, _, _, _, _, _, _ | .goto _, _, hc, _, _, _, _, _, _ | .refuse _, _, hc, _, _, _, _, _, _ => by
    simp [ofCode] at hc
end Go.Vc

namespace Go.Vc
open Go.RowKit

/-! ## Functions -/
section
variable {e : Env} {σ : St} {x : Cx} {a : Act}

theorem PRel.less {w : World} {F G : Nat → Prop} (hG : ∀ b, G b → F b) {p : PV} {v : Value} (h : PRel w F p v) : PRel w G p v :=
  PRel.kept (x := ⟨w, F, fun _ => default⟩) (y := ⟨w, G, fun _ => default⟩) ⟨Nat.le_refl _, fun _ _ _ => rfl, fun b _ h => hG b h⟩ p h
theorem PElems.less {w : World} {F G : Nat → Prop} (hG : ∀ b, G b → F b) {ps : List PV} {b o' : Nat} (h : PElems w F ps b o') : PElems w G ps b o' :=
  PElems.kept (x := ⟨w, F, fun _ => default⟩) (y := ⟨w, G, fun _ => default⟩) ⟨Nat.le_refl _, fun _ _ _ => rfl, fun b _ h => hG b h⟩ ps (fun h => h) h
theorem PCells.less {w : World} {F G : Nat → Prop} (hG : ∀ b, G b → F b) {ps : List PV} {b o' : Nat} (h : PCells w F ps b o') : PCells w G ps b o' :=
  PCells.kept (x := ⟨w, F, fun _ => default⟩) (y := ⟨w, G, fun _ => default⟩) ⟨Nat.le_refl _, fun _ _ _ => rfl, fun b _ h => hG b h⟩ ps (fun h => h) h

theorem snapL_relG {G : Nat → Prop} {g : AV → Option PV} (hg : ∀ v p cv, g v = some p → VRel x v cv → PRel x.w G p cv) : ∀ {vs : List AV} {ps : List PV} {cvs : List Value}, snapL g vs = some ps → VRels x vs cvs → PRels x.w G ps cvs
  | [], _, _, h, hv => by simp only [snapL, Option.some.injEq] at h; subst h; simpa only [VRels, PRels] using hv
  | v :: vs, ps, cvs, h, hv => by
    simp only [snapL] at h
    split at h
    · rename_i p qs h1 h2
      injection h with h; subst h
      simp only [VRels] at hv
      obtain ⟨c, r, rfl, h3, h4⟩ := hv
      simp only [PRels]
      exact ⟨c, r, rfl, hg _ _ _ h1 h3, snapL_relG hg h2 h4⟩
    · cases h

theorem snap_relG (h : SRel e σ x a) {st : List (Nat × Row)} {G : Nat → Prop} (hsub : ∀ r row, (r, row) ∈ st → (r, row) ∈ σ.st) (hG : ∀ b, G b → x.F b)
    (hst : ∀ r row, (r, row) ∈ st → (x.ρ r).ok = true → ¬ G (x.ρ r).blk) : ∀ (k : Nat) (v : AV) (p : PV) (cv : Value), snap st k v = some p → VRel x v cv → PRel x.w G p cv
  | 0, v, p, cv, hs, _ => by simp [snap] at hs
  | k + 1, v, p, cv, hs, hv => by
    have ih : ∀ {vs : List AV} {ps : List PV} {cvs : List Value}, snapL (snap st k) vs = some ps → VRels x vs cvs → PRels x.w G ps cvs := fun h1 h2 => snapL_relG (x := x) (g := snap st k) (fun v p cv h1 h2 => snap_relG h hsub hG hst k v p cv h1 h2) h1 h2
    unfold snap at hs
    split at hs
    · injection hs with hs; subst hs; simp only [VRel] at hv; exact hv.less hG
    · injection hs with hs; subst hs
      simp only [VRel] at hv
      obtain ⟨ad, rfl⟩ := hv
      simp only [PRel]
      exact ⟨ad, 0, 0, rfl, rfl, Nat.le_refl _, fun hn => absurd hn (by omega)⟩
    · split at hs
      · rename_i ps hps
        injection hs with hs; subst hs
        simp only [VRel] at hv
        obtain ⟨vs, rfl, hv⟩ := hv
        simp only [PRel]
        exact ⟨vs, rfl, ih hps hv⟩
      · cases hs
    · split at hs
      · rename_i ps hps
        injection hs with hs; subst hs
        simp only [VRel] at hv
        obtain ⟨vs, rfl, hv⟩ := hv
        simp only [PRel]
        exact ⟨vs, rfl, ih hps hv⟩
      · cases hs
    · split at hs
      · rename_i ps hps
        injection hs with hs; subst hs
        simp only [VRel] at hv
        obtain ⟨vs, rfl, hv⟩ := hv
        simp only [PRel]
        exact ⟨vs, rfl, ih hps hv⟩
      · cases hs
    · rename_i r off n
      split at hs
      · rename_i s xs hr
        injection hs with hs; subst hs
        have hm := stGet_mem hr
        have h1 := h.st r _ (hsub _ _ hm)
        simp only [Row.rel] at h1
        simp only [VRel] at hv
        simp only [PRel]
        rcases hv with ⟨rfl, _, ad, rfl⟩ | ⟨c, hok, rfl, h2, h3, h4⟩
        · exact ⟨ad, 0, 0, rfl, by simp, Nat.le_refl _, fun hn => absurd hn (by omega)⟩
        · rcases h1 with ⟨h1, _⟩ | ⟨hs, _, ⟨hln, _⟩, hwf, ⟨arr, et, hh, _⟩, hE⟩
          · rw [h1] at hok; cases hok
          · rw [hln] at h4
            refine ⟨_, n, c, rfl, by rw [List.length_take, List.length_drop]; omega, h2, fun _ => ⟨_, _, rfl, (Array.getElem?_eq_some_iff.1 hh).1, hst r _ hm hok, ?_⟩⟩
            rw [hs]
            exact ((hE.drop off (fun p hp => (hwf p hp).1) (by omega)).take n).less hG
      · cases hs
    · rename_i r
      split at hs
      · rename_i cs hr
        split at hs
        · rename_i ps hps
          injection hs with hs; subst hs
          have hm := stGet_mem hr
          have h1 := h.st r _ (hsub _ _ hm)
          simp only [Row.rel] at h1
          obtain ⟨hok, ⟨arr, et, hh, _⟩, hc⟩ := h1
          simp only [VRel] at hv
          subst hv
          simp only [PRel]
          obtain ⟨vs, h2, h3⟩ := hc.list
          exact ⟨_, _, rfl, (Array.getElem?_eq_some_iff.1 hh).1, hst r _ hm hok, PCells.of (ih hps h2) h3⟩
        · cases hs
      · cases hs
    · injection hs with hs; subst hs
      simp only [VRel] at hv
      obtain ⟨b, o', rfl, h1, h2, h3⟩ := hv
      simp only [PRel]
      exact ⟨b, o', rfl, h1, fun h => h2 (hG _ h), h3.less hG⟩
    · cases hs

/-! ### what a function leaves behind -/
inductive RV where
  | tmp (t : Nat)
  | cell (t n : Nat) (agg : Bool)
def rvsOf (P : Program) : List ResultVar → Option (List RV)
  | [] => some []
  | .tmp t :: r => match rvsOf P r with
    | some qs => some (.tmp t :: qs)
    | none => none
  | .cell t ty :: r => match rvsOf P r, P.underlying ty, P.info? ty with
    | some qs, some _, some i => some (.cell t i.size (aggOf P ty) :: qs)
    | _, _, _ => none
def resAV (σ : St) : List RV → Option (List AV)
  | [] => some []
  | .tmp t :: r => match resAV σ r with
    | some vs => some (frGet σ.fr t :: vs)
    | none => none
  | .cell t n agg :: r => match resAV σ r, frGet σ.fr t with
    | some vs, .ptr row 0 => match stGet σ.st row with
      | some (.box cs) => if cs.length = n ∧ (agg = true ∨ n = 1) then some (acut cs 0 n agg :: vs) else none
      | _ => none
    | _, _ => none

def stDels (st : List (Nat × Row)) : List Nat → List (Nat × Row)
  | [] => st
  | r :: rs => stDel (stDels st rs) r
def outAV (st : List (Nat × Row)) (ids : List Nat) : AV → Option AV
  | .row r off n => match ids.idxOf? r with
    | some i => some (.row i off n)
    | none => match snap (stDels st ids) 5 (.row r off n) with
      | some p => some (.pv p)
      | none => none
  | v => match snap (stDels st ids) 5 v with
    | some p => some (.pv p)
    | none => none
def outAVs (st : List (Nat × Row)) (ids : List Nat) : List AV → Option (List AV)
  | [] => some []
  | v :: vs => match outAV st ids v, outAVs st ids vs with
    | some u, some us => some (u :: us)
    | _, _ => none
def outRows (st : List (Nat × Row)) : List Nat → Option (List (Nat × List PV))
  | [] => some []
  | r :: rs => match stGet st r, outRows st rs with
    | some (.sl s xs), some us => some ((s, xs) :: us)
    | _, _ => none
def packTup : List AV → AV
  | [v] => v
  | vs => .tup vs
def packAV (vs : List AV) : AV := match allPv vs with
  | some ps => (match ps with
    | [p] => .pv p
    | ps => .pv (.tup ps))
  | none => packTup vs

/-- the rows of the results that are to be handed over -/
def idsOf : List Bool → List AV → List Nat
  | true :: hs, .row r _ _ :: us => r :: idsOf hs us
  | _ :: hs, _ :: us => idsOf hs us
  | _, _ => []
/-- the end of a function: these rows are handed over, all else as values -/
def RetOk (rvs : List RV) (ids : List Bool) (v : AV) (rs : List (Nat × List PV)) (σ : St) : Prop :=
  match resAV σ rvs with
  | some us => match outAVs σ.st (idsOf ids us) us with
    | some vs => (idsOf ids us).Nodup ∧ outRows σ.st (idsOf ids us) = some rs ∧ packAV vs = v
    | none => False
  | none => False
def retK (rvs : List RV) (ids : List Bool) (v : AV) (rs : List (Nat × List PV)) : Exit → St → Prop
  | .normal, σ => RetOk rvs ids v rs σ
  | .ret, σ => RetOk rvs ids v rs σ
  | _, _ => False
def entry : Nat → List PV → List (Nat × AV)
  | _, [] => []
  | i, p :: ps => (i, .pv p) :: entry (i + 1) ps

theorem stDels_mem {st : List (Nat × Row)} : ∀ {ids : List Nat} {r : Nat} {row : Row}, (r, row) ∈ stDels st ids → (r, row) ∈ st ∧ r ∉ ids
  | [], _, _, h => ⟨h, by simp⟩
  | i :: ids, r, row, h => by
    simp only [stDels] at h
    obtain ⟨h1, h2⟩ := stDel_mem h
    obtain ⟨h3, h4⟩ := stDels_mem h1
    exact ⟨h3, by simp [h2, h4]⟩

theorem outRows_at {st : List (Nat × Row)} : ∀ {ids : List Nat} {rs : List (Nat × List PV)}, outRows st ids = some rs → rs.length = ids.length ∧ ∀ i r : Nat, ids[i]? = some r → ∃ (s : Nat) (xs : List PV), rs[i]? = some (s, xs) ∧ (r, Row.sl s xs) ∈ st
  | [], rs, h => by simp only [outRows, Option.some.injEq] at h; subst h; exact ⟨rfl, fun i r hi => by simp at hi⟩
  | q :: ids, rs, h => by
    simp only [outRows] at h
    split at h
    · rename_i s xs us h1 h2
      injection h with h; subst h
      obtain ⟨g1, g2⟩ := outRows_at h2
      refine ⟨by simp [g1], fun i r hi => ?_⟩
      cases i with
      | zero =>
        simp only [List.getElem?_cons_zero, Option.some.injEq] at hi
        subst hi
        exact ⟨s, xs, rfl, stGet_mem h1⟩
      | succ i => simpa using g2 i r (by simpa using hi)
    · cases h

theorem packAV_rel {y : Cx} {vs : List AV} {cvs : List Value} (h : VRels y vs cvs) :
    VRel y (packAV vs) (if h : (⟨cvs⟩ : Array Value).size = 1 then (⟨cvs⟩ : Array Value)[0] else .tuple ⟨cvs⟩) := by
  have tup : VRel y (packTup vs) (if h : (⟨cvs⟩ : Array Value).size = 1 then (⟨cvs⟩ : Array Value)[0] else .tuple ⟨cvs⟩) := by
    match vs, h with
    | [], h =>
      simp only [VRels] at h; subst h
      simp [packTup, VRel, VRels]
    | [v], h =>
      simp only [VRels] at h
      obtain ⟨c, r, rfl, h1, rfl⟩ := h
      simpa [packTup] using h1
    | v :: v' :: vs, h =>
      have h' := h
      simp only [VRels] at h
      obtain ⟨c, r, rfl, h1, c', r', rfl, h2, h3⟩ := h
      simp only [packTup, List.size_toArray, List.length_cons]
      rw [dif_neg (by omega)]
      simp only [VRel]
      exact ⟨_, rfl, h'⟩
  unfold packAV
  cases hp : allPv vs with
  | none => simpa only [hp] using tup
  | some ps =>
    have hps := allPv_rel hp h
    match ps, hps with
    | [], hps =>
      simp only [PRels] at hps; subst hps
      simp [VRel, PRel, PRels]
    | [v], hps =>
      simp only [PRels] at hps
      obtain ⟨c, r, rfl, h1, rfl⟩ := hps
      simpa [VRel] using h1
    | v :: v' :: ps, hps =>
      have h' := hps
      simp only [PRels] at hps
      obtain ⟨c, r, rfl, h1, c', r', rfl, h2, h3⟩ := hps
      simp only [List.size_toArray, List.length_cons]
      rw [dif_neg (by omega)]
      simp only [VRel, PRel]
      exact ⟨_, rfl, h'⟩

theorem outAVs_rel (h : SRel e σ x a) {ids : List Nat} {y : Cx} (hw : y.w = x.w) (hρ : ∀ i r : Nat, ids[i]? = some r → y.ρ i = x.ρ r) (hF : ∀ b, y.F b → x.F b)
    (hst : ∀ r row, (r, row) ∈ stDels σ.st ids → (x.ρ r).ok = true → ¬ y.F (x.ρ r).blk) : ∀ {us vs : List AV} {cvs : List Value}, outAVs σ.st ids us = some vs → VRels x us cvs → VRels y vs cvs
  | [], vs, cvs, ho, hv => by
    simp only [outAVs, Option.some.injEq] at ho; subst ho
    simpa only [VRels] using hv
  | u :: us, vs, cvs, ho, hv => by
    simp only [outAVs] at ho
    split at ho
    · rename_i v vs' h1 h2
      injection ho with ho; subst ho
      simp only [VRels] at hv ⊢
      obtain ⟨c, r, rfl, h3, h4⟩ := hv
      refine ⟨c, r, rfl, ?_, outAVs_rel h hw hρ hF hst h2 h4⟩
      have sn : ∀ {v : AV} {p : PV}, snap (stDels σ.st ids) 5 v = some p → VRel x v c → VRel y (.pv p) c := fun hs hv => by
        simp only [VRel]
        rw [hw]
        exact snap_relG h (fun r row hm => (stDels_mem hm).1) hF hst 5 _ _ _ hs hv
      unfold outAV at h1
      split at h1
      · rename_i q off n
        split at h1
        · rename_i i hi
          injection h1 with h1; subst h1
          have hi' : ids[i]? = some q := by
            have := List.of_findIdx?_eq_some (p := (· == q)) (xs := ids) (i := i) (by simpa [List.idxOf?] using hi)
            split at this
            · rename_i z hz; rw [hz]; simpa using this
            · cases this
          simp only [VRel] at h3 ⊢
          rw [hρ i q hi']
          exact h3
        · split at h1
          · rename_i p hp
            injection h1 with h1; subst h1
            exact sn hp h3
          · cases h1
      · split at h1
        · rename_i p hp
          injection h1 with h1; subst h1
          exact sn hp h3
        · cases h1
    · cases ho

theorem res_of (h : SRel e σ x a) (hL : ∀ b, ¬ e.L b) {ids : List Nat} {rs : List (Nat × List PV)} {us vs : List AV} {cvs : List Value} (h1 : outAVs σ.st ids us = some vs) (h2 : ids.Nodup) (h3 : outRows σ.st ids = some rs) (h4 : VRels x us cvs) :
    ∃ y, y.w = x.w ∧ Res e.w0 e.F0 y (packAV vs) rs (if h : (⟨cvs⟩ : Array Value).size = 1 then (⟨cvs⟩ : Array Value)[0] else .tuple ⟨cvs⟩) := by
  obtain ⟨hl, hat⟩ := outRows_at h3
  have has : ∀ i : Nat, i < rs.length → ∃ r, ids[i]? = some r ∧ ids.getD i 0 = r ∧ ∃ s xs, rs[i]? = some (s, xs) ∧ (r, Row.sl s xs) ∈ σ.st := fun i hi => by
    have hi' : i < ids.length := by omega
    obtain ⟨s, xs, g1, g2⟩ := hat i ids[i] (by simp [hi'])
    exact ⟨ids[i], by simp [hi'], by simp [List.getD_eq_getElem?_getD, hi'], s, xs, g1, g2⟩
  let ρ' : Nat → Loc := fun i => x.ρ (ids.getD i 0)
  let F' : Nat → Prop := fun b => e.F0 b ∨ ∃ i, i < rs.length ∧ (ρ' i).ok = true ∧ (ρ' i).blk = b
  have hF : ∀ b, F' b → x.F b := fun b hb => (h.F b).2 (hb.imp id fun ⟨i, hi, g1, g2⟩ => by
    obtain ⟨r, k1, k2, s, xs, k3, k4⟩ := has i hi
    refine ⟨r, _, k4, ?_, ?_⟩
    · rw [← k2]; exact g1
    · rw [← k2]; exact g2)
  refine ⟨⟨x.w, F', ρ'⟩, rfl, {
    below := ⟨h.below.os, h.below.tape, h.below.output, h.below.size, fun k hk => h.below.block k hk (hL k), h.below.drawn⟩
    val := packAV_rel (outAVs_rel h (y := ⟨x.w, F', ρ'⟩) rfl (fun i r hi => by
      show x.ρ (ids.getD i 0) = x.ρ r
      simp [List.getD_eq_getElem?_getD, hi]) hF (fun r row hm hok hb => ?_) h1 h4)
    rows := fun i s xs hi => ?_
    inj := fun i j hi hj hij hoi hoj => ?_
    fresh := fun i hi hok => ?_
    F := fun b => Iff.rfl }⟩
  · obtain ⟨m1, m2⟩ := stDels_mem hm
    rcases hb with hb | ⟨i, hi, g1, g2⟩
    · have := (h.f0 _ hb).1
      rcases h.own r row m1 hok with h9 | h9
      · omega
      · exact hL _ h9
    · obtain ⟨q, k1, k2, s, xs, k3, k4⟩ := has i hi
      have hq : q ≠ r := fun hq => m2 (by rw [← hq]; exact List.mem_of_getElem? k1)
      have g1' : (x.ρ q).ok = true := by rw [← k2]; exact g1
      have g2' : (x.ρ q).blk = (x.ρ r).blk := by rw [← k2]; exact g2
      exact h.inj q _ r row k4 m1 hq g1' hok g2'
  · have hi' : i < rs.length := by
      rcases Nat.lt_or_ge i rs.length with h | h
      · exact h
      · rw [List.getElem?_eq_none h] at hi; cases hi
    obtain ⟨r, k1, k2, s', xs', k3, k4⟩ := has i hi'
    rw [hi] at k3
    injection k3 with k3
    injection k3 with k3 k5
    subst k3; subst k5
    have := Row.kept (x := x) (y := ⟨x.w, F', x.ρ⟩) ⟨Nat.le_refl _, fun _ _ _ => rfl, fun b _ hb => hF b hb⟩ rfl (fun _ => rfl) (h.st r _ k4)
    show (Row.sl s xs).rel _ (x.ρ (ids.getD i 0))
    rw [k2]
    simp only [Row.rel] at this ⊢
    exact this
  · obtain ⟨r, k1, k2, s, xs, k3, k4⟩ := has i hi
    obtain ⟨q, l1, l2, s', xs', l3, l4⟩ := has j hj
    have hne : r ≠ q := fun hrq => by
      subst hrq
      have hil : i < ids.length := by omega
      have hjl : j < ids.length := by omega
      have e1 : ids[i] = r := by simpa [hil] using k1
      have e2 : ids[j] = r := by simpa [hjl] using l1
      exact hij ((List.getElem_inj h2).1 (e1.trans e2.symm))
    have := h.inj r _ q _ k4 l4 hne (by rw [← k2]; exact hoi) (by rw [← l2]; exact hoj)
    show (x.ρ (ids.getD i 0)).blk ≠ (x.ρ (ids.getD j 0)).blk
    rw [k2, l2]; exact this
  · obtain ⟨r, k1, k2, s, xs, k3, k4⟩ := has i hi
    have := h.own r _ k4 (by rw [← k2]; exact hok)
    show e.w0.heap.size ≤ (x.ρ (ids.getD i 0)).blk
    rw [k2]; exact this.resolve_right (hL _)

/-! ### the results -/
def resOne (tmps : Array Value) : ResultVar → Sem Value
  | .tmp t => pure (tmps.getD t undef)
  | .cell a t => do loadVar t (← asAddr (tmps.getD a undef))

theorem resList_run {P : Program} (h : SRel e σ x a) : ∀ {rvs : List ResultVar} {qs : List RV} {us : List AV}, rvsOf P rvs = some qs → resAV σ qs = some us → ∃ cvs, VRels x us cvs ∧ (rvs.mapM (resOne a.tmps)).run P x.w = .ok cvs x.w
  | [], qs, us, hq, hr => by
    simp only [rvsOf, Option.some.injEq] at hq; subst hq
    simp only [resAV, Option.some.injEq] at hr; subst hr
    exact ⟨[], by simp only [VRels], by simp⟩
  | .tmp t :: rvs, qs, us, hq, hr => by
    simp only [rvsOf] at hq
    split at hq
    · rename_i qs' hqs
      injection hq with hq; subst hq
      simp only [resAV] at hr
      split at hr
      · rename_i vs hvs
        injection hr with hr; subst hr
        obtain ⟨cvs, h1, h2⟩ := resList_run h hqs hvs
        exact ⟨_ :: cvs, by simp only [VRels]; exact ⟨_, _, rfl, h.get t, h1⟩, by simp [List.mapM_cons, resOne, h2]⟩
      · cases hr
    · cases hq
  | .cell t ty :: rvs, qs, us, hq, hr => by
    simp only [rvsOf] at hq
    split at hq
    · rename_i qs' d i hqs hd hi
      injection hq with hq; subst hq
      simp only [resAV] at hr
      split at hr
      · rename_i vs row hvs hp
        split at hr
        · rename_i cs hst
          split at hr
          · rename_i hc
            injection hr with hr; subst hr
            obtain ⟨cvs, h1, h2⟩ := resList_run h hqs hvs
            have hv := h.get t
            rw [hp] at hv
            simp only [VRel, Nat.add_zero] at hv
            have hrow := h.st row _ (stGet_mem hst)
            simp only [Row.rel] at hrow
            obtain ⟨hok, _, hcells⟩ := hrow
            have hcut := hcells.cut 0 i.size (by omega)
            obtain ⟨ws, g1, g2, g3⟩ := hcut
            have hload := run_loadVar hd hi (x.ρ row).blk ((x.ρ row).base + 0) ws g1 hc.2 g3
            have hload' : (loadVar ty ⟨(x.ρ row).blk, (x.ρ row).base, none⟩).run P x.w = .ok (if aggOf P ty then .agg ⟨ws⟩ else ws.getD 0 undef) x.w := by
              rw [← hload]
              simp [Instr.loadAt, Instr.sureAddr]
            refine ⟨(if aggOf P ty then .agg ⟨ws⟩ else ws.getD 0 undef) :: cvs, ?_, ?_⟩
            · simp only [VRels]
              refine ⟨_, _, rfl, ?_, h1⟩
              unfold acut
              cases ha : aggOf P ty
              · rcases hc.2 with h3 | h3
                · rw [ha] at h3; cases h3
                · rw [h3] at g1 g2
                  have hlt : 0 < cs.length := by omega
                  have e : (cs.drop 0).take 1 = [cs.getD 0 .un] := by
                    rw [List.drop_eq_getElem_cons hlt, List.take_succ_cons, List.take_zero]; simp [List.getD_eq_getElem?_getD, hlt]
                  rw [e] at g2
                  simp only [VRels] at g2
                  obtain ⟨v0, r, rfl, h5, _⟩ := g2
                  simpa using h5
              · simp only [if_true]
                exact mkAgg_rel g2
            · simp only [List.mapM_cons, resOne, Sem.run_bind, hv, asAddr, Sem.run_pure, Result.andThen_ok, hload', h2]
          · cases hr
        · cases hr
      · cases hr
    · cases hq

theorem results_run {P : Program} {fn : Func} (h : SRel e σ x a) {qs : List RV} {us : List AV} (hq : rvsOf P fn.results.toList = some qs) (hr : resAV σ qs = some us) :
    ∃ cvs, VRels x us cvs ∧ (results fn a.tmps).run P x.w = .ok (if h : (⟨cvs⟩ : Array Value).size = 1 then (⟨cvs⟩ : Array Value)[0] else .tuple ⟨cvs⟩) x.w := by
  obtain ⟨cvs, h1, h2⟩ := resList_run h hq hr
  refine ⟨cvs, h1, ?_⟩
  have hf : results fn a.tmps = (do
      let vs ← fn.results.mapM (resOne a.tmps)
      pure (if h : vs.size = 1 then vs[0] else .tuple vs)) := by
    unfold results
    congr 1
  rw [hf, Array.mapM_eq_mapM_toList]
  simp [h2]

/-! ### the frame at the entry -/
theorem entry_rel {P : Program} {w : World} {F : Nat → Prop} {ρ : Nat → Loc} : ∀ {ps : List PV} {vs : List Value} {i k : Nat} {v : AV}, PRels w F ps vs → (k, v) ∈ entry i ps → ∃ cv j, k = i + j ∧ vs[j]? = some cv ∧ VRel ⟨w, F, ρ⟩ v cv
  | [], _, _, _, _, _, h => by simp [entry] at h
  | p :: ps, vs, i, k, v, hp, h => by
    simp only [PRels] at hp
    obtain ⟨c, r, rfl, h1, h2⟩ := hp
    simp only [entry] at h
    rcases List.mem_cons.1 h with h | h
    · injection h with h3 h4
      subst h3; subst h4
      exact ⟨c, 0, rfl, rfl, by simpa only [VRel] using h1⟩
    · obtain ⟨cv, j, g1, g2, g3⟩ := entry_rel (P := P) (ρ := ρ) h2 h
      exact ⟨cv, j + 1, by omega, by simpa using g2, g3⟩
theorem PRels_length {w : World} {F : Nat → Prop} : ∀ {ps : List PV} {vs : List Value}, PRels w F ps vs → vs.length = ps.length
  | [], _, h => by simp only [PRels] at h; subst h; rfl
  | p :: ps, vs, h => by
    simp only [PRels] at h
    obtain ⟨c, r, rfl, h1, h2⟩ := h
    simp [PRels_length h2]

/-- **A FUNCTION's CONTRACT FROM ITS CODE.** -/
theorem Fn_of {P : Program} {f : FuncId} {fn : Func} {c : Code} {m : MC} {owns : List Nat} {rd : List (Nat × RD)} {args : List PV} {v : AV} {rs : List (Nat × List PV)} {rvs : List RV} (ids : List Bool)
    (hm : P.follows .mixedOrders = true) (hf : P.funcs[f]? = some fn) (hname : (fn.name == "runtime.NumGoroutine") = false) (hb : fn.body = some c) (hc : ofCode P owns fn.ntmps rd c = some m)
    (hr : rvsOf P fn.results.toList = some rvs) (hn : args.length ≤ fn.ntmps) (hsm : fn.ntmps ≤ 100000) (hv : m.vc P (retK rvs ids v rs) ⟨entry 0 args, []⟩) : Fn P f args v rs := by
  refine ⟨enters_of hf hname hb, fun w F vs hF htb hargs => calls_of_wp hf hb ?_⟩
  let e : Env := ⟨P, w, F, fn.ntmps, fun _ => False, fun _ => default⟩
  have : EP e P := ⟨rfl⟩
  have hlen := PRels_length hargs
  have hS : SRel e ⟨entry 0 args, []⟩ ⟨w, F, fun _ => default⟩ { tmps := (⟨vs⟩ : Array Value) ++ Array.replicate (fn.ntmps - (⟨vs⟩ : Array Value).size) undef, defers := [] } := {
    defers := rfl
    size := by simp [e, hlen]; omega
    fr := fun k u hm => by
      obtain ⟨cv, j, h1, h2, h3⟩ := entry_rel (P := P) (ρ := fun _ => default) hargs hm
      refine ⟨cv, ?_, h3⟩
      have hj : j < vs.length := (List.getElem?_eq_some_iff.1 h2).1
      have hkj : k = j := by omega
      subst hkj
      rw [Array.getElem?_append_left (by simpa using hj)]
      simpa using h2
    st := fun r row hm => by cases hm
    keys := by simp
    inj := fun r row r' row' hm => by cases hm
    F := fun b => ⟨.inl, fun hb => hb.elim id fun ⟨_, _, hm, _⟩ => by cases hm⟩
    own := fun r row hm => by cases hm
    f0 := fun b hb => ⟨hF b hb, fun h => h⟩
    tabs := htb.sub fun b h => h.elim id fun h => h.elim
    below := BelowL.refl _ _
    fix := fun _ _ => rfl
    small := hsm }
  refine wp_mono (MC.sound (e := e) hm c m hc _ _ _ _ hS hv) fun ex a w' hq => ?_
  have fin : ∀ {σ : St} {y : Cx}, SRel e σ y a → y.w = w' → RetOk rvs ids v rs σ → a.defers = [] ∧ ∃ cv, (results fn a.tmps).run P w' = .ok cv w' ∧ ∃ cv' z, Ending.returned cv = Ending.returned cv' ∧ z.w = w' ∧ Res w F z v rs cv' := fun {σ y} hs hw hk => by
    unfold RetOk at hk
    split at hk
    · rename_i us k1
      split at hk
      · rename_i vs' k2
        obtain ⟨k3, k4, k5⟩ := hk
        obtain ⟨cvs, g1, g2⟩ := results_run hs hr k1
        obtain ⟨z, l1, l2⟩ := res_of hs (fun _ h => h) k2 k3 k4 g1
        subst hw
        rw [k5] at l2
        exact ⟨hs.defers, _, g2, _, z, rfl, l1, l2⟩
      · exact hk.elim
    · exact hk.elim
  cases ex with
  | normal => obtain ⟨σ, y, h1, h2, h3⟩ := hq; exact fin h1 h2 h3
  | ret => obtain ⟨σ, y, h1, h2, h3⟩ := hq; exact fin h1 h2 h3
  | exit id => obtain ⟨σ, y, h1, h2, h3⟩ := hq; exact h3.elim
  | _ => exact hq.elim
end
end Go.Vc

namespace Go.Vc
open Go.RowKit

/-! ## A contract of a function that is lent rows, out of its code -/
def entryA : Nat → List AV → List (Nat × AV)
  | _, [] => []
  | i, p :: ps => (i, p) :: entryA (i + 1) ps
def outS (st : List (Nat × Row)) (ks : List Nat) : AV → Option AV
  | .row r off n => if ks.contains r then some (.row r off n) else match snap (stDels st ks) 5 (.row r off n) with
    | some p => some (.pv p)
    | none => none
  | .ptr r off => if ks.contains r then some (.ptr r off) else match snap (stDels st ks) 5 (.ptr r off) with
    | some p => some (.pv p)
    | none => none
  | v => match snap (stDels st ks) 5 v with
    | some p => some (.pv p)
    | none => none
def outSs (st : List (Nat × Row)) (ks : List Nat) : List AV → Option (List AV)
  | [] => some []
  | v :: vs => match outS st ks v, outSs st ks vs with
    | some u, some us => some (u :: us)
    | _, _ => none
def heldRows (l : List (Nat × Row)) : List (Nat × Row) → Prop
  | [] => True
  | (r, row) :: rs => stGet l r = some row ∧ heldRows l rs
/-- the end of such a function: these rows stay known, what else is told is a value -/
def RetS (rvs : List RV) (v : AV) (st' : List (Nat × Row)) (σ : St) : Prop :=
  match resAV σ rvs with
  | some us => match outSs σ.st (st'.map (·.1)) us with
    | some vs => packAV vs = v ∧ heldRows σ.st st'
    | none => False
  | none => False
def retS (rvs : List RV) (v : AV) (st' : List (Nat × Row)) : Exit → St → Prop
  | .normal, σ => RetS rvs v st' σ
  | .ret, σ => RetS rvs v st' σ
  | _, _ => False

theorem heldRows_mem {l : List (Nat × Row)} : ∀ {st : List (Nat × Row)}, heldRows l st → ∀ r row, (r, row) ∈ st → (r, row) ∈ l
  | [], _, _, _, h => by cases h
  | (q, u) :: st, h, r, row, hm => by
    simp only [heldRows] at h
    rcases List.mem_cons.1 hm with hm | hm
    · injection hm with h1 h2; subst h1; subst h2; exact stGet_mem h.1
    · exact heldRows_mem h.2 r row hm

section
variable {e : Env} {σ : St} {x : Cx} {a : Act}

theorem outSs_rel (h : SRel e σ x a) {ks : List Nat} {y : Cx} (hw : y.w = x.w) (hρ : y.ρ = x.ρ) (hF : ∀ b, y.F b → x.F b)
    (hst : ∀ r row, (r, row) ∈ stDels σ.st ks → (x.ρ r).ok = true → ¬ y.F (x.ρ r).blk) : ∀ {us vs : List AV} {cvs : List Value}, outSs σ.st ks us = some vs → VRels x us cvs → VRels y vs cvs
  | [], vs, cvs, ho, hv => by
    simp only [outSs, Option.some.injEq] at ho; subst ho
    simpa only [VRels] using hv
  | u :: us, vs, cvs, ho, hv => by
    simp only [outSs] at ho
    split at ho
    · rename_i v vs' h1 h2
      injection ho with ho; subst ho
      simp only [VRels] at hv ⊢
      obtain ⟨c, r, rfl, h3, h4⟩ := hv
      refine ⟨c, r, rfl, ?_, outSs_rel h hw hρ hF hst h2 h4⟩
      have sn : ∀ {v : AV} {p : PV}, snap (stDels σ.st ks) 5 v = some p → VRel x v c → VRel y (.pv p) c := fun hs hv => by
        simp only [VRel]
        rw [hw]
        exact snap_relG h (fun r row hm => (stDels_mem hm).1) hF hst 5 _ _ _ hs hv
      unfold outS at h1
      split at h1
      · split at h1
        · injection h1 with h1; subst h1
          simp only [VRel] at h3 ⊢
          rw [hρ]; exact h3
        · split at h1
          · rename_i p hp
            injection h1 with h1; subst h1
            exact sn hp h3
          · cases h1
      · split at h1
        · injection h1 with h1; subst h1
          simp only [VRel] at h3 ⊢
          rw [hρ]; exact h3
        · split at h1
          · rename_i p hp
            injection h1 with h1; subst h1
            exact sn hp h3
          · cases h1
      · split at h1
        · rename_i p hp
          injection h1 with h1; subst h1
          exact sn hp h3
        · cases h1
    · cases ho

theorem resS_of (h : SRel e σ x a) {x0 : Cx} {st : List (Nat × Row)} (hw0 : e.w0 = x0.w) (hF0 : e.F0 = fun b => x0.F b ∧ ¬ Own st x0.ρ b) (hL : e.L = Own st x0.ρ) (hρ0 : e.ρ0 = x0.ρ)
    {st' : List (Nat × Row)} {us vs : List AV} {cvs : List Value} (h1 : outSs σ.st (st'.map (·.1)) us = some vs) (h2 : (st'.map (·.1)).Nodup) (h3 : heldRows σ.st st') (h4 : VRels x us cvs) :
    ∃ y, y.w = x.w ∧ ResS x0 st y (packAV vs) st' (if h : (⟨cvs⟩ : Array Value).size = 1 then (⟨cvs⟩ : Array Value)[0] else .tuple ⟨cvs⟩) := by
  have hm := heldRows_mem h3
  have hF : ∀ b, (e.F0 b ∨ Own st' x.ρ b) → x.F b := fun b hb => (h.F b).2 (hb.imp id fun ⟨r, row, k1, k2⟩ => ⟨r, row, hm r row k1, k2⟩)
  refine ⟨⟨x.w, fun b => e.F0 b ∨ Own st' x.ρ b, x.ρ⟩, rfl, {
    below := by rw [← hw0, ← hL]; exact h.below
    val := packAV_rel (outSs_rel h (y := ⟨x.w, fun b => e.F0 b ∨ Own st' x.ρ b, x.ρ⟩) rfl rfl hF (fun r row hr hok hb => ?_) h1 h4)
    st := fun r row hr => Row.kept (x := x) (y := ⟨x.w, fun b => e.F0 b ∨ Own st' x.ρ b, x.ρ⟩) ⟨Nat.le_refl _, fun _ _ _ => rfl, fun b _ hb => hF b hb⟩ rfl (fun _ => rfl) (h.st r row (hm r row hr))
    keys := h2
    inj := fun r row r' row' k1 k2 => h.inj r row r' row' (hm r row k1) (hm r' row' k2)
    own := fun r row hr hok => by
      rw [← hw0, ← hL]
      exact h.own r row (hm r row hr) hok
    F := fun b => by
      show (e.F0 b ∨ Own st' x.ρ b) ↔ _
      rw [hF0]
    stay := fun r hr => by rw [← hρ0]; exact h.fix r hr }⟩
  obtain ⟨m1, m2⟩ := stDels_mem hr
  rcases hb with hb | ⟨q, u, k1, k2, k3⟩
  · have h8 := h.f0 _ hb
    rcases h.own r row m1 hok with h9 | h9
    · omega
    · exact h8.2 h9
  · have hq : q ≠ r := fun hq => m2 (hq ▸ List.mem_map.2 ⟨_, k1, rfl⟩)
    exact h.inj q u r row (hm q u k1) m1 hq k2 hok k3

theorem entryA_rel {x : Cx} : ∀ {ps : List AV} {vs : List Value} {i k : Nat} {v : AV}, VRels x ps vs → (k, v) ∈ entryA i ps → ∃ cv j, k = i + j ∧ vs[j]? = some cv ∧ VRel x v cv
  | [], _, _, _, _, _, h => by simp [entryA] at h
  | p :: ps, vs, i, k, v, hp, h => by
    simp only [VRels] at hp
    obtain ⟨c, r, rfl, h1, h2⟩ := hp
    simp only [entryA] at h
    rcases List.mem_cons.1 h with h | h
    · injection h with h3 h4
      subst h3; subst h4
      exact ⟨c, 0, rfl, rfl, h1⟩
    · obtain ⟨cv, j, g1, g2, g3⟩ := entryA_rel h2 h
      exact ⟨cv, j + 1, by omega, by simpa using g2, g3⟩
theorem VRels_length {x : Cx} : ∀ {ps : List AV} {vs : List Value}, VRels x ps vs → vs.length = ps.length
  | [], _, h => by simp only [VRels] at h; subst h; rfl
  | p :: ps, vs, h => by
    simp only [VRels] at h
    obtain ⟨c, r, rfl, h1, h2⟩ := h
    simp [VRels_length h2]

theorem FnS_of {P : Program} {f : FuncId} {fn : Func} {c : Code} {m : MC} {owns : List Nat} {rd : List (Nat × RD)} {args : List AV} {st : List (Nat × Row)} {v : AV} {st' : List (Nat × Row)} {rvs : List RV}
    (hm : P.follows .mixedOrders = true) (hf : P.funcs[f]? = some fn) (hname : (fn.name == "runtime.NumGoroutine") = false) (hb : fn.body = some c) (hc : ofCode P owns fn.ntmps rd c = some m)
    (hr : rvsOf P fn.results.toList = some rvs) (hn : args.length ≤ fn.ntmps) (hsm : fn.ntmps ≤ 100000) (hk : (st'.map (·.1)).Nodup) (hv : m.vc P (retS rvs v st') ⟨entryA 0 args, st⟩) : FnS P f args st v st' := by
  refine ⟨enters_of hf hname hb, fun x vs hF htb hl hargs => calls_of_wp hf hb ?_⟩
  let e : Env := ⟨P, x.w, fun b => x.F b ∧ ¬ Own st x.ρ b, fn.ntmps, Own st x.ρ, x.ρ⟩
  have : EP e P := ⟨rfl⟩
  have hlen := VRels_length hargs
  have hown : ∀ b, Own st x.ρ b → x.F b := fun b ⟨r, row, h1, h2, h3⟩ => h3 ▸ hl.F r row h1 h2
  have hS : SRel e ⟨entryA 0 args, st⟩ x { tmps := (⟨vs⟩ : Array Value) ++ Array.replicate (fn.ntmps - (⟨vs⟩ : Array Value).size) undef, defers := [] } := {
    defers := rfl
    size := by simp [e, hlen]; omega
    fr := fun k u hm => by
      obtain ⟨cv, j, h1, h2, h3⟩ := entryA_rel hargs hm
      refine ⟨cv, ?_, h3⟩
      have hj : j < vs.length := (List.getElem?_eq_some_iff.1 h2).1
      have hkj : k = j := by omega
      subst hkj
      rw [Array.getElem?_append_left (by simpa using hj)]
      simpa using h2
    st := hl.st
    keys := hl.keys
    inj := hl.inj
    F := fun b => by
      show x.F b ↔ (x.F b ∧ ¬ Own st x.ρ b) ∨ Own st x.ρ b
      constructor
      · intro hb
        by_cases ho : Own st x.ρ b
        · exact .inr ho
        · exact .inl ⟨hb, ho⟩
      · rintro (hb | hb)
        · exact hb.1
        · exact hown b hb
    own := fun r row hm hok => .inr ⟨r, row, hm, hok, rfl⟩
    f0 := fun b hb => ⟨hF b hb.1, hb.2⟩
    tabs := htb.sub fun b h => h.elim (fun h => h.1) (fun h => hown b h)
    below := BelowL.refl _ _
    fix := fun _ _ => rfl
    small := hsm }
  refine wp_mono (MC.sound (e := e) hm c m hc _ _ _ _ hS hv) fun ex a w' hq => ?_
  have fin : ∀ {σ : St} {y : Cx}, SRel e σ y a → y.w = w' → RetS rvs v st' σ → a.defers = [] ∧ ∃ cv, (results fn a.tmps).run P w' = .ok cv w' ∧ ∃ cv' z, Ending.returned cv = Ending.returned cv' ∧ z.w = w' ∧ ResS x st z v st' cv' := fun {σ y} hs hw hk' => by
    unfold RetS at hk'
    split at hk'
    · rename_i us k1
      split at hk'
      · rename_i vs' k2
        obtain ⟨k3, k4⟩ := hk'
        obtain ⟨cvs, g1, g2⟩ := results_run hs hr k1
        obtain ⟨z, l1, l2⟩ := resS_of hs (x0 := x) (st := st) rfl rfl rfl rfl k2 hk k4 g1
        subst hw
        rw [k3] at l2
        exact ⟨hs.defers, _, g2, _, z, rfl, l1, l2⟩
      · exact hk'.elim
    · exact hk'.elim
  cases ex with
  | normal => obtain ⟨σ, y, h1, h2, h3⟩ := hq; exact fin h1 h2 h3
  | ret => obtain ⟨σ, y, h1, h2, h3⟩ := hq; exact fin h1 h2 h3
  | exit id => obtain ⟨σ, y, h1, h2, h3⟩ := hq; exact h3.elim
  | _ => exact hq.elim
end
end Go.Vc

namespace Go.Vc
open Go.RowKit
set_option linter.constructorNameAsVariable false

/-! ## The same, with what follows laid out as data -/
inductive KI where
  | code (m : MC)
  | blk (id : Nat)
  | lp (inv : St → Prop)

def kont (P : Program) (R : Exit → St → Prop) : List KI → Exit → St → Prop
  | [], ex, σ => R ex σ
  | .code m :: k, ex, σ => match ex with
    | .normal => m.vc P (kont P R k) σ
    | ex => kont P R k ex σ
  | .blk id :: k, ex, σ => match ex with
    | .exit i => if i = id then kont P R k .normal σ else kont P R k (.exit i) σ
    | ex => kont P R k ex σ
  | .lp inv :: k, ex, σ => match ex with
    | .normal => inv σ
    | ex => kont P R k ex σ

/-- from here on: code, then what follows -/
def run (P : Program) (R : Exit → St → Prop) (m : MC) (k : List KI) (σ : St) : Prop := m.vc P (kont P R k) σ
def runR (P : Program) (R : Exit → St → Prop) (l : List Inst) (vs : List (Nat × Nat × Nat)) (keep rows : List Nat) (k : List KI) (σ : St) : Prop := vcOps P l σ (fun σ' => kont P R k .normal ((σ'.virts vs).norm keep rows))

def runG (P : Program) (R : Exit → St → Prop) (N : List Nat) (l : List GI) (keep rows : List Nat) (k : List KI) (σ : St) : Prop := vcU P N l σ (fun σ' => kont P R k .normal (σ'.norm keep rows))

section
variable {P : Program} {R : Exit → St → Prop} {k : List KI} {σ : St}

theorem run_skip : run P R .skip k σ = kont P R k .normal σ := rfl
theorem run_bad : run P R .bad k σ = False := rfl
theorem run_seq {a b : MC} : run P R (.seq a b) k σ = run P R a (.code b :: k) σ := by
  unfold run
  simp only [MC.vc]
  congr 1
  funext ex σ'
  cases ex <;> simp [thenK, kont]
theorem run_reg {l : List Inst} {vs : List (Nat × Nat × Nat)} {keep rows : List Nat} : run P R (.reg l vs keep rows) k σ = runR P R l vs keep rows k σ := by
  simp only [run, MC.vc, runR]
theorem run_grp {N : List Nat} {l : List GI} {keep rows : List Nat} : run P R (.grp N l keep rows) k σ = runG P R N l keep rows k (σ.strip N) := by
  simp only [run, MC.vc, runG]
theorem run_cond {c : Opd} {a b : MC} {t : Bool} (h : c.ev σ = vbool t) (ht : t = true → run P R a k σ) (hf : t = false → run P R b k σ) : run P R (.cond c a b) k σ := by
  simp only [run, MC.vc]
  exact ⟨t, h, ht, hf⟩
def condGo (P : Program) (R : Exit → St → Prop) (a b : MC) (k : List KI) (σ : St) : AV → Prop
  | .pv (.sc (.bool t)) => (t = true → run P R a k σ) ∧ (t = false → run P R b k σ)
  | _ => False
theorem run_cond_eq {c : Opd} {a b : MC} : run P R (.cond c a b) k σ = condGo P R a b k σ (c.ev σ) := by
  refine propext ⟨fun h => ?_, fun h => ?_⟩
  · simp only [run, MC.vc] at h
    obtain ⟨t, h1, h2, h3⟩ := h
    rw [h1]
    exact ⟨h2, h3⟩
  · unfold condGo at h
    split at h
    · rename_i t ht
      exact run_cond ht h.1 h.2
    · exact h.elim
theorem run_block {id : Nat} {b : MC} : run P R (.block id b) k σ = run P R b (.blk id :: k) σ := by
  unfold run
  simp only [MC.vc]
  congr 1
  funext ex σ'
  cases ex <;> simp [blockK, kont]
theorem run_loop {b : MC} {T : Type} (I : T → St) (G : T → Prop) (μ : T → Nat) (t₀ : T) (h0 : σ = I t₀) (hG : G t₀)
    (h : ∀ t, G t → run P R b (.lp (fun σ' => ∃ t', σ' = I t' ∧ G t' ∧ μ t' < μ t) :: k) (I t)) : run P R (.loop b) k σ := by
  simp only [run, MC.vc]
  refine ⟨T, I, fun σ' t => σ' = I t, G, μ, t₀, fun σ' t hw => by rw [hw]; exact Weak.refl _, h0, hG, fun t ht => ?_⟩
  have := h t ht
  unfold run at this
  refine Eq.mp ?_ this
  congr 1
  funext ex σ'
  cases ex <;> simp [thenK, kont]
/-- the same, where the state at a round's end may tell more -/
theorem run_loopW {b : MC} {T : Type} (I : T → St) (W : St → T → Prop) (hW : ∀ σ t, W σ t → Weak σ (I t)) (G : T → Prop) (μ : T → Nat) (t₀ : T) (h0 : W σ t₀) (hG : G t₀)
    (h : ∀ t, G t → run P R b (.lp (fun σ' => ∃ t', W σ' t' ∧ G t' ∧ μ t' < μ t) :: k) (I t)) : run P R (.loop b) k σ := by
  simp only [run, MC.vc]
  refine ⟨T, I, W, G, μ, t₀, hW, h0, hG, fun t ht => ?_⟩
  have := h t ht
  unfold run at this
  refine Eq.mp ?_ this
  congr 1
  funext ex σ'
  cases ex <;> simp [thenK, kont]
/-- what is told beyond some slots and rows is forgotten at a round's end -/
theorem run_loopN {b : MC} {T : Type} (keep rows : List Nat) (I : T → St) (G : T → Prop) (μ : T → Nat) (t₀ : T) (h0 : σ.norm keep rows = I t₀) (hG : G t₀)
    (h : ∀ t, G t → run P R b (.lp (fun σ' => ∃ t', σ'.norm keep rows = I t' ∧ G t' ∧ μ t' < μ t) :: k) (I t)) : run P R (.loop b) k σ :=
  run_loopW I (fun σ' t => σ'.norm keep rows = I t) (fun σ' t hw => by rw [← hw]; exact Weak.norm _ _ _) G μ t₀ h0 hG h
theorem run_exit {id : Nat} : run P R (.exit id) k σ = kont P R k (.exit id) σ := rfl
theorem run_ret : run P R .ret k σ = kont P R k .ret σ := rfl

theorem kont_nil {ex : Exit} : kont P R [] ex σ = R ex σ := rfl
theorem kont_code {m : MC} : kont P R (.code m :: k) .normal σ = run P R m k σ := rfl
theorem kont_code_ret {m : MC} : kont P R (.code m :: k) .ret σ = kont P R k .ret σ := rfl
theorem kont_code_exit {m : MC} {i : Nat} : kont P R (.code m :: k) (.exit i) σ = kont P R k (.exit i) σ := rfl
theorem kont_blk {id : Nat} : kont P R (.blk id :: k) .normal σ = kont P R k .normal σ := rfl
theorem kont_blk_ret {id : Nat} : kont P R (.blk id :: k) .ret σ = kont P R k .ret σ := rfl
theorem kont_blk_exit {id i : Nat} : kont P R (.blk id :: k) (.exit i) σ = if i = id then kont P R k .normal σ else kont P R k (.exit i) σ := rfl
theorem kont_lp {inv : St → Prop} : kont P R (.lp inv :: k) .normal σ = inv σ := rfl
theorem kont_lp_ret {inv : St → Prop} : kont P R (.lp inv :: k) .ret σ = kont P R k .ret σ := rfl
theorem kont_lp_exit {inv : St → Prop} {i : Nat} : kont P R (.lp inv :: k) (.exit i) σ = kont P R k (.exit i) σ := rfl

variable {is : List Inst} {vs : List (Nat × Nat × Nat)} {keep rows : List Nat} {d : Nat}
theorem runR_nil : runR P R [] vs keep rows k σ = kont P R k .normal ((σ.virts vs).norm keep rows) := rfl
theorem runR_q {q : Q} : runR P R (⟨some d, none, .q q⟩ :: is) vs keep rows k σ = (q.pre σ ∧ runR P R is vs keep rows k (σ.put d (q.val σ))) := by
  simp only [runR, vcOps, vcOp]
theorem runR_qg {q : Q} {t : Nat} {b : Bool} : runR P R (⟨some d, some (t, b), .q q⟩ :: is) vs keep rows k σ =
    ((frGet σ.fr t).gok ∧ ((frGet σ.fr t).gv b = true → q.pre σ) ∧ runR P R is vs keep rows k (σ.put d (.whn ((frGet σ.fr t).gv b) (q.val σ)))) := by
  simp only [runR, vcOps, vcGd]
theorem runR_alloc {z : List AV} : runR P R (⟨some d, none, .alloc z⟩ :: is) vs keep rows k σ = runR P R is vs keep rows k ((σ.newRow d (.box (AV.clips (only d) z))).put d (.ptr d 0)) := by
  simp only [runR, vcOps, vcOp]
theorem runR_box {x : Opd} : runR P R (⟨some d, none, .box x⟩ :: is) vs keep rows k σ =
    (x.cd σ = true ∧ okc (x.sv σ) = true ∧ runR P R is vs keep rows k ((σ.newRow d (.box (AV.clips (only d) (x.sv σ).cells))).put d (.ptr d 0))) := by
  simp only [runR, vcOps, vcOp]
theorem runR_lits {xs : List Opd} {s : Nat} : runR P R (⟨some d, none, .lits xs s⟩ :: is) vs keep rows k σ =
    ((cds σ xs = true ∧ allOk (evs σ xs) = true ∧ allW s (evs σ xs) ∧ xs.length * s ≤ 16777216) ∧ runR P R is vs keep rows k (σ.put d (mkLit (evs σ xs)))) := by
  simp only [runR, vcOps, vcOp]
theorem runR_litsg {xs : List Opd} {s t : Nat} {b : Bool} : runR P R (⟨some d, some (t, b), .lits xs s⟩ :: is) vs keep rows k σ =
    ((frGet σ.fr t).gok ∧ ((frGet σ.fr t).gv b = true → cds σ xs = true ∧ allOk (evs σ xs) = true ∧ allW s (evs σ xs) ∧ xs.length * s ≤ 16777216) ∧
      runR P R is vs keep rows k (σ.put d (.whn ((frGet σ.fr t).gv b) (mkLit (evs σ xs))))) := by
  simp only [runR, vcOps, vcGd]
theorem runR_own {xs : List Opd} {s : Nat} : runR P R (⟨some d, none, .own xs s⟩ :: is) vs keep rows k σ =
    ((cds σ xs = true ∧ allOk (evs σ xs) = true ∧ allW s (evs σ xs) ∧ xs.length * s ≤ 16777216 ∧ (∀ v ∈ evs σ xs, ∀ c ∈ v.cells, AV.one c = true) ∧ ∃ ps, allPv (evs σ xs) = some ps) ∧
      runR P R is vs keep rows k ((σ.newRow d (.sl s (pvsOf (evs σ xs)))).put d (.row d 0 xs.length))) := by
  simp only [runR, vcOps, vcOp]
theorem runR_mks {l c : Opd} {s bytes : Nat} {z : PV} : runR P R (⟨some d, none, .mks l c s bytes z⟩ :: is) vs keep rows k σ =
    ((l.cd σ = true ∧ c.cd σ = true ∧ isInt (l.sv σ) ∧ isInt (c.sv σ) ∧ 0 ≤ intV (l.sv σ) ∧ intV (l.sv σ) ≤ intV (c.sv σ) ∧ (bytes : Int) * intV (c.sv σ) ≤ 281474976710656 ∧ intV (c.sv σ) ≤ 9223372036854775807) ∧
      runR P R is vs keep rows k ((σ.newRow d (.sl s (List.replicate (intV (l.sv σ)).toNat z))).put d (.row d 0 (intV (l.sv σ)).toNat))) := by
  simp only [runR, vcOps, vcOp]
theorem runR_mkx {l c : Opd} {bytes : Nat} {z : AV} : runR P R (⟨some d, none, .mkx l c bytes z⟩ :: is) vs keep rows k σ =
    ((l.cd σ = true ∧ c.cd σ = true ∧ isInt (l.sv σ) ∧ isInt (c.sv σ) ∧ 0 ≤ intV (l.sv σ) ∧ intV (l.sv σ) = intV (c.sv σ) ∧ (bytes : Int) * intV (c.sv σ) ≤ 281474976710656 ∧ intV (c.sv σ) ≤ 9223372036854775807) ∧
      runR P R is vs keep rows k ((σ.newRow d (.bxs (List.replicate (intV (l.sv σ)).toNat z))).put d (.row d 0 (intV (l.sv σ)).toNat))) := by
  simp only [runR, vcOps, vcOp]
theorem runR_st {p x : Opd} {n : Nat} : runR P R (⟨none, none, .st p x n⟩ :: is) vs keep rows k σ =
    ((p.cd σ = true ∧ x.cd σ = true ∧ stOk σ n (x.sv σ) (p.sv σ)) ∧ runR P R is vs keep rows k (stTo σ (x.sv σ) (p.sv σ))) := by
  simp only [runR, vcOps, vcOp]
theorem runR_app {b s' : Opd} {s bytes : Nat} : runR P R (⟨some d, none, .app b s' s bytes⟩ :: is) vs keep rows k σ =
    ((b.cd σ = true ∧ s'.cd σ = true ∧ appOk σ s bytes (b.sv σ) (s'.sv σ)) ∧ runR P R is vs keep rows k (appTo σ d s (b.sv σ) (s'.sv σ))) := by
  simp only [runR, vcOps, vcOp]
theorem runR_appn {b s' : Opd} {s bytes : Nat} : runR P R (⟨some d, none, .appn b s' s bytes⟩ :: is) vs keep rows k σ =
    ((b.cd σ = true ∧ s'.cd σ = true ∧ b.sv σ = .e0 ∧ appOk σ s bytes .e0 (s'.sv σ)) ∧ runR P R is vs keep rows k (σ.put d (.pv (.lst ((srcP σ (s'.sv σ)).getD []))))) := by
  simp only [runR, vcOps, vcOp]
theorem runR_appx {b s' : Opd} {bytes : Nat} : runR P R (⟨some d, none, .appx b s' bytes⟩ :: is) vs keep rows k σ =
    ((b.cd σ = true ∧ s'.cd σ = true ∧ appxOk σ bytes (b.sv σ) (s'.sv σ)) ∧ runR P R is vs keep rows k (appxTo σ d (b.sv σ) (s'.sv σ))) := by
  simp only [runR, vcOps, vcOp]
theorem runR_appg {b s' : Opd} {s bytes t : Nat} {c : Bool} : runR P R (⟨some d, some (t, c), .app b s' s bytes⟩ :: is) vs keep rows k σ = ((frGet σ.fr t).gok ∧ (frGet σ.fr t).gv c = true ∧ runR P R (⟨some d, none, .app b s' s bytes⟩ :: is) vs keep rows k σ) := by
  simp only [runR, vcOps, vcGd]
theorem runR_appi {b s' : Opd} {s bytes : Nat} : runR P R (⟨some d, none, .appi b s' s bytes⟩ :: is) vs keep rows k σ =
    ((b.cd σ = true ∧ s'.cd σ = true) ∧ appiGo σ d s bytes (runR P R is vs keep rows k) (b.sv σ) (s'.sv σ)) := by
  simp only [runR, vcOps, vcOp]
  rfl
theorem runR_clr {x : Opd} {s : Nat} {z : PV} : runR P R (⟨none, none, .clr x s z⟩ :: is) vs keep rows k σ = (x.cd σ = true ∧ clrGo σ s z (runR P R is vs keep rows k) (x.sv σ)) := by
  simp only [runR, vcOps, vcOp]
  rfl
theorem runR_capr {x : Opd} : runR P R (⟨some d, none, .capr x⟩ :: is) vs keep rows k σ = (x.cd σ = true ∧ caprGo σ d (runR P R is vs keep rows k) (x.sv σ)) := by
  simp only [runR, vcOps, vcOp]
  rfl
theorem runR_appz {b y : Opd} {s bytes : Nat} {z : PV} : runR P R (⟨some d, none, .appz b y s bytes z⟩ :: is) vs keep rows k σ = ((b.cd σ = true ∧ y.cd σ = true) ∧ appzGo σ d s bytes z (runR P R is vs keep rows k) (b.sv σ) (y.sv σ)) := by
  simp only [runR, vcOps, vcOp]
  rfl
theorem runR_cpy {b y : Opd} {s : Nat} : runR P R (⟨some d, none, .cpy b y s⟩ :: is) vs keep rows k σ = ((b.cd σ = true ∧ y.cd σ = true) ∧ cpyGo σ d s (runR P R is vs keep rows k) (b.sv σ) (y.sv σ)) := by
  simp only [runR, vcOps, vcOp]
  rfl
theorem runR_mkmr {y : Opd} : runR P R (⟨some d, none, .mkmr y⟩ :: is) vs keep rows k σ = ((y.cd σ = true ∧ isInt (y.sv σ)) ∧ runR P R is vs keep rows k ((σ.newRow d (.mp [])).put d (.mp d))) := by
  simp only [runR, vcOps, vcOp]
theorem runR_mkm : runR P R (⟨some d, none, .mkm⟩ :: is) vs keep rows k σ = runR P R is vs keep rows k ((σ.newRow d (.mp [])).put d (.mp d)) := by
  simp only [runR, vcOps, vcOp]
def msetRun (P : Program) (R : Exit → St → Prop) (is : List Inst) (vs : List (Nat × Nat × Nat)) (keep rows : List Nat) (k : List KI) (σ : St) (kk : Kk) : AV → AV → AV → Prop
  | .mp r, .pv key, .pv v => match stGet σ.st r with
    | some (.mp es) => keyIs kk key ∧ keysLike kk key es ∧ runR P R is vs keep rows k ⟨σ.fr, (r, .mp (mput key v es)) :: stDel σ.st r⟩
    | some (.mpd es clock) => keyIs kk key ∧ keysLike kk key (esD es) ∧ runR P R is vs keep rows k ⟨σ.fr, (r, .mpd (mputD key v clock es) (clkD key es clock)) :: stDel σ.st r⟩
    | _ => False
  | _, _, _ => False
theorem runR_mset {m q v : Opd} {kk : Kk} : runR P R (⟨none, none, .mset m q v kk⟩ :: is) vs keep rows k σ =
    ((m.cd σ = true ∧ q.cd σ = true ∧ v.cd σ = true) ∧ msetRun P R is vs keep rows k σ kk (m.sv σ) (q.sv σ) (v.sv σ)) := by
  simp only [runR, vcOps, vcOp]
  rfl
theorem runR_mdel {m q : Opd} {kk : Kk} : runR P R (⟨none, none, .mdel m q kk⟩ :: is) vs keep rows k σ = ((m.cd σ = true ∧ q.cd σ = true) ∧ mdelGo σ kk (runR P R is vs keep rows k) (m.sv σ) (q.sv σ)) := by
  simp only [runR, vcOps, vcOp]
  rfl
theorem runR_rngm {y : Opd} : runR P R (⟨some d, none, .rngm y⟩ :: is) vs keep rows k σ = (y.cd σ = true ∧ rngmGo σ d (runR P R is vs keep rows k) (y.sv σ)) := by
  simp only [runR, vcOps, vcOp]
  rfl
theorem runR_rngs {y : Opd} : runR P R (⟨some d, none, .rngs y⟩ :: is) vs keep rows k σ = (y.cd σ = true ∧ rngsGo σ d (runR P R is vs keep rows k) (y.sv σ)) := by
  simp only [runR, vcOps, vcOp]
  rfl
theorem runR_nxtm {y : Opd} : runR P R (⟨some d, none, .nxtm y⟩ :: is) vs keep rows k σ = (y.cd σ = true ∧ nxtmGo σ d (runR P R is vs keep rows k) (y.sv σ)) := by
  simp only [runR, vcOps, vcOp]
  rfl
theorem runR_nxts {y : Opd} : runR P R (⟨some d, none, .nxts y⟩ :: is) vs keep rows k σ = (y.cd σ = true ∧ nxtsGo σ d (runR P R is vs keep rows k) (y.sv σ)) := by
  simp only [runR, vcOps, vcOp]
  rfl
/-- a call that is lent rows: its contract is laid on the table -/
theorem runR_calls {f : Opd} {args : List Opd} (m : Nat → Nat) {as : List AV} {st st' : List (Nat × Row)} {v : AV} {g : FuncId} {avs : List AV} (hc : f.cd σ = true ∧ cds σ args = true) (ha : (calleeOf (f.sv σ)).map (fun t => (t.1, evs σ args ++ t.2)) = some (g, avs))
    (hF : FnS P g as st v st') (h1 : AV.rns m as = avs) (h2 : ∀ e ∈ st, (m e.1, e.2.rn m) ∈ σ.st) (h3 : (st.map (·.1)).Nodup) (h4 : ((st.map (·.1)).map m).Nodup) (h5 : ((st'.map (·.1)).map m).Nodup)
    (h6 : ∀ e ∈ st', e.1 < 200000 → m e.1 < 200000) (h : runR P R is vs keep rows k (σ.afterS d m st v st')) : runR P R (⟨some d, none, .calls f args⟩ :: is) vs keep rows k σ := by
  simp only [runR, vcOps, vcOp]
  refine ⟨hc, ?_⟩
  cases hcal : calleeOf (f.sv σ) with
  | none => rw [hcal] at ha; cases ha
  | some t =>
    obtain ⟨g', caps⟩ := t
    rw [hcal] at ha
    simp only [Option.map_some, Option.some.injEq, Prod.mk.injEq] at ha
    obtain ⟨rfl, rfl⟩ := ha
    exact .inl ⟨m, as, st, st', v, h1, fun r row hm => h2 _ hm, h3, h4, h5, fun r row hm => h6 _ hm, hF, h⟩
/-- a call: its contract is laid on the table -/
theorem runR_call {f : Opd} {args : List Opd} {g : FuncId} {ps : List PV} {pure : Bool} {v : AV} {rs : List (Nat × List PV)} (hc : f.cd σ = true ∧ cds σ args = true) (ha : callArgs σ f args = some (g, ps, pure))
    (hf : Fn P g ps v rs) (hp : pure = true ∨ (v.flat = true ∧ flatRows rs)) (hr : okRows v rs) (h : runR P R is vs keep rows k (σ.after d v rs)) : runR P R (⟨some d, none, .call f args⟩ :: is) vs keep rows k σ := by
  simp only [runR, vcOps, vcOp]
  refine ⟨hc, ?_⟩
  rw [ha]
  exact ⟨v, rs, hf, hp, hr, .inl h⟩
/-- a call whose results hold no address -/
theorem runR_callf {f : Opd} {args : List Opd} {g : FuncId} {ps : List PV} {v : AV} {rs : List (Nat × List PV)} (hc : f.cd σ = true ∧ cds σ args = true) (ha : (callArgs σ f args).map (fun t => (t.1, t.2.1)) = some (g, ps))
    (hf : Fn P g ps v rs) (hp : v.flat = true ∧ flatRows rs) (hr : okRows v rs) (h : runR P R is vs keep rows k (σ.after d v rs)) : runR P R (⟨some d, none, .call f args⟩ :: is) vs keep rows k σ := by
  cases hca : callArgs σ f args with
  | none => rw [hca] at ha; cases ha
  | some t =>
    obtain ⟨g', ps', pure⟩ := t
    rw [hca] at ha
    simp only [Option.map_some, Option.some.injEq, Prod.mk.injEq] at ha
    obtain ⟨rfl, rfl⟩ := ha
    exact runR_call hc hca hf (.inr hp) hr h
theorem runR_callgf {f : Opd} {args : List Opd} {g : FuncId} {ps : List PV} {p : PV} {t : Nat} {b : Bool} (hg : (frGet σ.fr t).gok) (hc : (frGet σ.fr t).gv b = true → f.cd σ = true ∧ cds σ args = true) (ha : (callArgs σ f args).map (fun t => (t.1, t.2.1)) = some (g, ps))
    (hf : (frGet σ.fr t).gv b = true → Fn P g ps (.pv p) []) (hp : p.flat = true) (h : runR P R is vs keep rows k (σ.put d (.whn ((frGet σ.fr t).gv b) (.pv p)))) : runR P R (⟨some d, some (t, b), .call f args⟩ :: is) vs keep rows k σ := by
  simp only [runR, vcOps, vcGd]
  refine ⟨hg, hc, ?_⟩
  cases hca : callArgs σ f args with
  | none => rw [hca] at ha; cases ha
  | some t =>
    obtain ⟨g', ps', pure⟩ := t
    rw [hca] at ha
    simp only [Option.map_some, Option.some.injEq, Prod.mk.injEq] at ha
    obtain ⟨rfl, rfl⟩ := ha
    exact ⟨p, fun hb => ⟨hf hb, .inr hp⟩, h⟩
theorem snap_pv (st : List (Nat × Row)) (k : Nat) (p : PV) : snap st (k + 1) (.pv p) = some p := rfl
theorem snap_e0 (st : List (Nat × Row)) (k : Nat) : snap st (k + 1) .e0 = some (.lst []) := rfl
theorem snap_agg (st : List (Nat × Row)) (k : Nat) (cs : List AV) : snap st (k + 1) (.agg cs) = match snapL (snap st k) cs with
  | some ps => some (.agg ps)
  | none => none := rfl
theorem snap_tup (st : List (Nat × Row)) (k : Nat) (cs : List AV) : snap st (k + 1) (.tup cs) = match snapL (snap st k) cs with
  | some ps => some (.tup ps)
  | none => none := rfl
theorem snap_fn (st : List (Nat × Row)) (k : Nat) (f : FuncId) (cs : List AV) : snap st (k + 1) (.fn f cs) = match snapL (snap st k) cs with
  | some ps => some (.fn f ps)
  | none => none := rfl
theorem snap_row (st : List (Nat × Row)) (k r off n : Nat) : snap st (k + 1) (.row r off n) = match stGet st r with
  | some (.sl _ xs) => some (.lst ((xs.drop off).take n))
  | _ => none := rfl
theorem snap_ptr (st : List (Nat × Row)) (k r : Nat) : snap st (k + 1) (.ptr r 0) = match stGet st r with
  | some (.box cs) => (match snapL (snap st k) cs with
    | some ps => some (.pt ps)
    | none => none)
  | _ => none := rfl
theorem snap_cptr (st : List (Nat × Row)) (k : Nat) (cs : List PV) : snap st (k + 1) (.cptr cs 0) = some (.pt cs) := rfl
theorem snapL_pv (st : List (Nat × Row)) (k : Nat) : ∀ ps : List PV, snapL (snap st (k + 1)) (ps.map .pv) = some ps
  | [] => rfl
  | p :: ps => by simp only [List.map_cons, snapL, snap_pv, snapL_pv st k ps]

section
variable {N : List Nat} {L : List GI} {U Rw : List Nat}
theorem runG_nil : runG P R N [] keep rows k σ = kont P R k .normal (σ.norm keep rows) := rfl
theorem runG_q {q : Q} : runG P R N (⟨d, none, .q q, U, Rw⟩ :: L) keep rows k σ = (q.pre (σ.norm U Rw) ∧ runG P R N L keep rows k (σ.add d (fun n => inL N n && (!inL Rw n && !(d == n))) ⟨q.val (σ.norm U Rw), none⟩)) := rfl
theorem runG_qg {q : Q} {t : Nat} {b : Bool} : runG P R N (⟨d, some (t, b), .q q, U, Rw⟩ :: L) keep rows k σ = ((frGet (σ.norm U Rw).fr t).gok ∧ ((frGet (σ.norm U Rw).fr t).gv b = true → q.pre (σ.norm U Rw)) ∧
    runG P R N L keep rows k (σ.add d (fun n => inL N n && (!inL Rw n && !(d == n))) ⟨.whn ((frGet (σ.norm U Rw).fr t).gv b) (q.val (σ.norm U Rw)), none⟩)) := rfl
theorem runG_alloc {z : List AV} : runG P R N (⟨d, none, .alloc z, U, Rw⟩ :: L) keep rows k σ = runG P R N L keep rows k (σ.add d (fun n => inL N n && (!inL Rw n && !(d == n))) ⟨.ptr d 0, some (d, .box (AV.clips (only d) z))⟩) := rfl
theorem runG_box {x : Opd} : runG P R N (⟨d, none, .box x, U, Rw⟩ :: L) keep rows k σ = (x.cd (σ.norm U Rw) = true ∧ okc (x.sv (σ.norm U Rw)) = true ∧
    runG P R N L keep rows k (σ.add d (fun n => inL N n && (!inL Rw n && !(d == n))) ⟨.ptr d 0, some (d, .box (AV.clips (only d) (x.sv (σ.norm U Rw)).cells))⟩)) := rfl
theorem runG_lits {xs : List Opd} {s : Nat} : runG P R N (⟨d, none, .lits xs s, U, Rw⟩ :: L) keep rows k σ = ((cds (σ.norm U Rw) xs = true ∧ allOk (evs (σ.norm U Rw) xs) = true ∧ allW s (evs (σ.norm U Rw) xs) ∧ xs.length * s ≤ 16777216) ∧
    runG P R N L keep rows k (σ.add d (fun n => inL N n && (!inL Rw n && !(d == n))) ⟨mkLit (evs (σ.norm U Rw) xs), none⟩)) := rfl
theorem runG_mks {l c : Opd} {s bytes : Nat} {z : PV} : runG P R N (⟨d, none, .mks l c s bytes z, U, Rw⟩ :: L) keep rows k σ = ((l.cd (σ.norm U Rw) = true ∧ c.cd (σ.norm U Rw) = true ∧ isInt (l.sv (σ.norm U Rw)) ∧ isInt (c.sv (σ.norm U Rw)) ∧ 0 ≤ intV (l.sv (σ.norm U Rw)) ∧ intV (l.sv (σ.norm U Rw)) ≤ intV (c.sv (σ.norm U Rw)) ∧ (bytes : Int) * intV (c.sv (σ.norm U Rw)) ≤ 281474976710656 ∧ intV (c.sv (σ.norm U Rw)) ≤ 9223372036854775807) ∧
    runG P R N L keep rows k (σ.add d (fun n => inL N n && (!inL Rw n && !(d == n))) ⟨.row d 0 (intV (l.sv (σ.norm U Rw))).toNat, some (d, .sl s (List.replicate (intV (l.sv (σ.norm U Rw))).toNat z))⟩)) := rfl
end
theorem Fn_run {f : FuncId} {fn : Func} {c : Code} {m : MC} {owns : List Nat} {rd : List (Nat × RD)} {args : List PV} {v : AV} {rs : List (Nat × List PV)} {rvs : List RV} (ids : List Bool)
    (hm : P.follows .mixedOrders = true) (hf : P.funcs[f]? = some fn) (hname : (fn.name == "runtime.NumGoroutine") = false) (hb : fn.body = some c) (hc : ofCode P owns fn.ntmps rd c = some m)
    (hr : rvsOf P fn.results.toList = some rvs) (hn : args.length ≤ fn.ntmps) (hsm : fn.ntmps ≤ 100000) (hv : run P (retK rvs ids v rs) m [] ⟨entry 0 args, []⟩) : Fn P f args v rs := by
  refine Fn_of ids hm hf hname hb hc hr hn hsm ?_
  unfold run at hv
  refine Eq.mp ?_ hv
  congr 1
theorem FnS_run {f : FuncId} {fn : Func} {c : Code} {m : MC} {owns : List Nat} {rd : List (Nat × RD)} {args : List AV} {st : List (Nat × Row)} {v : AV} {st' : List (Nat × Row)} {rvs : List RV}
    (hm : P.follows .mixedOrders = true) (hf : P.funcs[f]? = some fn) (hname : (fn.name == "runtime.NumGoroutine") = false) (hb : fn.body = some c) (hc : ofCode P owns fn.ntmps rd c = some m)
    (hr : rvsOf P fn.results.toList = some rvs) (hn : args.length ≤ fn.ntmps) (hsm : fn.ntmps ≤ 100000) (hk : (st'.map (·.1)).Nodup) (hv : run P (retS rvs v st') m [] ⟨entryA 0 args, st⟩) : FnS P f args st v st' := by
  refine FnS_of hm hf hname hb hc hr hn hsm hk ?_
  unfold run at hv
  refine Eq.mp ?_ hv
  congr 1
theorem cond_st (a : Bool) : (bif a then a else true) = true := by cases a <;> rfl
theorem cond_nt (a : Bool) : (bif a then true else !a) = true := by cases a <;> rfl
theorem beq_t (a : Bool) : (a == true) = a := by cases a <;> rfl
theorem beq_f (a : Bool) : (a == false) = !a := by cases a <;> rfl
theorem one_int {k : IntKind} {n : Int} : (Value.int k n).oneCell' = true := rfl
theorem one_bool {b : Bool} : (Value.bool b).oneCell' = true := rfl
theorem one_string {s : ByteArray} : (Value.string s).oneCell' = true := rfl
end
attribute [irreducible] runR run kont runG
end Go.Vc

namespace Go.Vc
open Go.RowKit
/-! ## The evaluation's rules, in the walk's own set -/
attribute [go_sem] runR_mdel mdelGo runR_appn runR_appx appxOk appxTo appxOlds slotL rowV ldcV ldcP run_bad idxaV idxaP isSc strV strP intsOf shfV shfP slcxP runR_mkx onesP runR_appg runR_appi runR_clr runR_capr runR_appz appzGo runR_cpy caprGo cpyGo cpyOf cpSrc appiGo clrGo chkP Int.toNat_natCast Option.getD_some List.take_length List.getD_nil Int.natCast_nonneg List.length_map run_grp runG_nil runG_q runG_qg runG_alloc runG_box runG_lits runG_mks inL St.add addRow St.strip stOut effAfter runR_mkm runR_mkmr runR_rngm runR_rngs runR_nxtm runR_nxts rngmGo rngsGo nxtmGo nxtsGo mlenV mlenP entV entP entryA AV.rn AV.rns Row.rn stBack stStrike lostBy keysNot St.afterS outS outSs heldRows RetS retS List.any_cons List.any_nil runR_mset msetRun mgetV mgetP keyIs keyLike keyEq keysLike lkp mput St.frz1 frFrz stFrz frzRow frzPtr AV.frz AV.frzs Row.frz idsOf allPvs false_implies true_implies cond_st cond_nt beq_t beq_f imp_self Bool.cond_true_left Bool.cond_false_right AV.pv.injEq PV.sc.injEq Value.bool.injEq Value.int.injEq Value.string.injEq Bool.or_not_self Bool.not_or_self Bool.not_eq_true' Bool.not_eq_false' Bool.or_eq_true Bool.and_eq_true Bool.or_eq_false_iff decide_eq_false_iff_not St.virts St.virt1 St.nil1 sameV sameP seqV seqP mmV mmP one_int one_bool one_string run_cond_eq condGo run_skip run_seq run_reg run_block run_exit run_ret kont_nil kont_code kont_code_ret kont_code_exit kont_blk kont_blk_ret kont_blk_exit kont_lp kont_lp_ret kont_lp_exit runR_nil runR_q runR_qg runR_alloc runR_box runR_lits runR_litsg runR_own runR_mks runR_st runR_app Opd.cd Opd.sv Opd.ev cds evs frGet frPut frDel frClip frKeep frSome stKeep stGet stDel stClip St.put St.norm St.newRow AV.clip AV.clips Row.clip only AV.un1 AV.cd okc AV.cells PV.cells entry Q.pre Q.val Q.cd optL faV faP iaV iaP rowS iaaV iaaP ldV ldP fldV fldP acut pcut ccut mkAgg mkAggN AV.isE0 mkLit allPv lenV lenP bnd isInt loOf hiOf bndP slcV sizeOfV slcP convV convP lay mkV mkP idxV idxP notV pickV isBool boolOf beqV beqP extV extP binV binP fits vint vbool allOk allW AV.width AV.allOne AV.one PV.one stOk stTo pvsOf setElem layP flat srcP appOk appTo appRow appOld appLen rowXs rowIs intV AV.gok AV.gv AV.isB AV.gvB onesB retK RetOk resAV outAVs outAV outRows stDels snap_pv snap_e0 snap_agg snap_tup snap_fn snap_row snap_ptr snap_cptr snapL packAV packTup AV.ren AV.rens rowName St.after okRows AV.isPv calleeOf callArgs nilLen allPure AV.pure List.map_cons List.map_nil List.length_cons List.length_nil List.append_nil List.cons_append List.nil_append List.getD_cons_zero List.getD_cons_succ List.take_succ_cons List.take_zero List.drop_zero List.drop_succ_cons List.set_cons_zero List.set_cons_succ List.contains_cons List.contains_nil List.contains_eq_mem List.mem_cons List.not_mem_nil List.idxOf?_nil List.idxOf?_cons Option.map_none Option.map_some Nat.zero_add Nat.add_zero Nat.mul_zero Nat.zero_mul Nat.mul_one Nat.one_mul Nat.le_refl Nat.zero_le Bool.or_false Bool.false_or Bool.or_true Bool.true_or Bool.and_true Bool.true_and Bool.and_false Bool.false_and Bool.not_true Bool.not_false or_false false_or or_true true_or beq_self_eq_true decide_true decide_false decide_eq_true_eq Bool.decide_eq_true if_true if_false ite_true ite_false dite_true dite_false true_and and_true and_false false_and implies_true forall_const Bool.false_eq_true Bool.true_eq_false not_true not_false_eq_true Nat.lt_irrefl cond_true cond_false List.nodup_nil eq_self_iff_true exists_eq_left' Option.some.injEq exists_eq_left exists_and_left
end Go.Vc
