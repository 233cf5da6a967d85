/- A part of the proofs of the seat YtjkldmepdenlfaaDoor: the layer that turns the code of a function into what is to be shown (verification conditions), proved sound. -/
import Derived.Test.YtjkldmepdenlfaaDoorVa
import Derived.ChangeKeysEq
import Derived.Laws.IdiomRangeMap
namespace Go.Vc
open Go.RowKit
section
variable {P : Program} {x : Cx} {o : Oper} {ev : Operand → Value}

/-- is a type a struct or an array -/
def aggOf (P : Program) (t : TypeId) : Bool := match P.underlying t with
  | some (.struct _) => true
  | some (.array _ _) => true
  | _ => false

theorem run_isAgg {w : World} {t : TypeId} {d : TypeDesc} (ht : P.underlying t = some d) : (isAgg t).run P w = .ok (aggOf P t) w := by
  unfold aggOf
  rw [ht]
  cases d <;> simp [isAgg, run_underlying ht]

theorem run_loadVar {w : World} {t : TypeId} {d : TypeDesc} {i : TypeInfo} (ht : P.underlying t = some d) (hi : P.info? t = some i) (b o' : Nat) (vs : List Value) (hn : vs.length = i.size)
    (h1 : aggOf P t = true ∨ i.size = 1) (h : CellsAt w b o' vs) :
    (Instr.loadAt t (.pointer (some ⟨b, o', none⟩))).run P w = .ok (if aggOf P t then .agg ⟨vs⟩ else vs.getD 0 undef) w := by
  simp only [Instr.loadAt, Instr.sureAddr, Sem.run_bind, Sem.run_pure, Result.andThen_ok, loadVar, run_isAgg ht]
  cases ha : aggOf P t
  · rcases h1 with h1 | h1
    · rw [ha] at h1; cases h1
    · rw [h1] at hn
      match vs, hn with
      | [v], _ =>
        have := h 0 v rfl
        simp only [Nat.add_zero] at this
        simp [load, Sem.run, this]
  · simp [sizeOf, typeInfo, hi, ← hn, run_loadCells b o' vs h]

theorem CellsAt.agr {w w' : World} {b o' : Nat} {vs : List Value} (h : CellsAt w b o' vs) (k : Agr w w') : CellsAt w' b o' vs := fun j c hc => k.cell (h j c hc)

theorem PRels.agg {w : World} {F : Nat → Prop} {cs : List PV} {vs : List Value} (h : PRels w F cs vs) : PRel w F (.agg cs) (.agg ⟨vs⟩) := by
  simp only [PRel]; exact ⟨vs, rfl, h⟩

theorem q_ld {e : Env} {σ : St} {a : Act} (hS : SRel e σ x a) {t : TypeId} {y : Operand} (ho : o.op = .load t y) {d : TypeDesc} {i : TypeInfo} (ht : P.underlying t = some d) (hi : P.info? t = some i)
    {v : AV} (hy : VRel x v (ev y)) (hp : ldP σ i.size (aggOf P t) v) : QOK P x o ev (ldV σ i.size (aggOf P t) v) := by
  -- what is loaded out of pure cells
  have pure : ∀ (cs : List PV) (b o' off : Nat), ev y = .pointer (some ⟨b, o' + off, none⟩) → PCells x.w x.F cs b o' → off + i.size ≤ cs.length → (aggOf P t = true ∨ i.size = 1) →
      QOK P x o ev (.pv (ccut cs off i.size (aggOf P t))) := by
    intro cs b o' off he hc hl h1
    obtain ⟨vs, h2, h3, h4⟩ := hc.cut off i.size hl
    refine ⟨if aggOf P t then .agg ⟨vs⟩ else vs.getD 0 undef, ?_, fun w' k => by simp only [execOp, ho, he]; simp only [Sem.run_bind, run_loadVar ht hi b (o' + off) vs h2 h1 (h4.agr k), Result.andThen_ok, Sem.run_pure]⟩
    unfold ccut
    cases ha : aggOf P t
    · rcases h1 with h1 | h1
      · rw [ha] at h1; cases h1
      · rw [h1] at h3 h2 hl
        have hlt : off < cs.length := by omega
        have e : (cs.drop off).take 1 = [cs.getD off default] := by
          rw [List.drop_eq_getElem_cons hlt, List.take_succ_cons, List.take_zero]; simp [List.getD_eq_getElem?_getD, hlt]
        rw [e] at h3
        simp only [PRels] at h3
        obtain ⟨v0, r, rfl, h5, _⟩ := h3
        simpa [VRel] using h5
    · simp only [if_true, VRel]
      exact h3.agg
  have mixed : ∀ (cs : List AV) (b o' off : Nat), ev y = .pointer (some ⟨b, o' + off, none⟩) → ACells x cs b o' → off + i.size ≤ cs.length → (aggOf P t = true ∨ i.size = 1) →
      QOK P x o ev (acut cs off i.size (aggOf P t)) := by
    intro cs b o' off he hc hl h1
    obtain ⟨vs, h2, h3, h4⟩ := hc.cut off i.size hl
    refine ⟨if aggOf P t then .agg ⟨vs⟩ else vs.getD 0 undef, ?_, fun w' k => by simp only [execOp, ho, he]; simp only [Sem.run_bind, run_loadVar ht hi b (o' + off) vs h2 h1 (h4.agr k), Result.andThen_ok, Sem.run_pure]⟩
    unfold acut
    cases ha : aggOf P t
    · rcases h1 with h1 | h1
      · rw [ha] at h1; cases h1
      · rw [h1] at h3 h2 hl
        have hlt : off < cs.length := by omega
        have e : (cs.drop off).take 1 = [cs.getD off .un] := by
          rw [List.drop_eq_getElem_cons hlt, List.take_succ_cons, List.take_zero]; simp [List.getD_eq_getElem?_getD, hlt]
        rw [e] at h3
        simp only [VRels] at h3
        obtain ⟨v0, r, rfl, h5, _⟩ := h3
        simpa using h5
    · simp only [if_true]
      exact mkAgg_rel h3
  unfold ldP at hp
  split at hp
  · rename_i r off
    simp only [VRel] at hy
    split at hp
    · rename_i cs hr
      have h1 := hS.st _ _ (stGet_mem hr)
      simp only [Row.rel] at h1
      have := mixed cs _ _ off hy h1.2.2 hp.1 hp.2
      simpa only [ldV, hr] using this
    · exact hp.elim
  · rename_i r j off
    simp only [VRel] at hy
    split at hp
    · rename_i s xs hr
      have h1 := hS.st _ _ (stGet_mem hr)
      simp only [Row.rel] at h1
      rcases h1 with ⟨_, h1⟩ | ⟨h1, h2, h3, h4, h5, h6⟩
      · subst h1; simp at hp
      · have h7 := h6.at_ hp.1
        rw [sum_const (fun p hp => (h4 p hp).1) _ (Nat.le_of_lt hp.1), ← h1] at h7
        have := pure _ _ _ off hy h7 hp.2.1 hp.2.2
        simp only [ldV, hr]
        unfold pcut
        exact this
    · rename_i cs hr
      obtain ⟨rfl, hn1, hag, hlt⟩ := hp
      have h1 := hS.st _ _ (stGet_mem hr)
      simp only [Row.rel] at h1
      have := mixed cs _ _ j (by rw [hy, h1.2.1.1]; simp) h1.2.2.2 (by omega) (.inr hn1)
      simpa only [ldV, hr, Nat.add_zero] using this
    · exact hp.elim
  · rename_i xs j off
    simp only [VRel] at hy
    obtain ⟨b, o', e, h1, h2, h3, h4⟩ := hy
    exact pure _ _ _ off e (h3.at_ h4) hp.1 hp.2
  · rename_i cs off
    simp only [VRel] at hy
    obtain ⟨b, o', e, h1, h2, h3⟩ := hy
    exact pure _ _ _ off e h3 hp.1 hp.2
  · rename_i cs
    simp only [VRel, PRel] at hy
    obtain ⟨b, o', e, h1, h2, h3⟩ := hy
    exact pure _ _ _ 0 e h3 (by simpa using hp.1) hp.2
  · exact hp.elim

theorem PRels.cut {w : World} {F : Nat → Prop} {cs : List PV} {vs : List Value} (h : PRels w F cs vs) : ∀ (off n : Nat), PRels w F ((cs.drop off).take n) ((vs.drop off).take n) := by
  induction cs generalizing vs with
  | nil => intro off n; simp only [PRels] at h; subst h; simp [PRels]
  | cons c cs ih =>
    intro off n
    simp only [PRels] at h
    obtain ⟨v, r, rfl, h1, h2⟩ := h
    cases off with
    | zero =>
      cases n with
      | zero => simp [PRels]
      | succ n =>
        simp only [List.drop_zero, List.take_succ_cons, PRels]
        exact ⟨v, r.take n, rfl, h1, by simpa using ih h2 0 n⟩
    | succ off => simpa using ih h2 off n
theorem VRels.cut {cs : List AV} {vs : List Value} (h : VRels x cs vs) : ∀ (off n : Nat), VRels x ((cs.drop off).take n) ((vs.drop off).take n) := by
  induction cs generalizing vs with
  | nil => intro off n; simp only [VRels] at h; subst h; simp [VRels]
  | cons c cs ih =>
    intro off n
    simp only [VRels] at h
    obtain ⟨v, r, rfl, h1, h2⟩ := h
    cases off with
    | zero =>
      cases n with
      | zero => simp [VRels]
      | succ n =>
        simp only [List.drop_zero, List.take_succ_cons, VRels]
        exact ⟨v, r.take n, rfl, h1, by simpa using ih h2 0 n⟩
    | succ off => simpa using ih h2 off n

theorem run_part {w : World} {t : TypeId} {d : TypeDesc} {i : TypeInfo} (ht : P.underlying t = some d) (hi : P.info? t = some i) (vs : List Value) (off : Nat) {u : Value}
    (hu : aggOf P t = false → vs[off]? = some u) (ha : aggOf P t = true → u = .agg ⟨(vs.drop off).take i.size⟩) : (part t ⟨vs⟩ off).run P w = .ok u w := by
  simp only [part, Sem.run_bind, run_isAgg ht, Result.andThen_ok]
  cases h : aggOf P t
  · simp [hu h]
  · have := ha h
    simp only [if_true, sizeOf, typeInfo, Sem.run_bind]
    simp [hi, this]

theorem q_fld {s : TypeId} {y : Operand} {f : Nat} (ho : o.op = .field s y f) {fields : Array Field} {fl : Field} (hs : P.underlying s = some (.struct fields)) (hf : fields[f]? = some fl)
    {d : TypeDesc} {i : TypeInfo} (ht : P.underlying fl.type = some d) (hi : P.info? fl.type = some i) {v : AV} (hy : VRel x v (ev y)) (hp : fldP fl.offset i.size (aggOf P fl.type) v) :
    QOK P x o ev (fldV fl.offset i.size (aggOf P fl.type) v) := by
  unfold fldP at hp
  split at hp
  · rename_i cs
    simp only [VRel, PRel] at hy
    obtain ⟨vs, e, h⟩ := hy
    simp only [fldV, ccut]
    cases ha : aggOf P fl.type
    · obtain ⟨h0, h1⟩ := hp
      rcases h1 with h1 | h1
      · rw [ha] at h1; cases h1
      · obtain ⟨c, h2, h3⟩ := h.at_ (i := fl.offset) (by omega)
        exact ⟨c, by simpa [VRel] using h3, fun w' _ => by simp [execOp, ho, e, Instr.field, run_underlying hs, hf, asAgg, run_part ht hi vs fl.offset (u := c) (fun _ => h2) (fun h => by rw [ha] at h; cases h)]⟩
    · refine ⟨.agg ⟨(vs.drop fl.offset).take i.size⟩, ?_, fun w' _ => by simp [execOp, ho, e, Instr.field, run_underlying hs, hf, asAgg, run_part ht hi vs fl.offset (u := .agg ⟨(vs.drop fl.offset).take i.size⟩) (fun h => by rw [ha] at h; cases h) (fun _ => rfl)]⟩
      simp only [if_true, VRel]
      exact (h.cut _ _).agg
  · rename_i cs
    simp only [VRel] at hy
    obtain ⟨vs, e, h⟩ := hy
    simp only [fldV, acut]
    cases ha : aggOf P fl.type
    · obtain ⟨h0, h1⟩ := hp
      rcases h1 with h1 | h1
      · rw [ha] at h1; cases h1
      · obtain ⟨c, h2, h3⟩ := h.at_ (i := fl.offset) (by omega)
        exact ⟨c, h3, fun w' _ => by simp [execOp, ho, e, Instr.field, run_underlying hs, hf, asAgg, run_part ht hi vs fl.offset (u := c) (fun _ => h2) (fun h => by rw [ha] at h; cases h)]⟩
    · refine ⟨.agg ⟨(vs.drop fl.offset).take i.size⟩, ?_, fun w' _ => by simp [execOp, ho, e, Instr.field, run_underlying hs, hf, asAgg, run_part ht hi vs fl.offset (u := .agg ⟨(vs.drop fl.offset).take i.size⟩) (fun h => by rw [ha] at h; cases h) (fun _ => rfl)]⟩
      simp only [if_true]
      exact mkAgg_rel (h.cut _ _)
  · exact hp.elim

theorem q_conv {s t : TypeId} {y : Operand} {k : IntKind} {ds : TypeDesc} (ho : o.op = .convert s t y) (hs : P.underlying s = some ds) (ht : P.underlying t = some (.int k)) {v : AV} (hy : VRel x v (ev y)) (hp : convP k v) :
    QOK P x o ev (convV k v) := by
  unfold convP at hp
  split at hp
  · simp only [VRel, PRel] at hy
    exact QOK.sc rfl fun w' => by simp [execOp, ho, hy, convert, run_underlying hs, run_underlying ht, Conv.intToInt, wrap_fits hp]
  · exact hp.elim

theorem intsOf_rel {w : World} {F : Nat → Prop} : ∀ {ps : List PV} {ns : List Int} {b o : Nat}, intsOf ps = some ns → PElems w F ps b o → ns.length = ps.length ∧ ∀ (j : Nat) c, (ns.map (Value.int .u8))[j]? = some c → w.cell? ⟨b, o + j, none⟩ = some c
  | [], ns, b, o, h, _ => by
    simp only [intsOf, Option.some.injEq] at h; subst h
    exact ⟨rfl, fun j c hj => by simp at hj⟩
  | p :: ps, ns, b, o, h, he => by
    unfold intsOf at h
    split at h
    · cases ‹p :: ps = []›
    · rename_i n qs e
      injection e with e1 e2; subst e1; subst e2
      split at h
      · rename_i ms hms
        injection h with h; subst h
        simp only [PElems, PRel] at he
        obtain ⟨⟨v, h1, h2⟩, h3⟩ := he
        obtain ⟨g1, g2⟩ := intsOf_rel hms h3
        refine ⟨by simp [g1], fun j c hj => ?_⟩
        cases j with
        | zero =>
          simp only [List.map_cons, List.getElem?_cons_zero, Option.some.injEq] at hj
          subst hj; subst h2
          simpa using h1
        | succ j =>
          have := g2 j c (by simpa using hj)
          rw [show o + (j + 1) = o + 1 + j by omega]
          exact this
      · cases h
    · cases h
theorem q_strC {s t et : TypeId} {y : Operand} (ho : o.op = .convert s t y) (hs : P.underlying s = some (.slice et)) (ht : P.underlying t = some .string) (het : P.underlying et = some (.int .u8)) {ps : List PV} {ns : List Int} (hns : intsOf ps = some ns)
    {a : Option Addr} {n c : Nat} (e1 : ev y = .slice a n c) (e2 : n = ps.length) (h3 : 0 < n → ∃ b o', a = some ⟨b, o', none⟩ ∧ PElems x.w x.F ps b o') :
    QOK P x o ev (strV (.pv (.lst ps))) := by
  simp only [strV, hns]
  refine ⟨.string (strOf ns), by simp only [VRel, PRel], fun w' hk => ?_⟩
  have go : ∀ (ad : Addr), a = some ad → (loadCells ad n).run P w' = .ok (ns.map (Value.int .u8)).toArray w' → (execOp ev o).run P w' = .ok (.value (.string (strOf ns))) w' := by
    intro ad had hl
    subst had
    have := run_bytesToString (P := P) w' ad n c ns hl
    simp [execOp, ho, e1, convert, run_underlying hs, run_underlying ht, run_underlying het, this, strOf]
  rcases Nat.eq_zero_or_pos n with h0 | h0
  · have hps : ps = [] := List.eq_nil_of_length_eq_zero (by omega)
    subst hps
    simp only [intsOf, Option.some.injEq] at hns
    subst hns; subst h0
    cases a with
    | none => simp [execOp, ho, e1, convert, run_underlying hs, run_underlying ht, run_underlying het, Conv.bytesToString, strOf]
    | some ad =>
      refine go ad rfl ?_
      simp [loadCells, loadCellsFrom]
  · obtain ⟨b, o', hab, hE⟩ := h3 h0
    obtain ⟨g1, g2⟩ := intsOf_rel hns hE
    refine go _ hab ?_
    have := run_loadCells (P := P) (w := w') b o' (ns.map (Value.int .u8)) (fun j cc hj => hk.cell (g2 j cc hj))
    rw [List.length_map, g1, ← e2] at this
    exact this
theorem PRels_get {w : World} {F : Nat → Prop} : ∀ {ps : List PV} {vs : List Value}, PRels w F ps vs → ∀ i, i < ps.length → ∃ v, vs[i]? = some v ∧ PRel w F (ps.getD i default) v
  | [], vs, h, i, hi => by simp at hi
  | p :: ps, vs, h, i, hi => by
    simp only [PRels] at h
    obtain ⟨v, r, rfl, h1, h2⟩ := h
    cases i with
    | zero => exact ⟨v, rfl, h1⟩
    | succ i =>
      obtain ⟨u, g1, g2⟩ := PRels_get h2 i (by simpa using hi)
      exact ⟨u, by simpa using g1, by simpa using g2⟩
theorem q_idxa {t : TypeId} {y z : Operand} {n : Nat} {e : TypeId} {k : IntKind} {i : TypeInfo} (ho : o.op = .index t y z) (ht : P.underlying t = some (.array n e)) (he : P.underlying e = some (.int k)) (hi : P.info? e = some i) (hi1 : i.size = 1)
    {u v : AV} (hy : VRel x u (ev y)) (hz : VRel x v (ev z)) (hp : idxaP n u v) : QOK P x o ev (idxaV u v) := by
  unfold idxaP at hp
  split at hp
  · rename_i ps k' m
    simp only [VRel, PRel] at hy hz
    obtain ⟨vs, hy, hvs⟩ := hy
    obtain ⟨⟨h0, h1, h2⟩, hs⟩ := hp
    obtain ⟨cv, g1, g2⟩ := PRels_get hvs m.toNat (by omega)
    obtain ⟨c, hc⟩ : ∃ c, ps.getD m.toNat default = .sc c := by
      unfold isSc at hs
      split at hs
      · rename_i c he'; exact ⟨c, he'⟩
      · exact hs.elim
    simp only [idxaV]
    rw [hc] at g2 ⊢
    simp only [PRel] at g2
    subst g2
    refine QOK.sc rfl fun w' => ?_
    have e0 : (sizeOf e).run P w' = .ok i.size w' := by simp [sizeOf, typeInfo, hi]
    have e1 : (part e ⟨vs⟩ (m.toNat * i.size)).run P w' = .ok cv w' := by
      rw [hi1, Nat.mul_one]
      have ha : aggOf P e = false := by simp [aggOf, he]
      simp [part, run_isAgg he, ha, g1]
    simp only [execOp, ho, hy, hz, Instr.index, asIntOf, Sem.run_bind, Sem.run_pure, Result.andThen_ok, run_underlying ht, h0, h1, and_self, if_true, e0, e1]
  · exact hp.elim

theorem q_idx {t : TypeId} {y z : Operand} (ho : o.op = .index t y z) (ht : P.underlying t = some .string) {u v : AV} (hy : VRel x u (ev y)) (hz : VRel x v (ev z)) (hp : idxP u v) : QOK P x o ev (idxV u v) := by
  unfold idxP at hp
  split at hp
  · rename_i s k n
    simp only [VRel, PRel] at hy hz
    obtain ⟨h0, h1⟩ := hp
    have hlt : n.toNat < s.size := by omega
    have hg : s[n.toNat]? = some s[n.toNat] := by simp [hlt]
    refine QOK.sc rfl fun w' => ?_
    simp only [execOp, ho, hy, hz, Instr.index, asIntOf, Sem.run_bind, Sem.run_pure, Result.andThen_ok, run_underlying ht, h0, if_true, hg]
    have e : s.data.getD n.toNat 0 = s[n.toNat] := by
      have : n.toNat < s.data.size := hlt
      rw [Array.getD_eq_getD_getElem?, Array.getElem?_eq_getElem this]; rfl
    simp [e]
  · exact hp.elim
end
end Go.Vc

namespace Go.Vc
open Go.RowKit
section
variable {P : Program} {x : Cx} {o : Oper} {ev : Operand → Value}

theorem PElems.take {w : World} {F : Nat → Prop} : ∀ {xs : List PV} {b o' : Nat} (n : Nat), PElems w F xs b o' → PElems w F (xs.take n) b o'
  | [], _, _, n, _ => by simp [PElems]
  | _ :: _, _, _, 0, _ => by simp [PElems]
  | y :: xs, b, o', n + 1, h => by
    cases y with
    | agg cs => simp only [PElems, List.take_succ_cons] at h ⊢; exact ⟨h.1, h.2.take n⟩
    | _ => simp only [PElems, List.take_succ_cons] at h ⊢; exact ⟨h.1, h.2.take n⟩
theorem PElems.drop {w : World} {F : Nat → Prop} : ∀ {xs : List PV} {b o' s : Nat} (n : Nat), PElems w F xs b o' → (∀ p ∈ xs, p.cells.length = s) → n ≤ xs.length → PElems w F (xs.drop n) b (o' + n * s)
  | [], _, _, _, n, _, _, _ => by simp [PElems]
  | _ :: _, _, _, _, 0, h, _, _ => by simpa using h
  | y :: xs, b, o', s, n + 1, h, hs, hl => by
    have hw := hs y (by simp)
    have key : PElems w F xs b (o' + s) := by
      cases y with
      | agg cs => simp only [PElems] at h; simp only [PV.cells] at hw; rw [← hw]; exact h.2
      | _ => simp only [PElems] at h; simp only [PV.cells, List.length_cons, List.length_nil] at hw; rw [← hw]; exact h.2
    have := PElems.drop n key (fun p hp => hs p (List.mem_cons_of_mem _ hp)) (by simpa using hl)
    have e : o' + (n + 1) * s = o' + s + n * s := by rw [Nat.succ_mul]; omega
    rw [e]; simpa using this

/-- the bounds of a slice expression -/
theorem run_sliceBounds {w : World} {isSlice : Bool} {len cap : Nat} {lo hi : Option Value} {l h : Int} (hlo : lo = none ∧ l = 0 ∨ ∃ k, lo = some (.int k l)) (hhi : hi = none ∧ h = len ∨ ∃ k, hi = some (.int k h))
    (h0 : 0 ≤ l) (h1 : l ≤ h) (h2 : h ≤ len) (h3 : len ≤ cap) : (Instr.sliceBounds isSlice len cap lo hi none).run P w = .ok (l.toNat, h.toNat, cap) w := by
  have a1 : h ≤ cap := by omega
  have a2 : 0 ≤ h := by omega
  have a5 : l ≤ (len : Int) := by omega
  rcases hlo with ⟨rfl, rfl⟩ | ⟨k, rfl⟩ <;> rcases hhi with ⟨rfl, rfl⟩ | ⟨k', rfl⟩
  · simp [Instr.sliceBounds]
  · simp [Instr.sliceBounds, Instr.sliceBound, asIntOf, a1, a2]
  · simp [Instr.sliceBounds, Instr.sliceBound, asIntOf, a5, h0]
  · have a6 : ¬ max h 0 < l := by omega
    simp [Instr.sliceBounds, Instr.sliceBound, asIntOf, a1, a2, h0, a6]

theorem bnd_opt {e : Env} {σ : St} {a : Act} (hS : SRel e σ x a) {y : Operand} {z : Opd} (hz : Opd.of y = some z) (hc : z.cd σ = true) (hi : isInt (z.sv σ)) : ∃ k, a.eval y = .int k (bnd (z.sv σ)) := by
  have := Opd.of_sv hS hz hc
  unfold isInt at hi
  split at hi
  · rename_i k n he
    rw [he] at this ⊢
    simp only [VRel, PRel] at this
    exact ⟨k, this⟩
  · exact hi.elim

theorem q_slc {e : Env} {σ : St} {t : TypeId} {y : Operand} {lo hi : Option Operand} (ho : o.op = .slice t y lo hi none) {v : AV} (hS : ∃ a, SRel e σ x a) {s : Nat} {str : Bool} {l h : Int}
    (hlo : lo.map ev = none ∧ l = 0 ∨ ∃ k, lo.map ev = some (.int k l)) (hhi : hi.map ev = none ∧ h = sizeOfV v ∨ ∃ k, hi.map ev = some (.int k h))
    (hk : str = true ∧ P.underlying t = some .string ∨ str = false ∧ ∃ et i, P.underlying t = some (.slice et) ∧ P.info? et = some i ∧ i.size = s)
    (hy : VRel x v (ev y)) (hp : slcP σ s str l h v) : QOK P x o ev (slcV l h v) := by
  obtain ⟨a, hS⟩ := hS
  unfold slcP at hp
  split at hp
  · rename_i xs
    obtain ⟨hstr, h0, h1, h2, h3⟩ := hp
    rcases hk with ⟨hs1, _⟩ | ⟨_, et, i, ht, hi', hsz⟩
    · rw [hstr] at hs1; cases hs1
    · simp only [VRel, PRel] at hy
      obtain ⟨ad, n, c, e1, e2, e3, e4⟩ := hy
      simp only [sizeOfV] at hhi
      have hr : ∀ w' : World, (execOp ev o).run P w' = .ok (.value (.slice (if c = l.toNat then ad else ad.map (·.add (l.toNat * s))) (h.toNat - l.toNat) (c - l.toNat))) w' := fun w' => by
        simp [execOp, ho, e1, Instr.sliceAt, run_underlying ht, Instr.slice, run_sliceBounds (P := P) (w := w') (isSlice := true) (len := n) (cap := c) hlo (by rw [e2]; exact hhi) h0 h1 (by omega) e3, sizeOf, typeInfo, hi', hsz]
      refine ⟨_, ?_, fun w' _ => hr w'⟩
      simp only [slcV, VRel, PRel]
      have hlen : h.toNat - l.toNat = ((xs.take h.toNat).drop l.toNat).length := by
        rw [List.length_drop, List.length_take]; omega
      have hne : 0 < h.toNat - l.toNat → 0 < n ∧ ¬ c = l.toNat := by omega
      refine ⟨_, _, _, rfl, hlen, by omega, fun hn => ?_⟩
      obtain ⟨b, o', rfl, h5, h6, h7⟩ := e4 (hne hn).1
      rw [if_neg (hne hn).2]
      refine ⟨b, o' + l.toNat * s, by simp [addr_add], h5, h6, ?_⟩
      exact (h7.take h.toNat).drop l.toNat (fun p hp => (h3 p (List.mem_of_mem_take hp)).1) (by rw [List.length_take]; omega)
  · rename_i u
    obtain ⟨hstr, h0, h1, h2⟩ := hp
    rcases hk with ⟨_, ht⟩ | ⟨hn, _⟩
    · simp only [VRel, PRel] at hy
      simp only [sizeOfV] at hhi
      exact QOK.sc rfl fun w' => by simp [execOp, ho, hy, Instr.sliceAt, run_underlying ht, Instr.slice, run_sliceBounds (P := P) (w := w') (isSlice := false) (len := u.size) (cap := u.size) hlo hhi h0 h1 h2 (Nat.le_refl _)]
    · rw [hstr] at hn; cases hn
  · rename_i r off m
    obtain ⟨hstr, h0, h1, h2, h3⟩ := hp
    rcases hk with ⟨hs1, _⟩ | ⟨_, et, i, ht, hi', hsz⟩
    · rw [hstr] at hs1; cases hs1
    · simp only [VRel] at hy
      simp only [sizeOfV] at hhi
      rcases hy with ⟨hm, hcp, ad, e1⟩ | ⟨c, hok, e1, h4, h5, h6⟩
      · have hl : l = 0 := by omega
        have hh : h = 0 := by omega
        subst hl; subst hh; subst hm
        have hr : ∀ w' : World, (execOp ev o).run P w' = .ok (.value (.slice ad 0 0)) w' := fun w' => by
          have := run_sliceBounds (P := P) (w := w') (isSlice := true) (len := 0) (cap := 0) (l := 0) (h := 0) hlo hhi (by omega) (by omega) (by omega) (Nat.le_refl _)
          simp [execOp, ho, e1, Instr.sliceAt, run_underlying ht, Instr.slice, this, sizeOf, typeInfo, hi']
        refine ⟨_, ?_, fun w' _ => hr w'⟩
        simp only [slcV, VRel]
        exact .inl ⟨by simp, by simpa using hcp, ad, rfl⟩
      · have hs : (x.ρ r).s = s := by
          unfold rowS at h3
          split at h3
          · rename_i s' xs hrow
            injection h3 with h3; subst h3
            have := hS.st _ _ (stGet_mem hrow)
            simp only [Row.rel] at this
            rcases this with ⟨h3, _⟩ | h3
            · rw [h3] at hok; cases hok
            · exact h3.1
          · rename_i s' xs hrow
            injection h3 with h3; subst h3
            have := hS.st _ _ (stGet_mem hrow)
            simp only [Row.rel] at this
            rcases this with ⟨h3, _⟩ | h3
            · rw [h3] at hok; cases hok
            · exact h3.1
          · rename_i cells hrow
            injection h3 with h3
            have := hS.st _ _ (stGet_mem hrow)
            simp only [Row.rel] at this
            rw [← h3]; exact this.2.1.1
          · cases h3
        have hr : ∀ w' : World, (execOp ev o).run P w' = .ok (.value (.slice (if c = l.toNat then some ⟨(x.ρ r).blk, (x.ρ r).base + off * (x.ρ r).s, none⟩ else some ⟨(x.ρ r).blk, (x.ρ r).base + off * (x.ρ r).s + l.toNat * s, none⟩) (h.toNat - l.toNat) (c - l.toNat))) w' := fun w' => by
          have := run_sliceBounds (P := P) (w := w') (isSlice := true) (len := m) (cap := c) hlo hhi h0 h1 h2 h4
          simp [execOp, ho, e1, Instr.sliceAt, run_underlying ht, Instr.slice, this, sizeOf, typeInfo, hi', hsz, addr_add]
        refine ⟨_, ?_, fun w' _ => hr w'⟩
        simp only [slcV, VRel]
        by_cases hcl : c = l.toNat
        · rw [if_pos hcl]
          exact .inl ⟨by omega, fun _ => by omega, _, by rw [show h.toNat - l.toNat = 0 by omega, show c - l.toNat = 0 by omega]⟩
        · rw [if_neg hcl]
          refine .inr ⟨c - l.toNat, hok, ?_, by omega, by omega, by omega⟩
          rw [hs, Nat.add_mul, Nat.add_assoc]
  · obtain ⟨hstr, rfl, rfl⟩ := hp
    rcases hk with ⟨hs1, _⟩ | ⟨_, et, i, ht, hi', hsz⟩
    · rw [hstr] at hs1; cases hs1
    · simp only [VRel] at hy
      obtain ⟨ad, e1⟩ := hy
      have hr : ∀ w' : World, (execOp ev o).run P w' = .ok (.value (.slice ad 0 0)) w' := fun w' => by
        have := run_sliceBounds (P := P) (w := w') (isSlice := true) (len := 0) (cap := 0) (l := 0) (h := 0) hlo hhi (by omega) (by omega) (by omega) (Nat.le_refl _)
        simp [execOp, ho, e1, Instr.sliceAt, run_underlying ht, Instr.slice, this, sizeOf, typeInfo, hi']
      exact ⟨_, by simp only [slcV, VRel]; exact ⟨ad, rfl⟩, fun w' _ => hr w'⟩
  · exact hp.elim
end
end Go.Vc

namespace Go.Vc
open Go.RowKit
section
variable {P : Program} {x : Cx} {o : Oper} {ev : Operand → Value}

theorem PRels.vrels : ∀ {ps : List PV} {vs : List Value}, PRels x.w x.F ps vs → VRels x (ps.map .pv) vs
  | [], _, h => by simpa only [PRels, VRels, List.map_nil] using h
  | p :: ps, _, h => by
    simp only [PRels] at h
    obtain ⟨v, r, rfl, h1, h2⟩ := h
    simp only [List.map_cons, VRels, VRel]
    exact ⟨v, r, rfl, h1, h2.vrels⟩

theorem cells_rel {v : AV} {cv : Value} (h : VRel x v cv) (ho : okc v = true) : VRels x v.cells cv.cells.toList := by
  have one : ∀ {u : AV} {c : Value}, VRel x u c → c.cells = #[c] → VRels x [u] c.cells.toList := fun {u c} hu hc => by
    rw [hc]; simp only [VRels]; exact ⟨c, [], rfl, hu, rfl⟩
  cases v with
  | un => simp [okc] at ho
  | whn c v => simp [okc] at ho
  | agg cs => simp only [VRel] at h; obtain ⟨vs, rfl, h⟩ := h; exact h
  | pv p =>
    cases p with
    | agg cs => simp only [VRel, PRel] at h; obtain ⟨vs, rfl, h⟩ := h; exact h.vrels
    | sc c =>
      have h' := h
      simp only [VRel, PRel] at h
      subst h
      cases cv <;> first | (simp [okc] at ho; done) | exact one h' rfl
    | lst xs => have h' := h; simp only [VRel, PRel] at h; obtain ⟨_, _, _, rfl, _⟩ := h; exact one h' rfl
    | tup xs => have h' := h; simp only [VRel, PRel] at h; obtain ⟨_, rfl, _⟩ := h; exact one h' rfl
    | fn f xs => have h' := h; simp only [VRel, PRel] at h; obtain ⟨_, rfl, _⟩ := h; exact one h' rfl
    | pt xs => have h' := h; simp only [VRel, PRel] at h; obtain ⟨_, _, rfl, _⟩ := h; exact one h' rfl
  | tup vs => have h' := h; simp only [VRel] at h; obtain ⟨_, rfl, _⟩ := h; exact one h' rfl
  | e0 => have h' := h; simp only [VRel] at h; obtain ⟨_, rfl⟩ := h; exact one h' rfl
  | lit xs => have h' := h; simp only [VRel] at h; obtain ⟨_, _, _, rfl, _⟩ := h; exact one h' rfl
  | row r off n => have h' := h; simp only [VRel] at h; rcases h with ⟨_, _, _, rfl⟩ | ⟨_, _, rfl, _⟩ <;> exact one h' rfl
  | ptr r off => have h' := h; simp only [VRel] at h; subst h; exact one h' rfl
  | rptr r i off => have h' := h; simp only [VRel] at h; subst h; exact one h' rfl
  | eptr xs i off => have h' := h; simp only [VRel] at h; obtain ⟨_, _, rfl, _⟩ := h; exact one h' rfl
  | cptr xs off => have h' := h; simp only [VRel] at h; obtain ⟨_, _, rfl, _⟩ := h; exact one h' rfl
  | fn f xs => have h' := h; simp only [VRel] at h; obtain ⟨_, rfl, _⟩ := h; exact one h' rfl
  | mp r => have h' := h; simp only [VRel] at h; subst h; exact one h' rfl
  | it r => have h' := h; simp only [VRel] at h; subst h; exact one h' rfl

theorem VRels.length : ∀ {vs : List AV} {cs : List Value}, VRels x vs cs → cs.length = vs.length
  | [], _, h => by simp only [VRels] at h; subst h; rfl
  | _ :: vs, _, h => by simp only [VRels] at h; obtain ⟨v, r, rfl, _, h⟩ := h; simp [h.length]
theorem PRels.length {w : World} {F : Nat → Prop} : ∀ {vs : List PV} {cs : List Value}, PRels w F vs cs → cs.length = vs.length
  | [], _, h => by simp only [PRels] at h; subst h; rfl
  | _ :: vs, _, h => by simp only [PRels] at h; obtain ⟨v, r, rfl, _, h⟩ := h; simp [h.length]

theorem VRels.set : ∀ {vs : List AV} {cs : List Value} {i : Nat} {v : AV} {c : Value}, VRels x vs cs → VRel x v c → VRels x (vs.set i v) (cs.set i c)
  | [], _, _, _, _, h, _ => by simp only [VRels] at h; subst h; simp [VRels]
  | u :: vs, _, 0, v, c, h, hv => by
    simp only [VRels] at h
    obtain ⟨v', r, rfl, h1, h2⟩ := h
    simp only [List.set_cons_zero, VRels]
    exact ⟨c, r, rfl, hv, h2⟩
  | u :: vs, _, i + 1, v, c, h, hv => by
    simp only [VRels] at h
    obtain ⟨v', r, rfl, h1, h2⟩ := h
    simp only [List.set_cons_succ, VRels]
    exact ⟨v', r.set i c, rfl, h1, h2.set hv⟩

def layC (cs : List Value) (off : Nat) : List Value → List Value
  | [] => cs
  | v :: vs => layC (cs.set off v) (off + 1) vs
theorem lay_rel : ∀ {vs : List AV} {vvs : List Value} {cs : List AV} {cvs : List Value} {off : Nat}, VRels x vs vvs → VRels x cs cvs → VRels x (lay cs off vs) (layC cvs off vvs)
  | [], _, _, _, _, h, hc => by simp only [VRels] at h; subst h; exact hc
  | v :: vs, _, cs, cvs, off, h, hc => by
    simp only [VRels] at h
    obtain ⟨c, r, rfl, h1, h2⟩ := h
    simp only [lay, layC]
    exact lay_rel h2 (hc.set h1)
theorem layC_fold (off : Nat) : ∀ (vs : List Value) (k : Nat) (cs : List Value), ((vs.zipIdx k).foldl (fun (cs : Array Value) (q : Value × Nat) => cs.setIfInBounds (off + q.2) q.1) ⟨cs⟩) = ⟨layC cs (off + k) vs⟩
  | [], k, cs => rfl
  | v :: vs, k, cs => by
    simp only [List.zipIdx_cons, List.foldl_cons, layC]
    have := layC_fold off vs (k + 1) (cs.set (off + k) v)
    rw [show off + (k + 1) = off + k + 1 by omega] at this
    rw [← this]
    congr 1
    exact List.setIfInBounds_toArray ..
theorem lay_length : ∀ (vs : List AV) (cs : List AV) (off : Nat), (lay cs off vs).length = cs.length
  | [], _, _ => rfl
  | v :: vs, cs, off => by simp only [lay, lay_length vs]; simp
theorem layC_length : ∀ (vs : List Value) (cs : List Value) (off : Nat), (layC cs off vs).length = cs.length
  | [], _, _ => rfl
  | v :: vs, cs, off => by simp only [layC, layC_length vs]; simp

/-- the parts of a composite literal, as the IR has them -/
def PartsOK (place : Nat → Option (Nat × Nat)) : List (Nat × Operand) → List (Nat × Nat × Opd) → Prop
  | [], qs => qs = []
  | (i, y) :: ps, qs => ∃ off n z r, qs = (off, n, z) :: r ∧ place i = some (off, n) ∧ Opd.of y = some z ∧ PartsOK place ps r

theorem fill_rel {e : Env} {σ : St} {a : Act} (hS : SRel e σ x a) {place : Nat → Option (Nat × Nat)} : ∀ {ps : List (Nat × Operand)} {qs : List (Nat × Nat × Opd)} {cs : List AV} {cvs : List Value},
    PartsOK place ps qs → cds σ (qs.map (·.2.2)) = true → mkP σ cs.length qs → VRels x cs cvs →
    ∃ out, Instr.fill place ⟨cvs⟩ (ps.map fun q => (q.1, a.eval q.2)) = some ⟨out⟩ ∧ VRels x (mkV σ qs cs) out
  | [], qs, cs, cvs, h, _, _, hc => by
    simp only [PartsOK] at h; subst h
    exact ⟨cvs, rfl, hc⟩
  | (i, y) :: ps, qs, cs, cvs, h, hcd, hp, hc => by
    simp only [PartsOK] at h
    obtain ⟨off, n, z, r, rfl, h1, h2, h3⟩ := h
    simp only [List.map_cons, cds, Bool.and_eq_true] at hcd
    simp only [mkP] at hp
    obtain ⟨p1, p2, p3, p4⟩ := hp
    have hv := Opd.of_sv hS h2 hcd.1
    have hcl := cells_rel hv p1
    have hlen : (a.eval y).cells.size = n := by have := hcl.length; rw [p2] at this; simpa using this
    have hcs : cvs.length = cs.length := hc.length
    simp only [List.map_cons, Instr.fill, h1]
    rw [if_neg (by simp [hlen]; omega)]
    have hf := layC_fold off (a.eval y).cells.toList 0 cvs
    simp only [Nat.add_zero] at hf
    have hf' : ((a.eval y).cells.zipIdx.foldl (fun (cs : Array Value) (q : Value × Nat) => cs.setIfInBounds (off + q.2) q.1) ⟨cvs⟩) = ⟨layC cvs off (a.eval y).cells.toList⟩ := by
      rw [← hf, ← Array.foldl_toList, Array.toList_zipIdx]
    obtain ⟨out, g1, g2⟩ := fill_rel hS (cs := lay cs off (z.sv σ).cells) (cvs := layC cvs off (a.eval y).cells.toList) h3 hcd.2 (by rw [lay_length]; exact p4) (lay_rel hcl hc)
    refine ⟨out, ?_, g2⟩
    rw [← g1, ← hf']

/-- where the fields lie, and their sizes -/
def placesOf (P : Program) : List Field → Option (List (Nat × Nat))
  | [] => some []
  | f :: fs => match P.info? f.type, placesOf P fs with
    | some i, some r => some ((f.offset, i.size) :: r)
    | _, _ => none
theorem run_places {w : World} : ∀ {fs : List Field} {ps : List (Nat × Nat)}, placesOf P fs = some ps → (fs.mapM fun f => (Functor.map (Prod.mk f.offset) (sizeOf f.type) : Sem (Nat × Nat))).run P w = .ok ps w
  | [], ps, h => by simp only [placesOf, Option.some.injEq] at h; subst h; simp
  | f :: fs, ps, h => by
    simp only [placesOf] at h
    split at h
    · rename_i i r h1 h2
      injection h with h; subst h
      simp only [List.mapM_cons, Sem.run_bind]
      have e1 : (Functor.map (Prod.mk f.offset) (sizeOf f.type) : Sem (Nat × Nat)).run P w = .ok (f.offset, i.size) w := by simp [sizeOf, typeInfo, h1]
      simp only [e1, Result.andThen_ok, run_places h2, Sem.run_pure]
    · cases h

theorem q_mk {e : Env} {σ : St} {a : Act} (hS : SRel e σ x a) {t : TypeId} {parts : Array (Nat × Operand)} (ho : o.op = .build t parts) {fields : Array Field} (ht : P.underlying t = some (.struct fields))
    {i : TypeInfo} {zv : Value} (hi : P.info? t = some i) (hz : i.zero = some zv) {zero : List AV} (hzero : VRels x zero zv.cells.toList) {places : List (Nat × Nat)}
    (hpl : placesOf P fields.toList = some places) {qs : List (Nat × Nat × Opd)} (hq : PartsOK (fun i => places[i]?) parts.toList qs)
    (hcd : cds σ (qs.map (·.2.2)) = true) (hp : mkP σ zero.length qs) : QOK P x o a.eval (mkAggN (mkV σ qs zero)) := by
  obtain ⟨out, h1, h2⟩ := fill_rel hS hq hcd hp hzero
  refine ⟨.agg ⟨out⟩, mkAggN_rel h2, fun w' _ => ?_⟩
  have e1 : (parts.map fun q => (q.1, a.eval q.2)).toList = parts.toList.map fun q => (q.1, a.eval q.2) := by simp
  have h1' : Instr.fill (fun i => places[i]?) zv.cells (parts.toList.map fun q => (q.1, a.eval q.2)) = some ⟨out⟩ := h1
  have hm : (fields.mapM fun f => (Functor.map (Prod.mk f.offset) (sizeOf f.type) : Sem (Nat × Nat))).run P w' = .ok ⟨places⟩ w' := by
    have := run_places (w := w') hpl
    rw [show fields = fields.toList.toArray by simp, List.mapM_toArray]
    simp [this]
  simp only [execOp, ho, Instr.build, Sem.run_bind, zeroValue, typeInfo]
  simp [hi, hz, run_underlying ht, hm, h1']
theorem PartsOK.mono {p q : Nat → Option (Nat × Nat)} (h : ∀ i r, p i = some r → q i = some r) : ∀ {ps : List (Nat × Operand)} {qs : List (Nat × Nat × Opd)}, PartsOK p ps qs → PartsOK q ps qs
  | [], _, hp => by simpa only [PartsOK] using hp
  | (i, y) :: ps, _, hp => by
    simp only [PartsOK] at hp ⊢
    obtain ⟨off, n, z, r, e1, e2, e3, e4⟩ := hp
    exact ⟨off, n, z, r, e1, h _ _ e2, e3, PartsOK.mono h e4⟩
theorem q_mkA {e : Env} {σ : St} {a : Act} (hS : SRel e σ x a) {t ea : TypeId} {n : Nat} {parts : Array (Nat × Operand)} (ho : o.op = .build t parts) (ht : P.underlying t = some (.array n ea)) {i ie : TypeInfo} {zv : Value} (hi : P.info? t = some i) (hie : P.info? ea = some ie) (hz : i.zero = some zv)
    {zero : List AV} (hzero : VRels x zero zv.cells.toList) {qs : List (Nat × Nat × Opd)} (hq : PartsOK (fun i => ((List.range n).map fun j => (j * ie.size, ie.size))[i]?) parts.toList qs)
    (hcd : cds σ (qs.map (·.2.2)) = true) (hp : mkP σ zero.length qs) : QOK P x o a.eval (mkAggN (mkV σ qs zero)) := by
  have hq2 : PartsOK (fun i => some (i * ie.size, ie.size)) parts.toList qs := hq.mono fun j r hj => by
    simp only [List.getElem?_map, Option.map_eq_some_iff] at hj
    obtain ⟨m, hm, rfl⟩ := hj
    rw [List.getElem?_range] at hm
    · injection hm with hm; subst hm; rfl
    · apply Classical.byContradiction
      intro hno
      rw [List.getElem?_eq_none (by simpa using hno)] at hm
      cases hm
  obtain ⟨out, h1, h2⟩ := fill_rel hS hq2 hcd hp hzero
  refine ⟨.agg ⟨out⟩, mkAggN_rel h2, fun w' _ => ?_⟩
  have e1 : (parts.map fun q => (q.1, a.eval q.2)).toList = parts.toList.map fun q => (q.1, a.eval q.2) := by simp
  have h1' : Instr.fill (fun i => some (i * ie.size, ie.size)) zv.cells (parts.toList.map fun q => (q.1, a.eval q.2)) = some ⟨out⟩ := h1
  have e2 : (sizeOf ea).run P w' = .ok ie.size w' := by simp [sizeOf, typeInfo, hie]
  simp only [execOp, ho, Instr.build, Sem.run_bind, zeroValue, typeInfo]
  simp [hi, hz, run_underlying ht, e2, h1']
end
end Go.Vc

namespace Go.Vc
open Go.RowKit
section
variable {P : Program} {x : Cx} {o : Oper} {ev : Operand → Value}

/-! ### lists of operands -/
def opdsOf : List Operand → Option (List Opd)
  | [] => some []
  | y :: ys => match Opd.of y, opdsOf ys with
    | some z, some zs => some (z :: zs)
    | _, _ => none
theorem opds_rel {e : Env} {σ : St} {a : Act} (hS : SRel e σ x a) : ∀ {ys : List Operand} {zs : List Opd}, opdsOf ys = some zs → cds σ zs = true → VRels x (evs σ zs) (ys.map a.eval)
  | [], zs, h, _ => by simp only [opdsOf, Option.some.injEq] at h; subst h; simp [evs, VRels]
  | y :: ys, zs, h, hc => by
    simp only [opdsOf] at h
    split at h
    · rename_i z zs' h1 h2
      injection h with h; subst h
      simp only [cds, Bool.and_eq_true] at hc
      simp only [evs, List.map_cons, VRels]
      exact ⟨_, _, rfl, Opd.of_sv hS h1 hc.1, opds_rel hS h2 hc.2⟩
    · cases h

theorem q_clo {e : Env} {σ : St} {a : Act} (hS : SRel e σ x a) {f : FuncId} {captured : Array Operand} (ho : o.op = .makeFunc (.func f) #[] captured) {zs : List Opd} (hz : opdsOf captured.toList = some zs)
    (hc : cds σ zs = true) : QOK P x o a.eval (allPvs (evs σ zs) f) := by
  have h := opds_rel hS hz hc
  refine ⟨.func (.func f) #[] ⟨captured.toList.map a.eval⟩, ?_, fun w' _ => by simp [execOp, ho, Instr.makeFunc]; exact Array.toList_inj.1 (by simp)⟩
  unfold allPvs
  split
  · rename_i ps hp
    simp only [VRel, PRel]
    exact ⟨_, rfl, allPv_rel hp h⟩
  · simp only [VRel]
    exact ⟨_, rfl, h⟩

/-! ### cells and lists of values -/
theorem ACells.list {cs : List AV} {b o' : Nat} (h : ACells x cs b o') : ∃ vs, VRels x cs vs ∧ CellsAt x.w b o' vs := by
  obtain ⟨vs, _, h2, h3⟩ := h.cut 0 cs.length (by omega)
  exact ⟨vs, by simpa using h2, by simpa using h3⟩
theorem ACells.of : ∀ {cs : List AV} {vs : List Value} {b o' : Nat}, VRels x cs vs → CellsAt x.w b o' vs → ACells x cs b o'
  | [], _, _, _, _, _ => by simp only [ACells]
  | c :: cs, vs, b, o', h, hc => by
    simp only [VRels] at h
    obtain ⟨v, r, rfl, h1, h2⟩ := h
    simp only [ACells]
    refine ⟨⟨v, by simpa using hc 0 v rfl, h1⟩, ACells.of h2 fun j c' hj => ?_⟩
    have := hc (j + 1) c' (by simpa using hj)
    rw [← this]; congr 2; omega
theorem PCells.of {w : World} {F : Nat → Prop} : ∀ {cs : List PV} {vs : List Value} {b o' : Nat}, PRels w F cs vs → CellsAt w b o' vs → PCells w F cs b o'
  | [], _, _, _, _, _ => by simp only [PCells]
  | c :: cs, vs, b, o', h, hc => by
    simp only [PRels] at h
    obtain ⟨v, r, rfl, h1, h2⟩ := h
    simp only [PCells]
    refine ⟨⟨v, by simpa using hc 0 v rfl, h1⟩, PCells.of h2 fun j c' hj => ?_⟩
    have := hc (j + 1) c' (by simpa using hj)
    rw [← this]; congr 2; omega

theorem CellsAt.left {w : World} {b o' : Nat} {u v : List Value} (h : CellsAt w b o' (u ++ v)) : CellsAt w b o' u := fun j c hj => h j c (by
  have := (List.getElem?_eq_some_iff.1 hj).1
  rw [List.getElem?_append_left this]; exact hj)
theorem CellsAt.right {w : World} {b o' : Nat} {u v : List Value} (h : CellsAt w b o' (u ++ v)) : CellsAt w b (o' + u.length) v := fun j c hj => by
  have := h (u.length + j) c (by rw [List.getElem?_append_right (by omega)]; simpa using hj)
  rw [← this]; congr 2; omega
theorem CellsAt.of_heap {w : World} {b : Nat} {cs : List Value} {t : TypeId} {fz : Nat × Nat} (h : w.heap[b]? = some (.cells ⟨cs⟩ t fz)) : CellsAt w b 0 cs := fun j c hj => by
  simp only [World.cell?, h, Nat.zero_add]
  simpa using hj
theorem CellsAt.off {w : World} {b o' k : Nat} {cs : List Value} (h : CellsAt w b o' cs) : CellsAt w b (o' + k) (cs.drop k) := fun j c hj => by
  have := h (k + j) c (by simpa using hj)
  rw [← this]; congr 2; omega

def Value.allCells : List Value → List Value
  | [] => []
  | v :: vs => v.cells.toList ++ Value.allCells vs

theorem AElems.of : ∀ {vs : List AV} {cvs : List Value} {b o' : Nat}, VRels x vs cvs → (∀ v ∈ vs, okc v = true) → CellsAt x.w b o' (Value.allCells cvs) → AElems x vs b o'
  | [], _, _, _, _, _, _ => by simp only [AElems]
  | v :: vs, _, b, o', h, ho, hc => by
    simp only [VRels] at h
    obtain ⟨c, r, rfl, h1, h2⟩ := h
    simp only [Value.allCells] at hc
    have hcr := cells_rel h1 (ho v (by simp))
    have hl := hcr.length
    have rest := AElems.of h2 (fun u hu => ho u (List.mem_cons_of_mem _ hu)) hc.right
    rw [hl] at rest
    have h0 := ACells.of hcr hc.left
    by_cases g1 : ∃ cs, v = .agg cs
    · obtain ⟨cs, rfl⟩ := g1
      simp only [AElems]; exact ⟨h0, rest⟩
    by_cases g2 : ∃ cs, v = .pv (.agg cs)
    · obtain ⟨cs, rfl⟩ := g2
      simp only [AElems]
      simp only [VRel, PRel] at h1
      obtain ⟨us, rfl, h1⟩ := h1
      refine ⟨PCells.of h1 hc.left, ?_⟩
      simpa [AV.cells, PV.cells] using rest
    have e : v.cells = [v] := by
      cases v with
      | agg cs => exact absurd ⟨cs, rfl⟩ g1
      | pv p =>
        cases p with
        | agg cs => exact absurd ⟨cs, rfl⟩ g2
        | _ => rfl
      | _ => rfl
    rw [e] at h0 rest
    rw [AElems_one (fun cs e => g1 ⟨cs, e⟩) (fun cs e => g2 ⟨cs, e⟩)]
    simp only [ACells, and_true] at h0
    exact ⟨h0, by simpa using rest⟩

theorem AElems.pure : ∀ {vs : List AV} {ps : List PV} {b o' : Nat}, allPv vs = some ps → AElems x vs b o' → PElems x.w x.F ps b o'
  | [], ps, _, _, h, _ => by simp only [allPv, Option.some.injEq] at h; subst h; simp only [PElems]
  | v :: vs, ps, b, o', h, hA => by
    cases v with
    | pv p =>
      simp only [allPv] at h
      split at h
      · rename_i qs hq
        injection h with h; subst h
        cases p with
        | agg cs => simp only [AElems] at hA; simp only [PElems]; exact ⟨hA.1, AElems.pure hq hA.2⟩
        | _ => simp only [AElems] at hA; simp only [PElems]; exact ⟨by simpa only [VRel] using hA.1, AElems.pure hq hA.2⟩
      · cases h
    | e0 =>
      simp only [allPv] at h
      split at h
      · rename_i qs hq
        injection h with h; subst h
        simp only [AElems] at hA
        simp only [PElems]
        obtain ⟨⟨c, h1, h2⟩, h3⟩ := hA
        simp only [VRel] at h2
        obtain ⟨ad, rfl⟩ := h2
        exact ⟨⟨_, h1, by simp only [PRel]; exact ⟨ad, 0, 0, rfl, rfl, Nat.le_refl _, fun hn => absurd hn (by omega)⟩⟩, AElems.pure hq h3⟩
      · cases h
    | _ => simp [allPv] at h

/-- 'composite literal of a slice': the parts one behind the other -/
theorem layC_append : ∀ (c pre rest : List Value), c.length ≤ rest.length → layC (pre ++ rest) pre.length c = pre ++ c ++ rest.drop c.length
  | [], pre, rest, _ => by simp [layC]
  | v :: c, pre, [], h => by simp at h
  | v :: c, pre, u :: rest, h => by
    simp only [layC]
    have e : (pre ++ u :: rest).set pre.length v = (pre ++ [v]) ++ rest := by simp
    have := layC_append c (pre ++ [v]) rest (by simpa using h)
    rw [e]
    simp only [List.length_append, List.length_cons, List.length_nil, Nat.zero_add] at this
    rw [this]; simp

theorem fill_slice {s : Nat} : ∀ (vs : List Value) (j : Nat) (pre rest : List Value), pre.length = j * s → rest.length = vs.length * s → (∀ v ∈ vs, v.cells.size = s) →
    Instr.fill (fun i => some (i * s, s)) ⟨pre ++ rest⟩ ((vs.zipIdx j).map fun q => (q.2, q.1)) = some ⟨pre ++ Value.allCells vs⟩
  | [], j, pre, rest, _, hr, _ => by
    have : rest = [] := List.eq_nil_of_length_eq_zero (by simpa using hr)
    subst this
    simp [Instr.fill, Value.allCells]
  | v :: vs, j, pre, rest, hp, hr, hs => by
    have h1 := hs v (by simp)
    have h2 : (vs.length + 1) * s = vs.length * s + s := Nat.succ_mul _ _
    simp only [List.length_cons] at hr
    simp only [List.zipIdx_cons, List.map_cons, Instr.fill]
    rw [if_neg (by simp [h1, hp]; omega)]
    have hf := layC_fold (j * s) v.cells.toList 0 (pre ++ rest)
    simp only [Nat.add_zero] at hf
    have hf' : (v.cells.zipIdx.foldl (fun (cs : Array Value) (q : Value × Nat) => cs.setIfInBounds (j * s + q.2) q.1) ⟨pre ++ rest⟩) = ⟨layC (pre ++ rest) (j * s) v.cells.toList⟩ := by
      rw [← hf, ← Array.foldl_toList, Array.toList_zipIdx]
    have hl : v.cells.toList.length = s := by simpa using h1
    rw [hf', ← hp, layC_append _ _ _ (by rw [hl]; omega), hl]
    have := fill_slice vs (j + 1) (pre ++ v.cells.toList) (rest.drop s) (by simp [hp, h1, Nat.succ_mul]) (by simp; omega) (fun u hu => hs u (List.mem_cons_of_mem _ hu))
    rw [this]
    simp [Value.allCells]

theorem allCells_length {s : Nat} : ∀ (vs : List Value), (∀ v ∈ vs, v.cells.size = s) → (Value.allCells vs).length = vs.length * s
  | [], _ => by simp [Value.allCells]
  | v :: vs, h => by
    have h1 := h v (by simp)
    simp only [Value.allCells, List.length_append, allCells_length vs fun u hu => h u (List.mem_cons_of_mem _ hu), List.length_cons, Nat.succ_mul]
    simp [h1]; omega

theorem run_buildSlice {w : World} {t et : TypeId} {i : TypeInfo} {zv : Value} (ht : P.underlying t = some (.slice et)) (hi : P.info? et = some i) (hz : i.zero = some zv) (hs : 0 < i.size) (vs : List Value)
    (hv : ∀ v ∈ vs, v.cells.size = i.size) (hn : vs.length * i.size ≤ 16777216) :
    (Instr.buildSlice t vs.length ((vs.zipIdx).map fun q => (q.2, q.1)).toArray).run P w = .ok (.slice (some ⟨w.heap.size, 0, none⟩) vs.length vs.length) (w.alloc (.cells ⟨Value.allCells vs⟩ et)) := by
  have hlen : ∀ zero : Array Value, ((Array.range (vs.length * i.size)).map (fun k => zero[k % zero.size]!)).toList.length = vs.length * i.size := by intro zero; simp
  have hfill : ∀ c : Array Value, c.toList.length = vs.length * i.size → Instr.fill (fun k => some (k * i.size, i.size)) c ((vs.zipIdx).map fun q => (q.2, q.1)) = some ⟨Value.allCells vs⟩ := fun c hc => by
    have := fill_slice (s := i.size) vs 0 [] c.toList (by simp) hc hv
    simpa using this
  simp only [Instr.buildSlice, Sem.run_bind, run_underlying ht, Result.andThen_ok, sizeOf, typeInfo]
  by_cases h0 : vs.length * i.size = 0
  · have : vs = [] := by
      rcases Nat.mul_eq_zero.1 h0 with h | h
      · exact List.eq_nil_of_length_eq_zero h
      · omega
    subst this
    simp [hi, Instr.fill, Value.allCells, newRow, newObj, Sem.run]
    congr 2
    exact Array.eq_empty_of_size_eq_zero (by simp)
  · have hgt : ¬ (2 ^ 24 < vs.length * i.size) := by omega
    simp [hi, hgt, h0, zeroValue, typeInfo, hz, hfill, newRow, newObj, Sem.run]

/-! ### structs compared; the lesser, the greater -/
def fieldKinds (P : Program) : Nat → List Field → Option (List Nat)
  | _, [] => some []
  | i, f :: fs => if f.name ≠ "_" ∧ f.offset = i then match P.underlying f.type, fieldKinds P (i + 1) fs with
      | some (.int _), some r => some (0 :: r)
      | some .string, some r => some (1 :: r)
      | some .bool, some r => some (2 :: r)
      | _, _ => none
    else none

theorem run_part_one {w : World} {t : TypeId} {d : TypeDesc} (ht : P.underlying t = some d) (ha : aggOf P t = false) {cs : Array Value} {i : Nat} {v : Value} (hv : cs[i]? = some v) : (part t cs i).run P w = .ok v w := by
  simp [part, run_isAgg ht, ha, hv]

theorem sameP_nil {ps qs : List PV} (h : sameP [] ps qs) : ps = [] ∧ qs = [] := by
  unfold sameP at h; split at h <;> simp_all
theorem sameP_0 {r : List Nat} {ps qs : List PV} (h : sameP (0 :: r) ps qs) : ∃ k a ps' b qs', ps = .sc (.int k a) :: ps' ∧ qs = .sc (.int k b) :: qs' ∧ sameP r ps' qs' := by
  unfold sameP at h; split at h <;> first | exact h.elim | (obtain ⟨rfl, h⟩ := h; injections; subst_vars; exact ⟨_, _, _, _, _, rfl, rfl, h⟩) | simp_all
theorem sameP_1 {r : List Nat} {ps qs : List PV} (h : sameP (1 :: r) ps qs) : ∃ a ps' b qs', ps = .sc (.string a) :: ps' ∧ qs = .sc (.string b) :: qs' ∧ sameP r ps' qs' := by
  unfold sameP at h; split at h <;> first | exact h.elim | (injections; subst_vars; exact ⟨_, _, _, _, rfl, rfl, h⟩) | simp_all
theorem sameP_2 {r : List Nat} {ps qs : List PV} (h : sameP (2 :: r) ps qs) : ∃ a ps' b qs', ps = .sc (.bool a) :: ps' ∧ qs = .sc (.bool b) :: qs' ∧ sameP r ps' qs' := by
  unfold sameP at h; split at h <;> first | exact h.elim | (injections; subst_vars; exact ⟨_, _, _, _, rfl, rfl, h⟩) | simp_all

theorem run_eqFields {w : World} {W : World} {F : Nat → Prop} (n : Nat) : ∀ (fs : List Field) (i : Nat) (ks : List Nat) (ps qs : List PV) (us vs us0 vs0 : List Value), fieldKinds P i fs = some ks → sameP ks ps qs → PRels W F ps us → PRels W F qs vs →
    us0.length = i → vs0.length = i → (Op.eqFields (n + 1) ⟨us0 ++ us⟩ ⟨vs0 ++ vs⟩ fs).run P w = .ok (sameV ps qs) w
  | [], i, ks, ps, qs, us, vs, us0, vs0, hk, hs, _, _, _, _ => by
    simp only [fieldKinds, Option.some.injEq] at hk
    subst hk
    obtain ⟨rfl, rfl⟩ := sameP_nil hs
    simp [Op.eqFields, sameV]
  | f :: fs, i, ks, ps, qs, us, vs, us0, vs0, hk, hs, hu, hv, hl, hl' => by
    simp only [fieldKinds] at hk
    split at hk
    · rename_i hf
      have step : ∀ {d : TypeDesc} {r : List Nat} {p q : PV} {ps' qs' : List PV} (b : Bool), P.underlying f.type = some d → aggOf P f.type = false → fieldKinds P (i + 1) fs = some r →
          ps = p :: ps' → qs = q :: qs' → sameP r ps' qs' → (∀ u v, PRel W F p u → PRel W F q v → (Op.equalIn (n + 1) f.type u v).run P w = .ok b w) → sameV ps qs = (b && sameV ps' qs') →
          (Op.eqFields (n + 1) ⟨us0 ++ us⟩ ⟨vs0 ++ vs⟩ (f :: fs)).run P w = .ok (sameV ps qs) w := by
        intro d r p q ps' qs' b hd ha hr hps hqs hsr heq hval
        subst hps; subst hqs
        simp only [PRels] at hu hv
        obtain ⟨u, ur, rfl, hu1, hu2⟩ := hu
        obtain ⟨v, vr, rfl, hv1, hv2⟩ := hv
        have ih := run_eqFields (w := w) n fs (i + 1) r ps' qs' ur vr (us0 ++ [u]) (vs0 ++ [v]) hr hsr hu2 hv2 (by simp [hl]) (by simp [hl'])
        have e1 : (part f.type ⟨us0 ++ u :: ur⟩ f.offset).run P w = .ok u w := run_part_one hd ha (by rw [hf.2, ← hl]; simp)
        have e2 : (part f.type ⟨vs0 ++ v :: vr⟩ f.offset).run P w = .ok v w := run_part_one hd ha (by rw [hf.2, ← hl']; simp)
        simp only [Op.eqFields, hf.1, ne_eq, not_false_eq_true, if_true, Sem.run_bind, e1, e2, Result.andThen_ok, heq u v hu1 hv1]
        rw [hval]
        cases b
        · simp
        · simpa using ih
      split at hk
      · rename_i k r hd hr
        injection hk with hk; subst hk
        obtain ⟨ka, a, ps', b, qs', h2, h3, hs'⟩ := sameP_0 hs
        refine step (decide (a = b)) hd (by simp [aggOf, hd]) hr h2 h3 hs' (fun u v hu hv => ?_) (by rw [h2, h3]; rfl)
        simp only [PRel] at hu hv
        subst hu; subst hv
        rw [run_equalIn_int w n f.type ka k a b hd]
        rfl
      · rename_i r hd hr
        injection hk with hk; subst hk
        obtain ⟨a, ps', b, qs', h2, h3, hs'⟩ := sameP_1 hs
        refine step (decide (a = b)) hd (by simp [aggOf, hd]) hr h2 h3 hs' (fun u v hu hv => ?_) (by rw [h2, h3]; rfl)
        simp only [PRel] at hu hv
        subst hu; subst hv
        rw [run_equalIn_string w n f.type a b hd]
        simp [toList_eq]
      · rename_i r hd hr
        injection hk with hk; subst hk
        obtain ⟨a, ps', b, qs', h2, h3, hs'⟩ := sameP_2 hs
        refine step (decide (a = b)) hd (by simp [aggOf, hd]) hr h2 h3 hs' (fun u v hu hv => ?_) (by rw [h2, h3]; rfl)
        simp only [PRel] at hu hv
        subst hu; subst hv
        rw [run_equalIn_bool' w n f.type a b hd]
        cases a <;> cases b <;> rfl
      · cases hk
    · cases hk

theorem q_seq {neg : Bool} {t t' : TypeId} {y z : Operand} (ho : o.op = .binOp (if neg then .neq else .eql) t y z t') {fields : Array Field} (ht : P.underlying t = some (.struct fields)) {ks : List Nat}
    (hk : fieldKinds P 0 fields.toList = some ks) (h1 : P.stoodInHeld t = false) (h2 : P.eqGuardType P.depth t = false) {u v : AV} (hy : VRel x u (ev y)) (hz : VRel x v (ev z)) (hp : seqP ks u v) : QOK P x o ev (seqV neg u v) := by
  unfold seqP at hp
  split at hp
  · rename_i ps qs
    simp only [VRel, PRel] at hy hz
    obtain ⟨us, hy, hu⟩ := hy
    obtain ⟨vs, hz, hv⟩ := hz
    have hf : P.underlying t = some (.struct (P.fieldsOf t)) := by simp [Program.fieldsOf, ht]
    have he : ∀ w' : World, (Op.equalIn 10000 t (.agg ⟨us⟩) (.agg ⟨vs⟩)).run P w' = .ok (sameV ps qs) w' := fun w' => by
      rw [run_equalIn_struct w' 9999 t _ _ hf h1]
      have hf' : P.fieldsOf t = fields := by simp [Program.fieldsOf, ht]
      rw [hf']
      exact run_eqFields 9998 fields.toList 0 ks ps qs us vs [] [] hk hp hu hv rfl rfl
    cases neg
    · exact QOK.sc rfl fun w' => by
        simp only [execOp, ho, hy, hz, Bool.false_eq_true, if_false, Sem.run_bind, run_eqGuard_agg w' .eql t y z _ _ h2, run_eql_struct, he, Result.andThen_ok]
        simp
    · exact QOK.sc rfl fun w' => by
        simp only [execOp, ho, hy, hz, if_true, Sem.run_bind, run_eqGuard_agg w' .neq t y z _ _ h2, run_neq_struct, he, Result.andThen_ok]
        simp
  · exact hp.elim

theorem q_mm {mx : Bool} {y z : Operand} {ts : Array TypeId} (ho : o.op = .call { callee := .builtin (if mx then .max else .min), args := #[y, z], argTypes := ts }) {u v : AV} (hy : VRel x u (ev y)) (hz : VRel x v (ev z)) (hp : mmP u v) :
    QOK P x o ev (mmV mx u v) := by
  unfold mmP at hp
  split at hp
  · rename_i k a k' b
    simp only [VRel, PRel] at hy hz
    cases mx
    · exact QOK.sc rfl fun w' => by simp [execOp, ho, hy, hz, resolve, invoke, builtin, run_min_int2]
    · exact QOK.sc rfl fun w' => by simp [execOp, ho, hy, hz, resolve, invoke, builtin, run_max_int2]
  · exact hp.elim
end
end Go.Vc

namespace Go.Vc
open Go.RowKit
set_option linter.constructorNameAsVariable false
set_option linter.unusedSimpArgs false

/-! ## Maps -/
section
variable {P : Program} {x : Cx} {o : Oper} {ev : Operand → Value}

/-- what keys a type has -/
def kkIs (P : Program) (kt : TypeId) : Kk → Prop
  | .int => ∃ k, P.underlying kt = some (.int k)
  | .str => P.underlying kt = some .string
  | .st ks => (∃ fs, P.underlying kt = some (.struct fs) ∧ fieldKinds P 0 fs.toList = some ks ∧ P.stoodInHeld kt = false) ∨
      (∃ n e k i, P.underlying kt = some (.array n e) ∧ P.underlying e = some (.int k) ∧ P.info? e = some i ∧ i.size = 1 ∧ ks = List.replicate n 0)


/-- two keys that are the same have the same cells -/
theorem same_cells {w : World} {F : Nat → Prop} : ∀ {ks : List Nat} {ps qs : List PV} {us vs : List Value}, sameP ks ps qs → sameV ps qs = true → PRels w F ps us → PRels w F qs vs → us = vs ∧ ∀ n, ∀ u ∈ us, Instr.sameBits n u u = true
  | [], ps, qs, us, vs, h, _, h1, h2 => by
    obtain ⟨rfl, rfl⟩ := sameP_nil h
    simp only [PRels] at h1 h2
    subst h1; subst h2
    exact ⟨rfl, fun n u hu => by cases hu⟩
  | n :: ks, ps, qs, us, vs, h, hv, h1, h2 => by
    have fin : ∀ {v v' : Value} {p q : PV} {ps' qs' : List PV}, p = .sc v → q = .sc v' → v = v' → (∀ n, Instr.sameBits n v v = true) → ps = p :: ps' → qs = q :: qs' → sameP ks ps' qs' → sameV ps' qs' = true →
        us = vs ∧ ∀ n, ∀ u ∈ us, Instr.sameBits n u u = true := by
      intro v v' p q ps' qs' hp hq hvv hsb hps hqs hs hv'
      subst hp; subst hq; subst hvv; subst hps; subst hqs
      simp only [PRels, PRel] at h1 h2
      obtain ⟨u, ur, rfl, rfl, h1⟩ := h1
      obtain ⟨u', ur', rfl, rfl, h2⟩ := h2
      obtain ⟨i1, i2⟩ := same_cells hs hv' h1 h2
      subst i1
      refine ⟨rfl, fun n y hy => ?_⟩
      rcases List.mem_cons.1 hy with rfl | hy
      · exact hsb n
      · exact i2 n y hy
    match n, h with
    | 0, h =>
      obtain ⟨k, a, ps', b, qs', rfl, rfl, h'⟩ := sameP_0 h
      simp only [sameV, Bool.and_eq_true, decide_eq_true_eq] at hv
      exact fin rfl rfl (by rw [hv.1]) (fun n => by simp [Instr.sameBits, beq_toListBytes]) rfl rfl h' hv.2
    | 1, h =>
      obtain ⟨a, ps', b, qs', rfl, rfl, h'⟩ := sameP_1 h
      simp only [sameV, Bool.and_eq_true, decide_eq_true_eq] at hv
      exact fin rfl rfl (by rw [hv.1]) (fun n => by simp [Instr.sameBits, beq_toListBytes]) rfl rfl h' hv.2
    | 2, h =>
      obtain ⟨a, ps', b, qs', rfl, rfl, h'⟩ := sameP_2 h
      simp only [sameV, Bool.and_eq_true, decide_eq_true_eq] at hv
      exact fin rfl rfl (by rw [hv.1]) (fun n => by simp [Instr.sameBits, beq_toListBytes]) rfl rfl h' hv.2
    | n + 3, h => unfold sameP at h; split at h <;> simp_all

theorem sameBits_key {kk : Kk} {k q : PV} (h : keyEq k q = true) (hl : keyLike kk k q) {w : World} {F : Nat → Prop} {kv qv : Value} (r1 : PRel w F k kv) (r2 : PRel w F q qv) : Instr.sameBits 10000 qv kv = true := by
  unfold keyLike at hl
  split at hl
  · rename_i j a j' b
    subst hl
    simp only [PRel] at r1 r2
    subst r1; subst r2
    have : a = b := by simpa [keyEq] using h
    subst this
    simp [Instr.sameBits]
  · rename_i a b
    simp only [PRel] at r1 r2
    subst r1; subst r2
    have : a = b := by simpa [keyEq] using h
    subst this
    simp [Instr.sameBits, beq_toListBytes]
  · rename_i ks ps qs
    simp only [PRel] at r1 r2
    obtain ⟨us, rfl, h1⟩ := r1
    obtain ⟨vs, rfl, h2⟩ := r2
    have hv : sameV ps qs = true := by simpa [keyEq] using h
    obtain ⟨rfl, hb⟩ := same_cells hl hv h1 h2
    show ((⟨us⟩ : Array Value).size == (⟨us⟩ : Array Value).size && (us.zip us).all fun (x, y) => Instr.sameBits 9999 x y) = true
    simp only [beq_self_eq_true, Bool.true_and, List.all_eq_true]
    intro ⟨a, b⟩ hab
    have : a = b := by
      clear hb hl h h1 h2 hv
      induction us with
      | nil => cases hab
      | cons u us ih =>
        rw [List.zip_cons_cons] at hab
        rcases List.mem_cons.1 hab with hab | hab
        · injection hab with e1 e2; rw [e1, e2]
        · exact ih hab
    subst this
    exact hb 9999 a (List.of_mem_zip hab).1
  · exact hl.elim

/-- a key's parts -/
theorem run_checkFields {w : World} {W : World} {F : Nat → Prop} (em : Bool) (n : Nat) : ∀ (fs : List Field) (i : Nat) (ks : List Nat) (ps : List PV) (us us0 : List Value), fieldKinds P i fs = some ks → sameP ks ps ps → PRels W F ps us → us0.length = i →
    (do for f in fs do
          if f.name ≠ "_" then Instr.checkKey em (n + 1) f.type (← part f.type ⟨us0 ++ us⟩ f.offset) : Sem Unit).run P w = .ok () w
  | [], i, ks, ps, us, us0, hk, hs, _, _ => by simp
  | f :: fs, i, ks, ps, us, us0, hk, hs, hu, hl => by
    simp only [fieldKinds] at hk
    split at hk
    · rename_i hf
      have step : ∀ {d : TypeDesc} {r : List Nat} {p : PV} {ps' : List PV}, P.underlying f.type = some d → aggOf P f.type = false → (match d with | .int _ => True | .string => True | .bool => True | _ => False) → fieldKinds P (i + 1) fs = some r →
          ps = p :: ps' → sameP r ps' ps' →
          (do for f in f :: fs do
                if f.name ≠ "_" then Instr.checkKey em (n + 1) f.type (← part f.type ⟨us0 ++ us⟩ f.offset) : Sem Unit).run P w = .ok () w := by
        intro d r p ps' hd ha hpl hr hps hsr
        subst hps
        simp only [PRels] at hu
        obtain ⟨u, ur, rfl, hu1, hu2⟩ := hu
        have ih := run_checkFields (w := w) em n fs (i + 1) r ps' ur (us0 ++ [u]) hr hsr hu2 (by simp [hl])
        have e1 : (part f.type ⟨us0 ++ u :: ur⟩ f.offset).run P w = .ok u w := run_part_one hd ha (by rw [hf.2, ← hl]; simp)
        have e2 : (Instr.checkKey em (n + 1) f.type u).run P w = .ok () w := by
          cases d <;> simp only at hpl <;> first | exact hpl.elim | (simp [Instr.checkKey, run_underlying hd])
        simp only [List.forIn_cons, Sem.run_bind, hf.1, ne_eq, not_false_eq_true, if_true, e1, e2, Result.andThen_ok, Sem.run_pure]
        simp only [List.append_assoc, List.cons_append, List.nil_append, Sem.run_bind] at ih
        exact ih
      split at hk
      · rename_i k r hd hr
        injection hk with hk; subst hk
        obtain ⟨ka, a, ps', b, qs', h2, h3, hs'⟩ := sameP_0 hs
        rw [h2] at h3
        injection h3 with _ h3; subst h3
        exact step hd (by simp [aggOf, hd]) trivial hr h2 hs'
      · rename_i r hd hr
        injection hk with hk; subst hk
        obtain ⟨a, ps', b, qs', h2, h3, hs'⟩ := sameP_1 hs
        rw [h2] at h3
        injection h3 with _ h3; subst h3
        exact step hd (by simp [aggOf, hd]) trivial hr h2 hs'
      · rename_i r hd hr
        injection hk with hk; subst hk
        obtain ⟨a, ps', b, qs', h2, h3, hs'⟩ := sameP_2 hs
        rw [h2] at h3
        injection h3 with _ h3; subst h3
        exact step hd (by simp [aggOf, hd]) trivial hr h2 hs'
      · cases hk
    · cases hk

theorem sameP_rep {n : Nat} : ∀ {ps qs : List PV}, sameP (List.replicate n 0) ps qs → ps.length = n ∧ qs.length = n := by
  induction n with
  | zero => intro ps qs h; obtain ⟨rfl, rfl⟩ := sameP_nil h; exact ⟨rfl, rfl⟩
  | succ n ih =>
    intro ps qs h
    rw [List.replicate_succ] at h
    obtain ⟨k, a, ps', b, qs', rfl, rfl, h'⟩ := sameP_0 h
    obtain ⟨i1, i2⟩ := ih h'
    exact ⟨by simp [i1], by simp [i2]⟩

theorem run_checkKeyK {kt : TypeId} {kk : Kk} (hkt : kkIs P kt kk) {k : PV} (hk : keyIs kk k) {W : World} {F : Nat → Prop} {kv : Value} (hr : PRel W F k kv) (em : Bool) (w : World) : (Instr.checkKey em 10000 kt kv).run P w = .ok () w := by
  unfold keyIs at hk
  split at hk
  · obtain ⟨j, hu⟩ := hkt
    show (Instr.checkKey em (9999 + 1) kt _).run P w = _
    rw [Instr.checkKey]
    simp only [Sem.run_bind, run_underlying hu, Result.andThen_ok, Sem.run_pure]
  · have hu : P.underlying kt = some .string := hkt
    show (Instr.checkKey em (9999 + 1) kt _).run P w = _
    rw [Instr.checkKey]
    simp only [Sem.run_bind, run_underlying hu, Result.andThen_ok, Sem.run_pure]
  · rename_i ks ps
    simp only [PRel] at hr
    obtain ⟨us, rfl, hr⟩ := hr
    rcases hkt with ⟨fs, hu, hf, _⟩ | ⟨n, e, j, i, hu, he, hi, hi1, rfl⟩
    · show (Instr.checkKey em (9998 + 1 + 1) kt _).run P w = _
      rw [Instr.checkKey]
      simp only [Sem.run_bind, run_underlying hu, Result.andThen_ok]
      rw [← Array.forIn_toList]
      have := run_checkFields (P := P) (w := w) em 9998 fs.toList 0 ks ps us [] hf hk hr rfl
      simp only [List.nil_append, Sem.run_bind] at this
      exact this
    · show (Instr.checkKey em (9998 + 1 + 1) kt _).run P w = _
      rw [Instr.checkKey]
      simp only [Sem.run_bind, run_underlying hu, Result.andThen_ok]
      simp only [Std.Legacy.Range.forIn_eq_forIn_range', Std.Legacy.Range.size, Nat.sub_zero, Nat.add_one_sub_one, Nat.div_one]
      have hl : us.length = n := by rw [PRels.length hr]; exact (sameP_rep hk).1
      have key : ∀ js : List Nat, (∀ j ∈ js, j < n) → (do for j in js do Instr.checkKey em (9998 + 1) e (← part e ⟨us⟩ (j * (← sizeOf e))) : Sem Unit).run P w = .ok () w := by
        intro js
        induction js with
        | nil => intro _; simp
        | cons j js ih =>
          intro hj
          have e1 : (part e ⟨us⟩ (j * i.size)).run P w = .ok (us.getD j undef) w := run_part_one he (by simp [aggOf, he]) (by
            rw [hi1, Nat.mul_one]
            have := hj j (by simp)
            simp [List.getD_eq_getElem?_getD, show j < us.length by omega])
          have e2 : (Instr.checkKey em (9998 + 1) e (us.getD j undef)).run P w = .ok () w := by
            rw [Instr.checkKey]
            simp only [Sem.run_bind, run_underlying he, Result.andThen_ok, Sem.run_pure]
          have e0 : (sizeOf e).run P w = .ok i.size w := by simp [sizeOf, typeInfo, hi]
          simp only [List.forIn_cons, Sem.run_bind, e0, e1, e2, Result.andThen_ok, Sem.run_pure]
          have := ih fun y hy => hj y (by simp [hy])
          simp only [Sem.run_bind] at this
          exact this
      have := key (List.range' 0 n) (fun j hj => by simp at hj; exact hj)
      simp only [Sem.run_bind] at this
      exact this
  · exact hk.elim

theorem run_eqItemsK {w W : World} {F : Nat → Prop} {e : TypeId} {j : IntKind} (he : P.underlying e = some (.int j)) (n : Nat) {ps qs : List PV} {us vs : List Value} (hs : sameP (List.replicate n 0) ps qs) (hu : PRels W F ps us) (hv : PRels W F qs vs)
    (d : Nat) : ∀ (m i : Nat), i + m = n → (Op.eqItems (d + 1) e 1 ⟨us⟩ ⟨vs⟩ (List.range' i m)).run P w = .ok (sameV (ps.drop i) (qs.drop i)) w := by
  have at_ : ∀ (n : Nat) (ps qs : List PV) (us vs : List Value), sameP (List.replicate n 0) ps qs → PRels W F ps us → PRels W F qs vs → ∀ i, i < n → ∃ k a b ps' qs', ps.drop i = .sc (.int k a) :: ps' ∧ qs.drop i = .sc (.int k b) :: qs' ∧ ps.drop (i + 1) = ps' ∧ qs.drop (i + 1) = qs' ∧ us[i]? = some (.int k a) ∧ vs[i]? = some (.int k b) := by
    intro n
    induction n with
    | zero => intro ps qs us vs _ _ _ i hi; omega
    | succ n ih =>
      intro ps qs us vs hs hu hv i hi
      rw [List.replicate_succ] at hs
      obtain ⟨k, a, ps', b, qs', rfl, rfl, hs'⟩ := sameP_0 hs
      simp only [PRels, PRel] at hu hv
      obtain ⟨u, ur, rfl, rfl, hu⟩ := hu
      obtain ⟨v, vr, rfl, rfl, hv⟩ := hv
      cases i with
      | zero => exact ⟨k, a, b, ps', qs', rfl, rfl, rfl, rfl, rfl, rfl⟩
      | succ i =>
        obtain ⟨k', a', b', p2, q2, h1, h2, h3, h4, h5, h6⟩ := ih ps' qs' ur vr hs' hu hv i (by omega)
        exact ⟨k', a', b', p2, q2, by simpa using h1, by simpa using h2, by simpa using h3, by simpa using h4, by simpa using h5, by simpa using h6⟩
  intro m
  induction m with
  | zero =>
    intro i hi
    have hl := sameP_rep hs
    rw [List.drop_eq_nil_of_le (by omega), List.drop_eq_nil_of_le (by omega)]
    simp [Op.eqItems, sameV]
  | succ m ih =>
    intro i hi
    obtain ⟨k, a, b, ps', qs', h1, h2, h3, h4, h5, h6⟩ := at_ n ps qs us vs hs hu hv i (by omega)
    have e1 : (part e ⟨us⟩ (i * 1)).run P w = .ok (.int k a) w := run_part_one he (by simp [aggOf, he]) (by simpa using h5)
    have e2 : (part e ⟨vs⟩ (i * 1)).run P w = .ok (.int k b) w := run_part_one he (by simp [aggOf, he]) (by simpa using h6)
    rw [List.range'_succ]
    simp only [Op.eqItems, Sem.run_bind, e1, e2, Result.andThen_ok, run_equalIn_int w d e k j a b he]
    have ih' := ih (i + 1) (by omega)
    rw [h1, h2]
    simp only [sameV]
    rw [h3, h4] at ih'
    by_cases hab : a = b
    · subst hab; simpa using ih'
    · simp [hab]

theorem run_equalK {kt : TypeId} {ks : List Nat} (hkt : kkIs P kt (.st ks)) {ps qs : List PV} (hs : sameP ks ps qs) {W : World} {F : Nat → Prop} {us vs : List Value} (hu : PRels W F ps us) (hv : PRels W F qs vs) (w : World) :
    (Op.equal kt (.agg ⟨us⟩) (.agg ⟨vs⟩)).run P w = .ok (sameV ps qs) w := by
  show (Op.equalIn (9999 + 1) kt _ _).run P w = _
  rcases hkt with ⟨fs, ht, hf, hsh⟩ | ⟨n, e, j, i, ht, he, hi, hi1, rfl⟩
  · have hff : P.underlying kt = some (.struct (P.fieldsOf kt)) := by simp [Program.fieldsOf, ht]
    rw [run_equalIn_struct w 9999 kt _ _ hff hsh]
    have hf' : P.fieldsOf kt = fs := by simp [Program.fieldsOf, ht]
    rw [hf']
    exact run_eqFields 9998 fs.toList 0 ks ps qs us vs [] [] hf hs hu hv rfl rfl
  · rw [run_equalIn_array w 9999 _ _ ht hi]
    have hc : P.cellsOf e = 1 := by simp [Program.cellsOf, hi, hi1]
    rw [hc, List.range_eq_range']
    have := run_eqItemsK (P := P) (w := w) he n hs hu hv 9998 n 0 (by omega)
    simpa using this

theorem q_seqA {neg : Bool} {t t' : TypeId} {y z : Operand} (ho : o.op = .binOp (if neg then .neq else .eql) t y z t') {n : Nat} {e : TypeId} {j : IntKind} {i : TypeInfo} (ht : P.underlying t = some (.array n e)) (he : P.underlying e = some (.int j))
    (hi : P.info? e = some i) (hi1 : i.size = 1) (h2 : P.eqGuardType P.depth t = false) {u v : AV} (hy : VRel x u (ev y)) (hz : VRel x v (ev z)) (hp : seqP (List.replicate n 0) u v) : QOK P x o ev (seqV neg u v) := by
  unfold seqP at hp
  split at hp
  · rename_i ps qs
    simp only [VRel, PRel] at hy hz
    obtain ⟨us, hy, hu⟩ := hy
    obtain ⟨vs, hz, hv⟩ := hz
    have he : ∀ w' : World, (Op.equalIn 10000 t (.agg ⟨us⟩) (.agg ⟨vs⟩)).run P w' = .ok (sameV ps qs) w' := fun w' => run_equalK (kt := t) (ks := List.replicate n 0) (.inr ⟨n, e, j, i, ht, he, hi, hi1, rfl⟩) hp hu hv w'
    cases neg
    · exact QOK.sc rfl fun w' => by
        simp only [execOp, ho, hy, hz, Bool.false_eq_true, if_false, Sem.run_bind, run_eqGuard_agg w' .eql t y z _ _ h2, run_eql_struct, he, Result.andThen_ok]
        simp
    · exact QOK.sc rfl fun w' => by
        simp only [execOp, ho, hy, hz, if_true, Sem.run_bind, run_eqGuard_agg w' .neq t y z _ _ h2, run_neq_struct, he, Result.andThen_ok]
        simp
  · exact hp.elim
/-- where a key is found -/
structure Found (x : Cx) (k : PV) (es : List (PV × PV)) (ents : List MapEntry) (res : Option (Nat × Value)) : Prop where
  no : res = none → lkp k es = none ∧ ∀ v, mput k v es = es ++ [(k, v)]
  yes : ∀ j v, res = some (j, v) → ∃ p q e, lkp k es = some p ∧ PRel x.w x.F p v ∧ es[j]? = some (q, p) ∧ ents[j]? = some e ∧ keyEq k q = true ∧ (∀ kk, keysLike kk k es → keyLike kk k q) ∧ ∀ u, mput k u es = es.set j (k, u)
  fst : ∀ j v, res = some (j, v) → ∀ i, i < j → ∀ q p, es[i]? = some (q, p) → keyEq k q = false
theorem Found.cons {k q p : PV} {es : List (PV × PV)} {e : MapEntry} {ents : List MapEntry} {res : Option (Nat × Value)} (hb : keyEq k q = false) (h : Found x k es ents res) :
    Found x k ((q, p) :: es) (e :: ents) (res.map fun r => (r.1 + 1, r.2)) where
  no := fun hr => by
    cases res with
    | none =>
      obtain ⟨h1, h2⟩ := h.no rfl
      exact ⟨by simp [lkp, hb, h1], fun v => by simp [mput, hb, h2]⟩
    | some r => cases hr
  yes := fun j v hr => by
    cases res with
    | none => cases hr
    | some r =>
      obtain ⟨j', v'⟩ := r
      simp only [Option.map_some, Option.some.injEq, Prod.mk.injEq] at hr
      obtain ⟨rfl, rfl⟩ := hr
      obtain ⟨p', q', e', f1, f2, f3, f4, f5, f6, f7⟩ := h.yes j' v' rfl
      exact ⟨p', q', e', by simp [lkp, hb, f1], f2, by simpa using f3, by simpa using f4, f5, fun kk hk => f6 kk (by simp only [keysLike] at hk; exact hk.2), fun u => by simp [mput, hb, f7]⟩
  fst := fun j v hr i hi q' p' hq => by
    cases res with
    | none => cases hr
    | some r =>
      obtain ⟨j', v'⟩ := r
      simp only [Option.map_some, Option.some.injEq, Prod.mk.injEq] at hr
      obtain ⟨rfl, rfl⟩ := hr
      cases i with
      | zero =>
        simp only [List.getElem?_cons_zero, Option.some.injEq, Prod.mk.injEq] at hq
        rw [← hq.1]; exact hb
      | succ i => exact h.fst j' v' rfl i (by omega) q' p' (by simpa using hq)
theorem Found.head {k q p : PV} {es : List (PV × PV)} {e : MapEntry} {ents : List MapEntry} (hb : keyEq k q = true) (h2 : PRel x.w x.F p e.val) : Found x k ((q, p) :: es) (e :: ents) (some (0, e.val)) where
  no := fun hr => by cases hr
  yes := fun j v hr => by
    simp only [Option.some.injEq, Prod.mk.injEq] at hr
    obtain ⟨rfl, rfl⟩ := hr
    exact ⟨p, q, e, by simp [lkp, hb], h2, rfl, rfl, hb, fun kk hk => by simp only [keysLike] at hk; exact hk.1, fun u => by simp [mput, hb]⟩
  fst := fun j v hr i hi => by
    simp only [Option.some.injEq, Prod.mk.injEq] at hr
    omega
theorem Found.none {k : PV} : Found x k [] [] none where
  no := fun _ => ⟨rfl, fun _ => rfl⟩
  yes := fun _ _ hr => by cases hr
  fst := fun _ _ hr => by cases hr

theorem findNow_shift (kd : TypeDesc) (kv : Value) : ∀ (ents : List MapEntry) (i : Nat), Instr.findNow kd kv ents i = (Instr.findNow kd kv ents 0).map fun o => o.map fun r => (r.1 + i, r.2)
  | [], i => by simp [Instr.findNow]
  | e :: ents, i => by
    simp only [Instr.findNow]
    cases Instr.sameNow kd kv e.key with
    | none => rfl
    | some b =>
      cases b
      · simp only
        rw [findNow_shift kd kv ents (i + 1), findNow_shift kd kv ents (0 + 1)]
        cases Instr.findNow kd kv ents 0 with
        | none => rfl
        | some o => cases o with
          | none => rfl
          | some r => simp; omega
      · simp

theorem findNow_key {kk : Kk} {kd : TypeDesc} {k : PV} {kv : Value} (hsame : ∀ q qv, keyLike kk k q → PRel x.w x.F q qv → Instr.sameNow kd kv qv = some (keyEq k q)) : ∀ (es : List (PV × PV)) (ents : List MapEntry), ents.length = es.length →
    (∀ (j : Nat) p e, es[j]? = some p → ents[j]? = some e → PRel x.w x.F p.1 e.key ∧ PRel x.w x.F p.2 e.val) → keysLike kk k es →
    ∃ res, Instr.findNow kd kv ents 0 = some res ∧ Found x k es ents res
  | [], ents, hl, _, _ => by
    have : ents = [] := List.eq_nil_of_length_eq_zero hl
    subst this
    exact ⟨none, rfl, Found.none⟩
  | (q, p) :: es, [], hl, _, _ => by simp at hl
  | (q, p) :: es, e :: ents, hl, hr, hks => by
    simp only [keysLike] at hks
    obtain ⟨g1, g2⟩ := hr 0 (q, p) e rfl rfl
    have hs := hsame q e.key hks.1 g1
    cases hb : keyEq k q with
    | true =>
      rw [hb] at hs
      exact ⟨some (0, e.val), by simp [Instr.findNow, hs], Found.head hb g2⟩
    | false =>
      rw [hb] at hs
      obtain ⟨res, f1, f2⟩ := findNow_key hsame es ents (by simpa using hl) (fun j p e hp he => hr (j + 1) p e (by simpa using hp) (by simpa using he)) hks.2
      refine ⟨res.map fun r => (r.1 + 1, r.2), ?_, Found.cons hb f2⟩
      simp only [Instr.findNow, hs, Nat.zero_add]
      rw [findNow_shift, f1]
      rfl

theorem findAsking_key {kt : TypeId} {ks : List Nat} (hkt : kkIs P kt (.st ks)) {ps : List PV} {us : List Value} (hu : PRels x.w x.F ps us) : ∀ (es : List (PV × PV)) (ents : List MapEntry), ents.length = es.length →
    (∀ (j : Nat) p e, es[j]? = some p → ents[j]? = some e → PRel x.w x.F p.1 e.key ∧ PRel x.w x.F p.2 e.val) → keysLike (.st ks) (.agg ps) es →
    ∃ res, (∀ (i : Nat) (w : World), (Instr.findAsking kt (.agg ⟨us⟩) ents i).run P w = .ok (res.map fun r => (r.1 + i, r.2)) w) ∧ Found x (.agg ps) es ents res
  | [], ents, hl, _, _ => by
    have : ents = [] := List.eq_nil_of_length_eq_zero hl
    subst this
    exact ⟨none, fun i w => by simp [Instr.findAsking], Found.none⟩
  | (q, p) :: es, [], hl, _, _ => by simp at hl
  | (q, p) :: es, e :: ents, hl, hr, hks => by
    simp only [keysLike] at hks
    obtain ⟨g1, g2⟩ := hr 0 (q, p) e rfl rfl
    obtain ⟨hk1, hk2⟩ := hks
    unfold keyLike at hk1
    split at hk1
    · rename_i heq _; cases heq
    · rename_i heq _; cases heq
    · rename_i ks' ps' qs h1 h2
      injection h1 with h1; subst h1
      injection h2 with h2; subst h2
      simp only [PRel] at g1
      obtain ⟨vs, hkey, g1⟩ := g1
      have he : ∀ w, (Op.equal kt (.agg ⟨us⟩) e.key).run P w = .ok (sameV ps qs) w := fun w => by rw [hkey]; exact run_equalK hkt hk1 hu g1 w
      have hke : keyEq (.agg ps) (.agg qs) = sameV ps qs := rfl
      cases hb : sameV ps qs with
      | true =>
        refine ⟨some (0, e.val), fun i w => ?_, Found.head (by rw [hke, hb]) g2⟩
        simp [Instr.findAsking, he, hb]
      | false =>
        obtain ⟨res, f1, f2⟩ := findAsking_key hkt hu es ents (by simpa using hl) (fun j p e hp he => hr (j + 1) p e (by simpa using hp) (by simpa using he)) hk2
        refine ⟨res.map fun r => (r.1 + 1, r.2), fun i w => ?_, Found.cons (by rw [hke, hb]) f2⟩
        simp only [Instr.findAsking, Sem.run_bind, he, hb, Result.andThen_ok, Bool.false_eq_true, if_false, f1]
        cases res with
        | none => rfl
        | some r => simp; omega
    · exact hk1.elim

theorem findKey_run {kt : TypeId} {kk : Kk} (hkt : kkIs P kt kk) {k : PV} (h1 : keyIs kk k) {kv : Value} (r1 : PRel x.w x.F k kv) (es : List (PV × PV)) (ents : List MapEntry) (hl : ents.length = es.length)
    (hr : ∀ (j : Nat) p e, es[j]? = some p → ents[j]? = some e → PRel x.w x.F p.1 e.key ∧ PRel x.w x.F p.2 e.val) (hks : keysLike kk k es) :
    ∃ res, (∀ w, (Instr.findKey kt kv ents).run P w = .ok res w) ∧ Found x k es ents res := by
  unfold keyIs at h1
  split at h1
  · rename_i j a
    obtain ⟨j', hu⟩ := hkt
    simp only [PRel] at r1
    subst r1
    obtain ⟨res, f1, f2⟩ := findNow_key (x := x) (kk := .int) (kd := .int j') (k := .sc (.int j a)) (kv := .int j a) (fun q qv hq hqv => by
      unfold keyLike at hq
      split at hq
      · rename_i j1 a1 j2 b1 _ h2
        injection h2 with h2; injection h2 with h3 h4
        subst hq; subst h3; subst h4
        simp only [PRel] at hqv
        subst hqv
        simp [Instr.sameNow, keyEq]; rfl
      · rename_i heq _; cases heq
      · rename_i heq _; cases heq
      · exact hq.elim) es ents hl hr hks
    exact ⟨res, fun w => by simp [Instr.findKey, run_underlying hu, f1], f2⟩
  · rename_i s
    have hu : P.underlying kt = some .string := hkt
    simp only [PRel] at r1
    subst r1
    obtain ⟨res, f1, f2⟩ := findNow_key (x := x) (kk := .str) (kd := .string) (k := .sc (.string s)) (kv := .string s) (fun q qv hq hqv => by
      unfold keyLike at hq
      split at hq
      · rename_i heq _; cases heq
      · rename_i a1 b1 _ h2
        injection h2 with h2; injection h2 with h2
        subst h2
        simp only [PRel] at hqv
        subst hqv
        simp only [Instr.sameNow, keyEq, beq_toListBytes]
        simp [toList_eq]
      · rename_i heq _; cases heq
      · exact hq.elim) es ents hl hr hks
    exact ⟨res, fun w => by simp [Instr.findKey, run_underlying hu, f1], f2⟩
  · rename_i ks ps
    simp only [PRel] at r1
    obtain ⟨us, rfl, r1⟩ := r1
    obtain ⟨res, f1, f2⟩ := findAsking_key hkt r1 es ents hl hr hks
    cases ents with
    | nil =>
      have : es = [] := List.eq_nil_of_length_eq_zero hl.symm
      subst this
      refine ⟨none, fun w => ?_, Found.none⟩
      rcases hkt with ⟨fs, hu, _, _⟩ | ⟨n, e, j, i, hu, _, _, _, _⟩ <;> simp [Instr.findKey, run_underlying hu, Instr.findNow]
    | cons e ents =>
      refine ⟨res, fun w => ?_, f2⟩
      have := f1 0 w
      rcases hkt with ⟨fs, hu, _, _⟩ | ⟨n, e', j, i, hu, _, _, _, _⟩
      · simp only [Instr.findKey, Sem.run_bind, run_underlying hu, Result.andThen_ok, Instr.findNow, Instr.sameNow, this]
        cases res <;> simp
      · simp only [Instr.findKey, Sem.run_bind, run_underlying hu, Result.andThen_ok, Instr.findNow, Instr.sameNow, this]
        cases res <;> simp
  · exact h1.elim

/-! ### maps from which entries are taken away -/
theorem esD_rel {es : List (Nat × PV × PV)} {ents : List MapEntry} (h : ∀ (i : Nat) p e, es[i]? = some p → ents[i]? = some e → EntryRel x p.2 e ∧ e.born = p.1) :
    ∀ (j : Nat) p e, (esD es)[j]? = some p → ents[j]? = some e → PRel x.w x.F p.1 e.key ∧ PRel x.w x.F p.2 e.val := fun j p e hp he => by
  unfold esD at hp
  rw [List.getElem?_map] at hp
  cases hq : es[j]? with
  | none => rw [hq] at hp; cases hp
  | some q =>
    rw [hq] at hp
    simp only [Option.map_some, Option.some.injEq] at hp
    subst hp
    exact (h j q e hq he).1
theorem esD_len (es : List (Nat × PV × PV)) : (esD es).length = es.length := List.length_map _
theorem mputD_snd {k v : PV} {c : Nat} : ∀ es : List (Nat × PV × PV), esD (mputD k v c es) = mput k v (esD es)
  | [] => rfl
  | e :: es => by
    have ih := mputD_snd (k := k) (v := v) (c := c) es
    unfold esD at ih ⊢
    simp only [mputD, List.map_cons, mput]
    by_cases h : keyEq k e.2.1 = true
    · rw [if_pos h, if_pos h]; rfl
    · rw [if_neg h, if_neg h, List.map_cons, ih]
theorem mputD_fst {k v : PV} {c : Nat} : ∀ es : List (Nat × PV × PV), (mputD k v c es).map (·.1) = if lkp k (esD es) = none then es.map (·.1) ++ [c] else es.map (·.1)
  | [] => by simp [mputD, esD, lkp]
  | e :: es => by
    have ih := mputD_fst (k := k) (v := v) (c := c) es
    unfold esD at ih ⊢
    simp only [mputD, List.map_cons, lkp]
    by_cases h : keyEq k e.2.1 = true
    · rw [if_pos h, if_pos h]; simp
    · rw [if_neg h, if_neg h, List.map_cons, ih]
      split <;> simp
theorem mdelD_erase {k : PV} : ∀ (es : List (Nat × PV × PV)) (j : Nat), (∀ i, i < j → ∀ q p, (esD es)[i]? = some (q, p) → keyEq k q = false) → (∃ q p, (esD es)[j]? = some (q, p) ∧ keyEq k q = true) → mdelD k es = es.eraseIdx j
  | [], j, _, h => by obtain ⟨q, p, h, _⟩ := h; simp [esD] at h
  | e :: es, 0, _, h => by
    obtain ⟨q, p, h, hk⟩ := h
    simp only [esD, List.map_cons, List.getElem?_cons_zero, Option.some.injEq] at h
    simp only [mdelD, h, hk, if_true, List.eraseIdx_cons_zero]
  | e :: es, j + 1, h0, h => by
    have hn := h0 0 (by omega) e.2.1 e.2.2 (by simp [esD])
    simp only [mdelD, hn, Bool.false_eq_true, if_false, List.eraseIdx_cons_succ]
    rw [mdelD_erase es j (fun i hi q p hq => h0 (i + 1) (by omega) q p (by simpa [esD] using hq)) (by simpa [esD] using h)]
theorem mdelD_none {k : PV} : ∀ (es : List (Nat × PV × PV)), lkp k (esD es) = none → mdelD k es = es
  | [], _ => rfl
  | e :: es, h => by
    simp only [esD, List.map_cons, lkp] at h
    split at h
    · cases h
    · rename_i hk
      simp only [mdelD, if_neg hk]
      rw [mdelD_none es h]

theorem run_getMap {w : World} {r : Nat} {es : Array MapEntry} {clock : Nat} (h : w.heap[r]? = some (.map es clock)) : (getObj r).run P w = .ok (.map es clock) w := by simp [getObj, Sem.run, h]

theorem q_mget {e : Env} {σ : St} {a : Act} (hS : SRel e σ x a) {t kt et : TypeId} {y z : Operand} {comma : Bool} {kk : Kk} (ho : o.op = .lookup t y z comma) (ht : P.underlying t = some (.map kt et)) (hkt : kkIs P kt kk)
    {i : TypeInfo} (hi : P.info? et = some i) {zv : Value} (hz : i.zero = some zv) {zero : AV} (hzero : VRel x zero zv) {u v : AV} (hy : VRel x u (ev y)) (hv : VRel x v (ev z)) (hp : mgetP σ kk u v) : QOK P x o ev (mgetV σ comma zero u v) := by
  unfold mgetP at hp
  split at hp
  · rename_i r k
    split at hp
    · rename_i es hst
      obtain ⟨h1, h2⟩ := hp
      have hrow := hS.st r _ (stGet_mem hst)
      simp only [Row.rel] at hrow
      obtain ⟨hok, ents, clock, hh, hlen, hents, _, _⟩ := hrow
      simp only [VRel] at hy hv
      have hhw : ∀ w', Agr x.w w' → w'.heap[(x.ρ r).blk]? = some (.map ⟨ents⟩ clock) := fun w' k => (k.heap _ (Array.getElem?_eq_some_iff.1 hh).1).trans hh
      obtain ⟨res, f1, f2⟩ := findKey_run hkt h1 hv es ents hlen hents h2
      have run : ∀ w', Agr x.w w' →
          (execOp ev o).run P w' = .ok (.value (match res with
            | some (_, v) => if comma then .tuple #[v, .bool true] else v
            | none => if comma then .tuple #[zv, .bool false] else zv)) w' := fun w' hk => by
        simp only [execOp, ho, hy]
        simp only [Instr.lookup, Sem.run_bind, run_underlying ht, Result.andThen_ok, run_getMap (hhw w' hk), run_checkKeyK hkt h1 hv, Sem.run_pure, f1]
        cases res with
        | none => cases comma <;> simp [zeroValue, typeInfo, hi, hz]
        | some q => cases comma <;> simp
      refine ⟨_, ?_, run⟩
      cases res with
      | none =>
        have f1 := (f2.no rfl).1
        simp only [mgetV, hst, f1]
        cases comma
        · simpa using hzero
        · simp only [if_true, VRel, VRels, vbool, PRel]
          exact ⟨[zv, .bool false], rfl, zv, _, rfl, hzero, _, _, rfl, rfl, rfl⟩
      | some q =>
        obtain ⟨j, cv⟩ := q
        obtain ⟨p, q', en, f1, f3, _⟩ := f2.yes j cv rfl
        simp only [mgetV, hst, f1]
        cases comma
        · simpa [VRel] using f3
        · simp only [if_true, VRel, VRels, vbool, PRel]
          exact ⟨[cv, .bool true], rfl, cv, _, rfl, f3, _, _, rfl, rfl, rfl⟩
    · rename_i es ck hst
      obtain ⟨h1, h2⟩ := hp
      have hrow := hS.st r _ (stGet_mem hst)
      simp only [Row.rel] at hrow
      obtain ⟨hok, ents, hh, hlen, hents, _, _⟩ := hrow
      simp only [VRel] at hy hv
      have hhw : ∀ w', Agr x.w w' → w'.heap[(x.ρ r).blk]? = some (.map ⟨ents⟩ ck) := fun w' k => (k.heap _ (Array.getElem?_eq_some_iff.1 hh).1).trans hh
      obtain ⟨res, f1, f2⟩ := findKey_run hkt h1 hv (esD es) ents (by rw [esD_len]; exact hlen) (esD_rel hents) h2
      have run : ∀ w', Agr x.w w' →
          (execOp ev o).run P w' = .ok (.value (match res with
            | some (_, v) => if comma then .tuple #[v, .bool true] else v
            | none => if comma then .tuple #[zv, .bool false] else zv)) w' := fun w' hk => by
        simp only [execOp, ho, hy]
        simp only [Instr.lookup, Sem.run_bind, run_underlying ht, Result.andThen_ok, run_getMap (hhw w' hk), run_checkKeyK hkt h1 hv, Sem.run_pure, f1]
        cases res with
        | none => cases comma <;> simp [zeroValue, typeInfo, hi, hz]
        | some q => cases comma <;> simp
      refine ⟨_, ?_, run⟩
      cases res with
      | none =>
        have f1 := (f2.no rfl).1
        simp only [mgetV, hst, f1]
        cases comma
        · simpa using hzero
        · simp only [if_true, VRel, VRels, vbool, PRel]
          exact ⟨[zv, .bool false], rfl, zv, _, rfl, hzero, _, _, rfl, rfl, rfl⟩
      | some q =>
        obtain ⟨j, cv⟩ := q
        obtain ⟨p, q', en, f1, f3, _⟩ := f2.yes j cv rfl
        simp only [mgetV, hst, f1]
        cases comma
        · simpa [VRel] using f3
        · simp only [if_true, VRel, VRels, vbool, PRel]
          exact ⟨[cv, .bool true], rfl, cv, _, rfl, f3, _, _, rfl, rfl, rfl⟩
    · exact hp.elim
  · exact hp.elim

theorem q_mlen {e : Env} {σ : St} {a : Act} (hS : SRel e σ x a) {t kt et : TypeId} {y : Operand} (ho : o.op = .call { callee := .builtin .len, args := #[y], argTypes := #[t] }) (ht : P.underlying t = some (.map kt et)) {u : AV} (hy : VRel x u (ev y)) (hp : mlenP σ u) :
    QOK P x o ev (mlenV σ u) := by
  unfold mlenP at hp
  split at hp
  · rename_i r
    split at hp
    · rename_i es hst
      have hrow := hS.st r _ (stGet_mem hst)
      simp only [Row.rel] at hrow
      obtain ⟨hok, ents, clock, hh, hlen, hents, _, _⟩ := hrow
      simp only [VRel] at hy
      refine ⟨.int .i64 (ents.length : Nat), ?_, fun w' k => ?_⟩
      · simp [mlenV, hst, vint, VRel, PRel, hlen]
      · have hhw : w'.heap[(x.ρ r).blk]? = some (.map ⟨ents⟩ clock) := (k.heap _ (Array.getElem?_eq_some_iff.1 hh).1).trans hh
        simp [execOp, ho, resolve, invoke, builtin, hy, Builtin.len_, Builtin.len, run_underlying ht, run_getMap hhw, goInt]
    · rename_i es ck hst
      have hrow := hS.st r _ (stGet_mem hst)
      simp only [Row.rel] at hrow
      obtain ⟨hok, ents, hh, hlen, hents, _, _⟩ := hrow
      simp only [VRel] at hy
      refine ⟨.int .i64 (ents.length : Nat), ?_, fun w' k => ?_⟩
      · simp [mlenV, hst, vint, VRel, PRel, hlen]
      · have hhw : w'.heap[(x.ρ r).blk]? = some (.map ⟨ents⟩ ck) := (k.heap _ (Array.getElem?_eq_some_iff.1 hh).1).trans hh
        simp [execOp, ho, resolve, invoke, builtin, hy, Builtin.len_, Builtin.len, run_underlying ht, run_getMap hhw, goInt]
    · exact hp.elim
  · exact hp.elim

theorem q_ent {e : Env} {σ : St} {a : Act} (hS : SRel e σ x a) {y : Operand} (ho : o.op = .entry y) {u : AV} (hy : VRel x u (ev y)) (hp : entP σ u) : QOK P x o ev (entV σ u) := by
  unfold entP at hp
  split at hp
  · rename_i r
    split at hp
    · rename_i m n rem c hst
      split at hp
      · rename_i es hsm
        have hrow := hS.st r _ (stGet_mem hst)
        have hmap := hS.st m _ (stGet_mem hsm)
        simp only [Row.rel] at hrow hmap
        obtain ⟨hok, seen, hh, hnd, hrem, hcur, hcn⟩ := hrow
        obtain ⟨hokm, ents, clock, hhm, hlen, hents, hclk, hborn⟩ := hmap
        simp only [VRel] at hy
        have hc := hcn c rfl
        obtain ⟨en, hen⟩ : ∃ en, ents[c]? = some en := ⟨ents[c]'(by omega), List.getElem?_eq_getElem _⟩
        obtain ⟨p, hpe⟩ : ∃ p, es[c]? = some p := ⟨es[c]'(by omega), List.getElem?_eq_getElem _⟩
        have hrel := hents c p en hpe hen
        have hfind : (⟨ents⟩ : Array MapEntry).find? (fun e => e.born == c) = some en := by
          rw [← Array.find?_toList]
          have key : ∀ (l : List MapEntry) (k : Nat), (∀ i e, l[i]? = some e → e.born = k + i) → ∀ j e, l[j]? = some e → l.find? (fun e => e.born == k + j) = some e := by
            intro l
            induction l with
            | nil => intro k _ j e h; simp at h
            | cons a l ih =>
              intro k hb j e hj
              have h0 := hb 0 a rfl
              cases j with
              | zero =>
                simp only [List.getElem?_cons_zero, Option.some.injEq] at hj
                subst hj
                simp [h0]
              | succ j =>
                rw [List.find?_cons]
                have : (a.born == k + (j + 1)) = false := by simp; omega
                rw [this]
                have := ih (k + 1) (fun i e h => by have := hb (i + 1) e (by simpa using h); omega) j e (by simpa using hj)
                rw [show k + (j + 1) = k + 1 + j by omega]
                exact this
          have := key ents 0 (fun i e h => by rw [hborn i e h]; omega) c en hen
          simpa using this
        refine ⟨.tuple #[en.key, en.val], ?_, fun w' k => ?_⟩
        · have hd : es.getD c default = p := by simp [List.getD_eq_getElem?_getD, hpe]
          simp only [entV, hst, hsm, hd, VRel, VRels]
          exact ⟨[en.key, en.val], rfl, _, _, rfl, hrel.1, _, _, rfl, hrel.2, rfl⟩
        · have h1 : w'.heap[(x.ρ r).blk]? = some (.mapIter (some (x.ρ m).blk) n seen n) := (k.heap _ (Array.getElem?_eq_some_iff.1 hh).1).trans hh
          have h2 : w'.heap[(x.ρ m).blk]? = some (.map ⟨ents⟩ clock) := (k.heap _ (Array.getElem?_eq_some_iff.1 hhm).1).trans hhm
          have h3 : (getObj (x.ρ r).blk).run P w' = .ok (.mapIter (some (x.ρ m).blk) n seen n) w' := by simp [getObj, Sem.run, h1]
          have h4 : (getObj (x.ρ m).blk).run P w' = .ok (.map ⟨ents⟩ clock) w' := run_getMap h2
          have hcl : clock = n := by omega
          simp [execOp, ho, hy, Instr.entry, h3, h4, ← hcur, hcl, hfind]
      · exact hp.elim
    · rename_i m n bs rem c hst
      split at hp
      · rename_i es ck hsm
        obtain ⟨hp1, hp2⟩ := hp
        have hrow := hS.st r _ (stGet_mem hst)
        have hmap := hS.st m _ (stGet_mem hsm)
        simp only [Row.rel] at hrow hmap
        obtain ⟨hok, seen, hh, hnd, hrem, hcur⟩ := hrow
        obtain ⟨hokm, ents, hhm, hlen, hents, hbn, hbl⟩ := hmap
        simp only [VRel] at hy
        obtain ⟨b, hb, hsb⟩ := hcur c rfl
        rw [← hp1, List.getElem?_map] at hb
        obtain ⟨p, hpe, hpb⟩ : ∃ p, es[c]? = some p ∧ p.1 = b := by
          cases hpe : es[c]? with
          | none => rw [hpe] at hb; cases hb
          | some p => rw [hpe] at hb; exact ⟨p, rfl, by simpa using hb⟩
        have hcl : c < es.length := (List.getElem?_eq_some_iff.1 hpe).1
        obtain ⟨en, hen⟩ : ∃ en, ents[c]? = some en := ⟨ents[c]'(by omega), List.getElem?_eq_getElem _⟩
        have hrel := hents c p en hpe hen
        have hborns : ents.map (·.born) = es.map (·.1) := by
          refine List.ext_getElem (by simp [hlen]) fun i h1 h2 => ?_
          simp only [List.length_map] at h1 h2
          rw [List.getElem_map, List.getElem_map]
          exact (hents i es[i] ents[i] (List.getElem?_eq_getElem h2) (List.getElem?_eq_getElem h1)).2
        have hfind : (⟨ents⟩ : Array MapEntry).find? (fun e => e.born == b) = some en := by
          rw [← Array.find?_toList]
          have := find_born en ents (by rw [hborns]; exact hbn) (List.mem_of_getElem? hen)
          rw [hrel.2, hpb] at this
          exact this
        refine ⟨.tuple #[en.key, en.val], ?_, fun w' k => ?_⟩
        · have hd : es.getD c default = p := by simp [List.getD_eq_getElem?_getD, hpe]
          simp only [entV, hst, hsm, hd, VRel, VRels]
          exact ⟨[en.key, en.val], rfl, _, _, rfl, hrel.1.1, _, _, rfl, hrel.1.2, rfl⟩
        · have h1 : w'.heap[(x.ρ r).blk]? = some (.mapIter (some (x.ρ m).blk) n seen n) := (k.heap _ (Array.getElem?_eq_some_iff.1 hh).1).trans hh
          have h2 : w'.heap[(x.ρ m).blk]? = some (.map ⟨ents⟩ ck) := (k.heap _ (Array.getElem?_eq_some_iff.1 hhm).1).trans hhm
          have h3 : (getObj (x.ρ r).blk).run P w' = .ok (.mapIter (some (x.ρ m).blk) n seen n) w' := by simp [getObj, Sem.run, h1]
          have h4 : (getObj (x.ρ m).blk).run P w' = .ok (.map ⟨ents⟩ ck) w' := run_getMap h2
          subst hp2
          simp [execOp, ho, hy, Instr.entry, h3, h4, hsb, hfind]
      · exact hp.elim
    · exact hp.elim
  · exact hp.elim
end
end Go.Vc

namespace Go.Vc
open Go.RowKit

/-- only the name r -/
def only (r : Nat) : Nat → Bool := fun q => q == r
def St.newRow (σ : St) (r : Nat) (row : Row) : St := ⟨frClip (only r) σ.fr, (r, row) :: stClip (only r) (stDel σ.st r)⟩
def St.put (σ : St) (d : Nat) (v : AV) : St := ⟨frPut σ.fr d v, σ.st⟩
def updρ (ρ : Nat → Loc) (r : Nat) (l : Loc) : Nat → Loc := fun q => if q = r then l else ρ q

section
variable {P : Program} {e : Env} {σ : St} {x : Cx} {a : Act} {o : Oper}

theorem below_alloc (w : World) (o : Obj) : Below w.heap.size w (w.alloc o) := (Below.refl _ w).alloc (Nat.le_refl _) o

/-- the context in which a new block g is row r -/
def newCx (e : Env) (σ : St) (x : Cx) (w' : World) (r : Nat) (row : Row) (l : Loc) : Cx :=
  ⟨w', fun b => e.F0 b ∨ Own ((r, row) :: stClip (only r) (stDel σ.st r)) (updρ x.ρ r l) b, updρ x.ρ r l⟩

/-- A NEW ROW, in a block that is new in a world that has grown from x's. -/
theorem SRel.fresh (h : SRel e σ x a) {w' : World} (hb : Below x.w.heap.size x.w w') (r : Nat) (row : Row) (l : Loc) (hl : l.ok = true → x.w.heap.size ≤ l.blk)
    (hrow : row.rel (newCx e σ x w' r row l) l) (hr : r < 200000) : SRel e (σ.newRow r row) (newCx e σ x w' r row l) a := by
  have e1 : (newCx e σ x w' r row l).ρ r = l := by simp [newCx, updρ]
  refine SRel.turn (y := newCx e σ x w' r row l) h r row (only r) hb.size hb.os hb.tape hb.output hb.drawn (fun b hl _ => hb.block b hl) (fun q hq => ?_) (fun q hq => ?_) (fun q hq => ?_) (fun hok => ?_) (fun b => Iff.rfl) ?_ (.inl hr)
  · simp only [only, beq_eq_false_iff_ne] at hq
    simp [newCx, updρ, hq]
  · simpa [only] using hq
  · simp [newCx, updρ, hq]
  · rw [e1] at hok ⊢
    exact .inl (hl hok)
  · rw [e1]; exact hrow

theorem newCx_kept (h : SRel e σ x a) {w' : World} (hb : Below x.w.heap.size x.w w') (r : Nat) (row : Row) (l : Loc) (hl : l.ok = true → x.w.heap.size ≤ l.blk) :
    Kept x (newCx e σ x w' r row l) where
  size := hb.size
  heap := fun b _ hl => hb.block b hl
  F := fun b hlt hy => by
    rcases hy with h0 | ⟨q, rw', hm, hok, hbe⟩
    · exact (h.F b).2 (.inl h0)
    · rcases List.mem_cons.1 hm with hm | hm
      · injection hm with h1 _
        subst h1
        simp only [updρ, if_true] at hok hbe
        have := hl hok; omega
      · obtain ⟨u, h1, _⟩ := stClip_mem hm
        obtain ⟨h3, h4⟩ := stDel_mem h1
        simp only [updρ, if_neg h4] at hok hbe
        exact (h.F b).2 (.inr ⟨q, u, h3, hok, hbe⟩)
theorem newCx_ρ {w' : World} (r : Nat) (row : Row) (l : Loc) : ∀ q, only r q = false → (newCx e σ x w' r row l).ρ q = x.ρ q := fun q hq => by
  simp only [only, beq_eq_false_iff_ne] at hq
  simp [newCx, updρ, hq]

def LStep (P : Program) (e : Env) (o : Oper) (a : Act) (w : World) (K : St → Prop) : Prop :=
  ∀ Q, o.wp P a w (fun a' w' => ∃ σ' y, SRel e σ' y a' ∧ y.w = w' ∧ K σ' ∧ Agr w w') Q

theorem wp_value {o : Oper} {a : Act} {w w' : World} {v : Value} {K : Act → World → Prop} {Q : Exit → Act → World → Prop} (h : (execOp a.eval o).run P w = .ok (.value v) w') (hk : K (a.put o.dst v) w') : o.wp P a w K Q := by
  unfold Oper.wp; rw [h]; exact hk

theorem arr_alloc (w : World) (cs : List Value) (t : TypeId) (n : Nat) (h : n ≤ cs.length) : Arr (w.alloc (.cells ⟨cs⟩ t)) w.heap.size n :=
  ⟨⟨cs⟩, t, by show (w.heap.push _)[w.heap.size]? = _; simp, by simpa using h⟩
theorem arr1_alloc (w : World) (cs : List Value) (t : TypeId) (n : Nat) (h : n ≤ cs.length) (h1 : ∀ c ∈ cs, c.oneCell' = true) : Arr1 (w.alloc (.cells ⟨cs⟩ t)) w.heap.size n :=
  ⟨⟨cs⟩, t, by show (w.heap.push _)[w.heap.size]? = _; simp, by simpa using h, h1⟩
theorem heap_new (w : World) (o : Obj) : (w.alloc o).heap[w.heap.size]? = some o := by
  show (w.heap.push _)[w.heap.size]? = _; simp

/-- a new box that holds cells related to AVs -/
theorem new_box (h : SRel e σ x a) (d : Nat) (hd : d < e.n) (ho : o.dst = some d) {K : St → Prop} {t : TypeId} {cs : List AV} {cvs : List Value} (hc : VRels x cs cvs)
    (hrun : (execOp a.eval o).run P x.w = .ok (.value (.pointer (some ⟨x.w.heap.size, 0, none⟩))) (x.w.alloc (.cells ⟨cvs⟩ t)))
    (hK : K ((σ.newRow d (.box (AV.clips (only d) cs))).put d (.ptr d 0))) : LStep P e o a x.w K := by
  intro Q
  refine wp_value hrun ?_
  have hb := below_alloc x.w (.cells ⟨cvs⟩ t)
  let l : Loc := ⟨x.w.heap.size, 0, 0, 0, true, 0⟩
  have kept := newCx_kept h hb d (.box (AV.clips (only d) cs)) l (fun _ => Nat.le_refl _)
  have h1 := SRel.fresh h hb d (.box (AV.clips (only d) cs)) l (fun _ => Nat.le_refl _) ⟨rfl, by
      simp only [Nat.zero_add, clips_length, l]
      exact arr_alloc _ _ _ _ (by rw [hc.length]; exact Nat.le_refl _), ACells.of (VRels.clip kept (newCx_ρ _ _ _) cs hc) (CellsAt.of_heap (heap_new _ _))⟩ (by have := h.small; omega)
  rw [ho]
  refine ⟨_, newCx e σ x (x.w.alloc (.cells ⟨cvs⟩ t)) d (.box (AV.clips (only d) cs)) l, h1.put hd (v := .ptr d 0) ?_, rfl, hK, below_agr hb⟩
  simp [VRel, newCx, updρ, l]

/-- 'var v T' that is kept in memory -/
theorem l_alloc (h : SRel e σ x a) (d : Nat) (hd : d < e.n) (hdst : o.dst = some d) {t : TypeId} (ho : o.op = .alloc t) {i : TypeInfo} {zv : Value} (hi : P.info? t = some i) (hz : i.zero = some zv)
    {zero : List AV} (hzero : ∀ y : Cx, VRels y zero zv.cells.toList) {K : St → Prop} (hK : K ((σ.newRow d (.box (AV.clips (only d) zero))).put d (.ptr d 0))) : LStep P e o a x.w K := by
  refine new_box (t := t) h d hd hdst (hzero x) ?_ hK
  simp [execOp, ho, Instr.alloc, zeroValue, typeInfo, hi, hz, newVar, newRow, newObj, Sem.run]

theorem l_box (h : SRel e σ x a) (d : Nat) (hd : d < e.n) (hdst : o.dst = some d) {t : TypeId} {y : Operand} (ho : o.op = .box t y) {z : Opd} (hz : Opd.of y = some z) (hc : z.cd σ = true) (hk : okc (z.sv σ) = true)
    {K : St → Prop} (hK : K ((σ.newRow d (.box (AV.clips (only d) (z.sv σ).cells))).put d (.ptr d 0))) : LStep P e o a x.w K := by
  refine new_box (t := t) h d hd hdst (cells_rel (Opd.of_sv h hz hc) hk) ?_ hK
  simp [execOp, ho, Instr.box, newVar, newRow, newObj, Sem.run]

/-- a value and no row more -/
theorem SRel.value_ext (h : SRel e σ x a) {w' : World} (hb : Below x.w.heap.size x.w w') {d : Nat} (hd : d < e.n) {v : AV} {cv : Value} (hv : VRel ⟨w', x.F, x.ρ⟩ v cv) :
    SRel e (σ.put d v) ⟨w', x.F, x.ρ⟩ (a.put (some d) cv) := (h.ext hb).put hd hv

theorem F_lt (h : SRel e σ x a) {b : Nat} (hb : x.F b) : b < x.w.heap.size := by
  rcases (h.F b).1 hb with h0 | ⟨r, row, hm, hok, rfl⟩
  · exact Nat.lt_of_lt_of_le (h.f0 b h0).1 h.below.size
  · exact h.blk_lt r row hm hok

def allOk : List AV → Bool
  | [] => true
  | v :: vs => okc v && allOk vs
theorem allOk_mem : ∀ {vs : List AV}, allOk vs = true → ∀ v ∈ vs, okc v = true
  | [], _, v, h => by cases h
  | u :: vs, ho, v, h => by
    simp only [allOk, Bool.and_eq_true] at ho
    rcases List.mem_cons.1 h with rfl | h
    · exact ho.1
    · exact allOk_mem ho.2 v h
def allW (s : Nat) : List AV → Prop
  | [] => True
  | v :: vs => v.cells.length = s ∧ allW s vs
def AV.one : AV → Bool
  | .pv p => p.one
  | .un | .agg _ | .tup _ | .whn _ _ => false
  | _ => true
theorem PV.one_rel {w : World} {F : Nat → Prop} {p : PV} {v : Value} (h : PRel w F p v) (ho : p.one = true) : v.oneCell' = true := by
  cases p <;> simp only [PRel] at h <;> simp only [PV.one] at ho
  case sc c => subst h; exact ho
  case lst xs => obtain ⟨_, _, _, rfl, _⟩ := h; rfl
  case fn f xs => obtain ⟨_, rfl, _⟩ := h; rfl
  case pt xs => obtain ⟨_, _, rfl, _⟩ := h; rfl
  all_goals cases ho
theorem AV.one_rel {v : AV} {cv : Value} (h : VRel x v cv) (ho : v.one = true) : cv.oneCell' = true := by
  cases v <;> simp only [VRel] at h <;> simp only [AV.one] at ho
  case pv p => exact PV.one_rel h ho
  case e0 => obtain ⟨_, rfl⟩ := h; rfl
  case lit xs => obtain ⟨_, _, _, rfl, _⟩ := h; rfl
  case row r off n => rcases h with ⟨_, _, _, rfl⟩ | ⟨_, _, rfl, _⟩ <;> rfl
  case ptr => subst h; rfl
  case rptr => subst h; rfl
  case eptr => obtain ⟨_, _, rfl, _⟩ := h; rfl
  case cptr => obtain ⟨_, _, rfl, _⟩ := h; rfl
  case fn => obtain ⟨_, rfl, _⟩ := h; rfl
  case mp => subst h; rfl
  case it => subst h; rfl
  all_goals cases ho

theorem VRels.sizes {s : Nat} : ∀ {vs : List AV} {cvs : List Value}, VRels x vs cvs → allOk vs = true → allW s vs → ∀ c ∈ cvs, c.cells.size = s
  | [], _, h, _, _, c, hc => by simp only [VRels] at h; subst h; cases hc
  | v :: vs, _, h, ho, hw, c, hc => by
    simp only [VRels] at h
    obtain ⟨u, r, rfl, h1, h2⟩ := h
    simp only [allOk, Bool.and_eq_true] at ho
    simp only [allW] at hw
    rcases List.mem_cons.1 hc with rfl | hc
    · have := (cells_rel h1 ho.1).length
      rw [hw.1] at this; simpa using this
    · exact VRels.sizes h2 ho.2 hw.2 c hc

/-- what a composite literal of a slice asks, and its run -/
structure LitOf (P : Program) (o : Oper) (zs : List Opd) (s : Nat) : Prop where
  it : ∃ t et i zv parts ys, o.op = .buildSlice t ys.length parts ∧ parts.toList = ys.zipIdx.map (fun q => (q.2, q.1)) ∧ opdsOf ys = some zs ∧ P.underlying t = some (.slice et) ∧ P.info? et = some i ∧
    i.zero = some zv ∧ 0 < i.size ∧ i.size = s

theorem zipIdx_map_eval (ev : Operand → Value) : ∀ (ys : List Operand) (k : Nat), ((ys.zipIdx k).map fun q => (q.2, q.1)).map (fun q => (q.1, ev q.2)) = ((ys.map ev).zipIdx k).map fun q => (q.2, q.1)
  | [], _ => rfl
  | y :: ys, k => by simp only [List.zipIdx_cons, List.map_cons, zipIdx_map_eval ev ys (k + 1)]

theorem run_lit (h : SRel e σ x a) {zs : List Opd} {s : Nat} (hl : LitOf P o zs s) (hcd : cds σ zs = true) (hok : allOk (evs σ zs) = true) (hw : allW s (evs σ zs)) (hn : zs.length * s ≤ 16777216) :
    ∃ cvs et, VRels x (evs σ zs) cvs ∧ cvs.length = zs.length ∧ (∀ c ∈ cvs, c.cells.size = s) ∧ ∀ w', (execOp a.eval o).run P w' = .ok (.value (.slice (some ⟨w'.heap.size, 0, none⟩) cvs.length cvs.length)) (w'.alloc (.cells ⟨Value.allCells cvs⟩ et)) := by
  obtain ⟨t, et, i, zv, parts, ys, ho, hp, hz, ht, hi, hzv, hs0, rfl⟩ := hl.it
  have hr := opds_rel h hz hcd
  have hlen : (ys.map a.eval).length = zs.length := by
    have : (evs σ zs).length = zs.length := by
      clear hr hok hw hcd hl hn hz
      induction zs with
      | nil => rfl
      | cons z zs ih => simp [evs, ih]
    rw [hr.length, this]
  refine ⟨ys.map a.eval, et, hr, hlen, hr.sizes hok hw, fun w' => ?_⟩
  have hsz := hr.sizes hok hw
  have e1 : (parts.map fun q => (q.1, a.eval q.2)) = (((ys.map a.eval).zipIdx).map fun q => (q.2, q.1)).toArray := by
    apply Array.toList_inj.1
    simp only [Array.toList_map, hp, zipIdx_map_eval]
  have := run_buildSlice (P := P) (w := w') ht hi hzv hs0 (ys.map a.eval) hsz (by rw [hlen]; exact hn)
  rw [List.length_map] at this
  simp only [execOp, ho]
  simp only [Sem.run_bind]
  rw [show (parts.map fun (i, x) => (i, a.eval x)) = (((ys.map a.eval).zipIdx).map fun q => (q.2, q.1)).toArray from e1, this]
  simp

theorem l_lits (h : SRel e σ x a) (d : Nat) (hd : d < e.n) (hdst : o.dst = some d) {zs : List Opd} {s : Nat} (hl : LitOf P o zs s) (hcd : cds σ zs = true) (hok : allOk (evs σ zs) = true) (hw : allW s (evs σ zs)) (hn : zs.length * s ≤ 16777216)
    {K : St → Prop} (hK : K (σ.put d (mkLit (evs σ zs)))) : LStep P e o a x.w K := by
  intro Q
  obtain ⟨cvs, et, hr, hlen, _, hrun⟩ := run_lit h hl hcd hok hw hn
  refine wp_value (hrun x.w) ?_
  have hb := below_alloc x.w (.cells ⟨Value.allCells cvs⟩ et)
  rw [hdst]
  refine ⟨_, _, h.value_ext hb hd (v := mkLit (evs σ zs)) ?_, rfl, hK, below_agr hb⟩
  have kept : Kept x ⟨x.w.alloc (.cells ⟨Value.allCells cvs⟩ et), x.F, x.ρ⟩ := ⟨hb.size, fun b _ hl => hb.block b hl, fun b _ hy => hy⟩
  have hr' := hr.kept kept rfl
  have hA := AElems.of (x := ⟨x.w.alloc (.cells ⟨Value.allCells cvs⟩ et), x.F, x.ρ⟩) hr' (allOk_mem hok) (CellsAt.of_heap (heap_new _ _))
  have hnF : ¬ x.F x.w.heap.size := fun hF => by have := F_lt h hF; omega
  have hlt : x.w.heap.size < (x.w.alloc (.cells ⟨Value.allCells cvs⟩ et)).heap.size := by simp
  unfold mkLit
  split
  · rename_i hps
    simp only [VRel]
    have hpl := (allPv_rel hps hr).length
    simp only [List.length_nil] at hpl
    exact ⟨some ⟨x.w.heap.size, 0, none⟩, by rw [hpl]⟩
  · rename_i ps _ hps
    simp only [VRel, PRel]
    have hpl := (allPv_rel hps hr).length
    exact ⟨_, _, _, rfl, hpl, Nat.le_refl _, fun _ => ⟨_, _, rfl, hlt, hnF, AElems.pure hps hA⟩⟩
  · simp only [VRel]
    exact ⟨_, _, _, rfl, hr.length, Nat.le_refl _, fun _ => ⟨_, _, rfl, hlt, hnF, hA⟩⟩

theorem ones_rel : ∀ {vs : List AV} {cvs : List Value}, VRels x vs cvs → (∀ v ∈ vs, AV.one v = true) → ∀ c ∈ cvs, c.oneCell' = true
  | [], _, h, _, c, hc => by simp only [VRels] at h; subst h; cases hc
  | v :: vs, _, h, ho, c, hc => by
    simp only [VRels] at h
    obtain ⟨u, r, rfl, h1, h2⟩ := h
    rcases List.mem_cons.1 hc with rfl | hc
    · exact AV.one_rel h1 (ho v (by simp))
    · exact ones_rel h2 (fun v hv => ho v (List.mem_cons_of_mem _ hv)) c hc
theorem allCells_ones : ∀ {vs : List AV} {cvs : List Value}, VRels x vs cvs → (∀ v ∈ vs, okc v = true) → (∀ v ∈ vs, ∀ c ∈ v.cells, AV.one c = true) → ∀ c ∈ Value.allCells cvs, c.oneCell' = true
  | [], _, h, _, _, c, hc => by simp only [VRels] at h; subst h; cases hc
  | v :: vs, _, h, hk, ho, c, hc => by
    simp only [VRels] at h
    obtain ⟨u, r, rfl, h1, h2⟩ := h
    simp only [Value.allCells] at hc
    rcases List.mem_append.1 hc with hc | hc
    · exact ones_rel (cells_rel h1 (hk v (by simp))) (ho v (by simp)) c hc
    · exact allCells_ones h2 (fun v hv => hk v (List.mem_cons_of_mem _ hv)) (fun v hv => ho v (List.mem_cons_of_mem _ hv)) c hc
theorem l_own (h : SRel e σ x a) (d : Nat) (hd : d < e.n) (hdst : o.dst = some d) {zs : List Opd} {s : Nat} (hl : LitOf P o zs s) (hcd : cds σ zs = true) (hok : allOk (evs σ zs) = true) (hw : allW s (evs σ zs)) (hn : zs.length * s ≤ 16777216) (hone : ∀ v ∈ evs σ zs, ∀ c ∈ v.cells, AV.one c = true)
    {ps : List PV} (hps : allPv (evs σ zs) = some ps) {K : St → Prop} (hK : K ((σ.newRow d (.sl s ps)).put d (.row d 0 zs.length))) : LStep P e o a x.w K := by
  intro Q
  obtain ⟨cvs, et, hr, hlen, hsz, hrun⟩ := run_lit h hl hcd hok hw hn
  refine wp_value (hrun x.w) ?_
  have hb := below_alloc x.w (.cells ⟨Value.allCells cvs⟩ et)
  rw [hdst]
  let l : Loc := ⟨x.w.heap.size, 0, cvs.length, s, true, ps.length⟩
  have kept := newCx_kept h hb d (.sl s ps) l (fun _ => Nat.le_refl _)
  have hr' := VRels.clip kept (newCx_ρ d (.sl s ps) l) _ hr
  have hpl := (allPv_rel hps hr).length
  have hpure : AV.clips (only d) (evs σ zs) = evs σ zs := by
    have : ∀ {vs : List AV} {ps : List PV}, allPv vs = some ps → AV.clips (only d) vs = vs := by
      intro vs
      induction vs with
      | nil => intro _ _; rfl
      | cons v vs ih =>
        intro ps hp
        cases v with
        | pv p =>
          simp only [allPv] at hp
          split at hp
          · rename_i qs hq; simp only [AV.clips, AV.clip, ih hq]
          · cases hp
        | e0 =>
          simp only [allPv] at hp
          split at hp
          · rename_i qs hq; simp only [AV.clips, AV.clip, ih hq]
          · cases hp
        | _ => simp [allPv] at hp
    exact this hps
  rw [hpure] at hr'
  have hA := AElems.of hr' (allOk_mem hok) (CellsAt.of_heap (w := (newCx e σ x _ d (.sl s ps) l).w) (heap_new _ _))
  have hcl : ∀ {vs : List AV} {ps : List PV}, allPv vs = some ps → allW s vs → (∀ v ∈ vs, ∀ c ∈ v.cells, AV.one c = true) → WfL s ps := by
    intro vs
    induction vs with
    | nil => intro ps hp _ _ p hm; simp only [allPv, Option.some.injEq] at hp; subst hp; cases hm
    | cons v vs ih =>
      intro ps hp hw h1 p hm
      simp only [allW] at hw
      cases v with
      | pv q =>
        simp only [allPv] at hp
        split at hp
        · rename_i qs hq
          injection hp with hp; subst hp
          rcases List.mem_cons.1 hm with rfl | hm
          · exact ⟨by simpa [AV.cells] using hw.1, fun c hc => by simpa [AV.one] using h1 (.pv p) (by simp) (.pv c) (by simp only [AV.cells]; exact List.mem_map.2 ⟨c, hc, rfl⟩)⟩
          · exact ih hq hw.2 (fun v hv => h1 v (List.mem_cons_of_mem _ hv)) p hm
        · cases hp
      | e0 =>
        simp only [allPv] at hp
        split at hp
        · rename_i qs hq
          injection hp with hp; subst hp
          rcases List.mem_cons.1 hm with rfl | hm
          · exact ⟨by simpa [AV.cells, PV.cells] using hw.1, fun c hc => by simp only [PV.cells, List.mem_singleton] at hc; subst hc; rfl⟩
          · exact ih hq hw.2 (fun v hv => h1 v (List.mem_cons_of_mem _ hv)) p hm
        · cases hp
      | _ => simp [allPv] at hp
  have h1 := SRel.fresh h hb d (.sl s ps) l (fun _ => Nat.le_refl _) (.inr ⟨rfl, rfl, ⟨rfl, by simp only [l]; omega⟩, hcl hps hw hone, arr1_alloc _ _ _ _ (by simp only [l, Nat.zero_add]; rw [allCells_length cvs hsz]; exact Nat.le_refl _) (allCells_ones hr (allOk_mem hok) hone), AElems.pure hps hA⟩) (by have := h.small; omega)
  refine ⟨_, _, h1.put hd (v := .row d 0 zs.length) ?_, rfl, hK, below_agr hb⟩
  simp only [VRel]
  refine .inr ⟨cvs.length, by simp [newCx, updρ, l], by simp [newCx, updρ, l, hlen], by omega, by simp [newCx, updρ, l], by simp [newCx, updρ, l]; omega⟩
end
end Go.Vc

namespace Go.Vc
open Go.RowKit
section
variable {P : Program} {e : Env} {σ : St} {x : Cx} {a : Act} {o : Oper}

/-! ### make -/
theorem CellsAt.madeCells {w : World} {b : Nat} {z : Array Value} {s n k : Nat} {t : TypeId} {fz : Nat × Nat} (h : w.heap[b]? = some (.cells (madeCells z (n * s)) t fz)) (hz : z.size = s) (hk : k < n) :
    CellsAt w b (k * s) z.toList := fun j c hj => by
  have hj' : j < s := by have := (List.getElem?_eq_some_iff.1 hj).1; simpa [hz] using this
  have hlt : k * s + j < n * s := by
    have : (k + 1) * s ≤ n * s := Nat.mul_le_mul_right _ hk
    rw [Nat.succ_mul] at this; omega
  have hm : (k * s + j) % z.size = j := by rw [hz, Nat.mul_comm, Nat.mul_add_mod]; exact Nat.mod_eq_of_lt hj'
  have hc : z[j]? = some c := by simpa using hj
  obtain ⟨h2, h3⟩ := Array.getElem?_eq_some_iff.1 hc
  simp only [World.cell?, h, Go.madeCells]
  simp [hlt, hm, h2, h3]

theorem PElems.replicate {w : World} {F : Nat → Prop} {p : PV} {s : Nat} (hp : p.cells.length = s) {b : Nat} : ∀ (n o' : Nat), (∀ k, k < n → PCells w F p.cells b (o' + k * s)) → PElems w F (List.replicate n p) b o'
  | 0, _, _ => by simp [PElems]
  | n + 1, o', h => by
    have h0 := h 0 (by omega)
    have rest := PElems.replicate hp n (o' + s) fun k hk => by
      have := h (k + 1) (by omega)
      rw [Nat.succ_mul] at this
      rw [show o' + s + k * s = o' + (k * s + s) by omega]; exact this
    simp only [Nat.zero_mul, Nat.add_zero] at h0
    cases p with
    | agg cs => simp only [List.replicate_succ, PElems]; simp only [PV.cells] at hp h0; rw [hp]; exact ⟨h0, rest⟩
    | _ =>
      simp only [PV.cells, List.length_cons, List.length_nil, Nat.zero_add] at hp
      subst hp
      simp only [PV.cells, PCells, and_true] at h0
      simp only [List.replicate_succ, PElems]
      exact ⟨h0, rest⟩

theorem wfl_replicate {s : Nat} {p : PV} {n : Nat} (h : p.cells.length = s ∧ ∀ c ∈ p.cells, c.one = true) : WfL s (List.replicate n p) := fun q hq => by
  rw [(List.mem_replicate.1 hq).2]; exact h

theorem PRels.ones {w : World} {F : Nat → Prop} : ∀ {ps : List PV} {vs : List Value}, PRels w F ps vs → (∀ c ∈ ps, c.one = true) → ∀ c ∈ vs, c.oneCell' = true
  | [], _, h, _, c, hc => by simp only [PRels] at h; subst h; cases hc
  | p :: ps, _, h, h1, c, hc => by
    simp only [PRels] at h
    obtain ⟨u, r, rfl, h2, h3⟩ := h
    rcases List.mem_cons.1 hc with rfl | hc
    · exact PV.one_rel h2 (h1 p (by simp))
    · exact h3.ones (fun q hq => h1 q (List.mem_cons_of_mem _ hq)) c hc
theorem madeCells_ones {z : Array Value} {n : Nat} (h : ∀ c ∈ z.toList, c.oneCell' = true) (hz : 0 < z.size) : ∀ c ∈ (madeCells z n).toList, c.oneCell' = true := fun c hc => by
  simp only [Go.madeCells, Array.toList_map, Array.toList_range, List.mem_map] at hc
  obtain ⟨k, _, rfl⟩ := hc
  have hk : k % z.size < z.size := Nat.mod_lt _ hz
  rw [getElem!_pos z _ hk]
  exact h _ (by simp)
theorem layC_ones : ∀ (vs L : List Value) (off : Nat), (∀ c ∈ L, c.oneCell' = true) → (∀ c ∈ vs, c.oneCell' = true) → ∀ c ∈ layC L off vs, c.oneCell' = true
  | [], _, _, h, _ => h
  | v :: vs, L, off, h, h' => layC_ones vs _ _ (fun c hc => by
      rcases List.mem_or_eq_of_mem_set hc with h1 | h1
      · exact h c h1
      · subst h1; exact h' c (by simp)) (fun c hc => h' c (List.mem_cons_of_mem _ hc))
theorem l_mks (h : SRel e σ x a) (d : Nat) (hd : d < e.n) (hdst : o.dst = some d) {t et : TypeId} {yl yc : Operand} (ho : o.op = .makeSlice t yl yc) {i : TypeInfo} {zv : Value} (ht : P.underlying t = some (.slice et)) (hi : P.info? et = some i)
    (hz : i.zero = some zv) {kl kc : IntKind} {n c : Int} (hl : a.eval yl = .int kl n) (hc : a.eval yc = .int kc c) (h0 : 0 ≤ n) (h1 : n ≤ c) (h2 : (i.bytes : Int) * c ≤ 281474976710656) (h3 : c ≤ 9223372036854775807)
    {p : PV} (hp : ∀ (w : World) (F : Nat → Prop), PRels w F p.cells zv.cells.toList) (hp1 : ∀ c ∈ p.cells, c.one = true) (hzs : zv.cells.size = i.size) (hz0 : 0 < i.size)
    {K : St → Prop} (hK : K ((σ.newRow d (.sl i.size (List.replicate n.toNat p))).put d (.row d 0 n.toNat))) : LStep P e o a x.w K := by
  intro Q
  have hlen : p.cells.length = i.size := by have := (hp x.w x.F).length; rw [← this]; simpa using hzs
  refine wp_value (v := .slice (some ⟨x.w.heap.size, 0, none⟩) n.toNat c.toNat) (w' := x.w.alloc (.cells (madeCells zv.cells (c.toNat * i.size)) et)) ?_ ?_
  · simp [execOp, ho, hl, hc, run_make x.w t et i zv ht hi hz kl kc n c h0 h1 h2 h3]
  have hb := below_alloc x.w (.cells (madeCells zv.cells (c.toNat * i.size)) et)
  rw [hdst]
  let l : Loc := ⟨x.w.heap.size, 0, c.toNat, i.size, true, n.toNat⟩
  have h4 := SRel.fresh h hb d (.sl i.size (List.replicate n.toNat p)) l (fun _ => Nat.le_refl _) (.inr ⟨rfl, rfl, ⟨by simp [l], by simp only [l, List.length_replicate]; omega⟩, wfl_replicate ⟨hlen, hp1⟩,
    ⟨_, _, heap_new _ _, by simp only [l, Nat.zero_add]; simp [size_madeCells], madeCells_ones ((hp x.w x.F).ones hp1) (by rw [hzs]; exact hz0)⟩, PElems.replicate hlen _ _ fun k hk => by
      have := CellsAt.madeCells (w := x.w.alloc (.cells (madeCells zv.cells (c.toNat * i.size)) et)) (heap_new _ _) hzs (show k < c.toNat by omega)
      simp only [l, Nat.zero_add]
      exact PCells.of (hp _ _) this⟩) (by have := h.small; omega)
  refine ⟨_, newCx e σ x (x.w.alloc (.cells (madeCells zv.cells (c.toNat * i.size)) et)) d (.sl i.size (List.replicate n.toNat p)) l, h4.put hd (v := .row d 0 n.toNat) ?_, rfl, hK, below_agr hb⟩
  simp only [VRel]
  exact .inr ⟨c.toNat, by simp [newCx, updρ, l], by simp [newCx, updρ, l], by omega, by simp [newCx, updρ, l], by simp [newCx, updρ, l]⟩

/-- a slice of slots: its cells may lead into own rows -/
theorem l_mkx (h : SRel e σ x a) (d : Nat) (hd : d < e.n) (hdst : o.dst = some d) {t et : TypeId} {yl yc : Operand} (ho : o.op = .makeSlice t yl yc) {i : TypeInfo} {zv : Value} (ht : P.underlying t = some (.slice et)) (hi : P.info? et = some i)
    (hz : i.zero = some zv) {kl kc : IntKind} {n c : Int} (hl : a.eval yl = .int kl n) (hc : a.eval yc = .int kc c) (h0 : 0 ≤ n) (hnc : n = c) (h2 : (i.bytes : Int) * c ≤ 281474976710656) (h3 : c ≤ 9223372036854775807)
    (hz1 : zv = .slice none 0 0) (hs1 : i.size = 1)
    {K : St → Prop} (hK : K ((σ.newRow d (.bxs (List.replicate n.toNat .e0))).put d (.row d 0 n.toNat))) : LStep P e o a x.w K := by
  intro Q
  subst hnc
  refine wp_value (v := .slice (some ⟨x.w.heap.size, 0, none⟩) n.toNat n.toNat) (w' := x.w.alloc (.cells (madeCells zv.cells (n.toNat * i.size)) et)) ?_ ?_
  · simp [execOp, ho, hl, hc, run_make x.w t et i zv ht hi hz kl kc n n h0 (Int.le_refl _) h2 h3]
  have hb := below_alloc x.w (.cells (madeCells zv.cells (n.toNat * i.size)) et)
  have hzs : zv.cells.size = i.size := by rw [hz1, hs1]; rfl
  rw [hdst]
  let l : Loc := ⟨x.w.heap.size, 0, n.toNat, 1, true, n.toNat⟩
  have hcell : ∀ k, k < n.toNat → (x.w.alloc (.cells (madeCells zv.cells (n.toNat * i.size)) et)).cell? ⟨x.w.heap.size, k, none⟩ = some (.slice none 0 0) := fun k hk => by
    have := CellsAt.madeCells (w := x.w.alloc (.cells (madeCells zv.cells (n.toNat * i.size)) et)) (heap_new _ _) hzs hk 0 (.slice none 0 0) (by rw [hz1]; rfl)
    simpa [hs1] using this
  have hAC : ∀ (z : Cx), z.w = x.w.alloc (.cells (madeCells zv.cells (n.toNat * i.size)) et) → ∀ (m k : Nat), k + m = n.toNat → ACells z (List.replicate m .e0) x.w.heap.size k := by
    intro z hzw m
    induction m with
    | zero => intro k _; simp [ACells]
    | succ m ih =>
      intro k hk
      simp only [List.replicate_succ, ACells]
      exact ⟨⟨_, by rw [hzw]; exact hcell k (by omega), by simp [VRel]⟩, ih (k + 1) (by omega)⟩
  have h4 := SRel.fresh h hb d (.bxs (List.replicate n.toNat .e0)) l (fun _ => Nat.le_refl _) ⟨rfl, ⟨rfl, by simp [l], by simp [l]⟩,
    ⟨_, _, heap_new _ _, by simp only [l, Nat.zero_add]; simp [size_madeCells, hs1]⟩, hAC _ rfl _ _ (by simp [l])⟩ (by have := h.small; omega)
  refine ⟨_, newCx e σ x (x.w.alloc (.cells (madeCells zv.cells (n.toNat * i.size)) et)) d (.bxs (List.replicate n.toNat .e0)) l, h4.put hd (v := .row d 0 n.toNat) ?_, rfl, hK, below_agr hb⟩
  simp only [VRel]
  exact .inr ⟨n.toNat, by simp [newCx, updρ, l], by simp [newCx, updρ, l], by omega, by simp [newCx, updρ, l], by simp [newCx, updρ, l]⟩

/-! ### stores -/
def setBlk (w : World) (b : Nat) (L : List Value) (t : TypeId) : World := { w with heap := w.heap.setIfInBounds b (.cells ⟨L⟩ t (0, 0)) }
theorem setBlk_at {w : World} {b : Nat} {L L' : List Value} {t : TypeId} (h : w.heap[b]? = some (.cells ⟨L⟩ t (0, 0))) : (setBlk w b L' t).heap[b]? = some (.cells ⟨L'⟩ t (0, 0)) := by
  have := (Array.getElem?_eq_some_iff.1 h).1
  simp [setBlk, this]
theorem setBlk_far {w : World} {b b' : Nat} {L' : List Value} {t : TypeId} (h : b' ≠ b) : (setBlk w b L' t).heap[b']? = w.heap[b']? := by
  simp only [setBlk]
  rw [Array.getElem?_setIfInBounds_ne (fun e => h e.symm)]
theorem setBlk_size (w : World) (b : Nat) (L' : List Value) (t : TypeId) : (setBlk w b L' t).heap.size = w.heap.size := by simp [setBlk]
theorem setBlk_same {w : World} {b : Nat} {L : List Value} {t : TypeId} (h : w.heap[b]? = some (.cells ⟨L⟩ t (0, 0))) : setBlk w b L t = w := by
  have hlt := (Array.getElem?_eq_some_iff.1 h).1
  have hg := (Array.getElem?_eq_some_iff.1 h).2
  unfold setBlk
  have : w.heap.setIfInBounds b (.cells ⟨L⟩ t (0, 0)) = w.heap := by
    apply Array.ext_getElem?
    intro i
    by_cases hi : b = i
    · subst hi; simp [hlt, hg]
    · rw [Array.getElem?_setIfInBounds_ne hi]
  rw [this]

theorem run_store_one {w : World} {b off : Nat} {L : List Value} {t : TypeId} {v : Value} (h : w.heap[b]? = some (.cells ⟨L⟩ t (0, 0))) (hl : off < L.length) (hv : v.oneCell' = true) :
    (store ⟨b, off, none⟩ v).run P w = .ok () (setBlk w b (L.set off v) t) := by
  have hc : w.cell? ⟨b, off, none⟩ = some L[off] := by simp [World.cell?, h, hl]
  have hf : w.frozen? ⟨b, off, none⟩ = false := by simp [World.frozen?, h]
  rw [run_store P w _ v _ hv, hc]
  simp only [hf, Bool.false_eq_true, if_false]
  congr 1
  have hlt := (Array.getElem?_eq_some_iff.1 h).1
  have hg := (Array.getElem?_eq_some_iff.1 h).2
  simp only [World.setCell, setBlk]
  congr 1
  apply Array.ext_getElem?
  intro i
  rw [Array.getElem?_modify]
  by_cases hi : b = i
  · subst hi; simp [hlt, hg]
  · rw [if_neg (by omega), Array.getElem?_setIfInBounds_ne hi]

theorem run_storeCells {b : Nat} {t : TypeId} : ∀ (vs : List Value) (w : World) (L : List Value) (base k : Nat), w.heap[b]? = some (.cells ⟨L⟩ t (0, 0)) → base + k + vs.length ≤ L.length → (∀ v ∈ vs, v.oneCell' = true) →
    (storeCells ⟨b, base, none⟩ vs k).run P w = .ok () (setBlk w b (layC L (base + k) vs) t)
  | [], w, L, base, k, h, _, _ => by simp [storeCells, layC, setBlk_same h]
  | v :: vs, w, L, base, k, h, hl, hv => by
    simp only [List.length_cons] at hl
    have h1 := run_store_one (P := P) h (off := base + k) (by omega) (hv v (by simp))
    have h2 := run_storeCells vs (setBlk w b (L.set (base + k) v) t) (L.set (base + k) v) base (k + 1) (setBlk_at h) (by simp; omega) (fun u hu => hv u (List.mem_cons_of_mem _ hu))
    simp only [storeCells, Sem.run_bind, addr_add, h1, Result.andThen_ok, h2, layC]
    simp [setBlk, Nat.add_assoc]

theorem layC_get : ∀ (vs : List Value) (L : List Value) (off j : Nat), off + vs.length ≤ L.length → (layC L off vs)[j]? = if off ≤ j ∧ j < off + vs.length then vs[j - off]? else L[j]?
  | [], L, off, j, _ => by
    simp only [layC, List.length_nil, Nat.add_zero]
    rw [if_neg (by omega)]
  | v :: vs, L, off, j, h => by
    simp only [List.length_cons] at h
    simp only [layC]
    rw [layC_get vs (L.set off v) (off + 1) j (by simp; omega)]
    by_cases h1 : off + 1 ≤ j ∧ j < off + 1 + vs.length
    · rw [if_pos h1, if_pos ⟨by omega, by simp; omega⟩]
      rw [show j - off = (j - (off + 1)) + 1 by omega]; simp
    · rw [if_neg h1]
      by_cases h2 : j = off
      · subst h2
        rw [if_pos ⟨Nat.le_refl _, by simp⟩, Nat.sub_self, List.getElem?_cons_zero, List.getElem?_set_self (by omega)]
      · rw [if_neg (by simp; omega), List.getElem?_set_ne (by omega)]

/-- cells behind a store into them -/
theorem CellsAt.lay {w : World} {b base k : Nat} {L cvs vs : List Value} {t : TypeId} (h : w.heap[b]? = some (.cells ⟨L⟩ t (0, 0))) (hc : CellsAt w b base cvs) (hl : base + k + vs.length ≤ L.length) (hk : k + vs.length ≤ cvs.length) :
    CellsAt (setBlk w b (layC L (base + k) vs) t) b base (layC cvs k vs) := fun j c hj => by
  rw [layC_get vs cvs k j hk] at hj
  simp only [World.cell?, setBlk_at h, Option.isSome_none, Bool.false_eq_true, if_false]
  have e : (⟨layC L (base + k) vs⟩ : Array Value)[base + j]? = (layC L (base + k) vs)[base + j]? := by simp
  rw [e, layC_get vs L (base + k) (base + j) hl]
  by_cases h1 : k ≤ j ∧ j < k + vs.length
  · rw [if_pos h1] at hj
    rw [if_pos ⟨by omega, by omega⟩, ← hj]; congr 1; omega
  · rw [if_neg h1] at hj
    rw [if_neg (by omega)]
    have := hc j c hj
    simpa [World.cell?, h] using this
end
end Go.Vc

namespace Go.Vc
open Go.RowKit
section
variable {P : Program} {e : Env} {σ : St} {x : Cx} {a : Act} {o : Oper}

theorem frClip_none : ∀ l : List (Nat × AV), frClip (fun _ => false) l = l
  | [] => rfl
  | (k, v) :: r => by simp only [frClip, clip_none, frClip_none r]
theorem rowClip_none (r : Row) : r.clip (fun _ => false) = r := by
  cases r <;> simp only [Row.clip, clips_none, Bool.false_eq_true, if_false]
theorem stClip_none : ∀ l : List (Nat × Row), stClip (fun _ => false) l = l
  | [] => rfl
  | (k, v) :: r => by simp only [stClip, rowClip_none, stClip_none r]

/-- A ROW IS LAID ANEW WHERE IT LIES: its own block alone has turned. -/
theorem SRel.write (h : SRel e σ x a) {r : Nat} {row row' : Row} (hm : (r, row) ∈ σ.st) (hok : (x.ρ r).ok = true) {w' : World} (hsize : w'.heap.size = x.w.heap.size) (hos : w'.os = x.w.os) (htape : w'.tape = x.w.tape)
    (hout : w'.output = x.w.output) (hdr : x.w.drawn ≤ w'.drawn) (hfar : ∀ b, b ≠ (x.ρ r).blk → w'.heap[b]? = x.w.heap[b]?) (hrow : row'.rel ⟨w', x.F, x.ρ⟩ (x.ρ r)) : SRel e ⟨σ.fr, (r, row') :: stDel σ.st r⟩ ⟨w', x.F, x.ρ⟩ a := by
  have := SRel.turn (y := ⟨w', x.F, x.ρ⟩) h r row' (fun _ => false) (Nat.le_of_eq hsize.symm) hos htape hout hdr (fun b _ hb => hfar b (hb row hm hok)) (fun _ _ => rfl) (fun _ h => by cases h) (fun _ _ => rfl)
    (fun _ => .inr ⟨⟨row, hm⟩, hok, rfl⟩) (fun b => ?_) hrow (.inr rfl)
  · simpa only [frClip_none, stClip_none] using this
  · rw [h.F b, stClip_none]
    constructor
    · rintro (h0 | ⟨q, rw', h1, h2, h3⟩)
      · exact .inl h0
      · by_cases hq : q = r
        · subst hq; exact .inr ⟨q, row', by simp, h2, h3⟩
        · refine .inr ⟨q, rw', List.mem_cons_of_mem _ ?_, h2, h3⟩
          have : ∀ {l : List (Nat × Row)}, (q, rw') ∈ l → (q, rw') ∈ stDel l r := by
            intro l
            induction l with
            | nil => intro h; cases h
            | cons u l ih =>
              intro hm
              obtain ⟨k, v⟩ := u
              simp only [stDel]
              rcases List.mem_cons.1 hm with hm | hm
              · injection hm with h4 h5; subst h4; subst h5; rw [if_neg hq]; simp
              · by_cases hk : k = r
                · rw [if_pos hk]; exact ih hm
                · rw [if_neg hk]; exact List.mem_cons_of_mem _ (ih hm)
          exact this h1
    · rintro (h0 | ⟨q, rw', h1, h2, h3⟩)
      · exact .inl h0
      · rcases List.mem_cons.1 h1 with h1 | h1
        · injection h1 with h4 _; subst h4; exact .inr ⟨q, row, hm, h2, h3⟩
        · exact .inr ⟨q, rw', (stDel_mem h1).1, h2, h3⟩

theorem write_kept (h : SRel e σ x a) {r : Nat} {row : Row} (hm : (r, row) ∈ σ.st) (hok : (x.ρ r).ok = true) {w' : World} (hsize : w'.heap.size = x.w.heap.size) (hfar : ∀ b, b ≠ (x.ρ r).blk → w'.heap[b]? = x.w.heap[b]?) :
    Kept x ⟨w', x.F, x.ρ⟩ := ⟨Nat.le_of_eq hsize.symm, fun b hb _ => hfar b fun hbe => hb ((h.F b).2 (.inr ⟨r, row, hm, hok, hbe.symm⟩)), fun _ _ h => h⟩

def AV.allOne : List AV → Bool
  | [] => true
  | v :: vs => v.one && AV.allOne vs
theorem allOne_rel : ∀ {vs : List AV} {cvs : List Value}, VRels x vs cvs → AV.allOne vs = true → ∀ c ∈ cvs, c.oneCell' = true
  | [], _, h, _, c, hc => by simp only [VRels] at h; subst h; cases hc
  | v :: vs, _, h, ho, c, hc => by
    simp only [VRels] at h
    obtain ⟨u, r, rfl, h1, h2⟩ := h
    simp only [AV.allOne, Bool.and_eq_true] at ho
    rcases List.mem_cons.1 hc with rfl | hc
    · exact AV.one_rel h1 ho.1
    · exact allOne_rel h2 ho.2 c hc

theorem run_storeAt {w : World} {t : TypeId} {i : TypeInfo} (hi : P.info? t = some i) {b off : Nat} {v : Value} (hn : v.cells.size = i.size) {L : List Value} {et : TypeId} (h : w.heap[b]? = some (.cells ⟨L⟩ et (0, 0)))
    (hl : off + i.size ≤ L.length) (h1 : ∀ c ∈ v.cells.toList, c.oneCell' = true) : (Instr.storeAt t (.pointer (some ⟨b, off, none⟩)) v).run P w = .ok () (setBlk w b (layC L off v.cells.toList) et) := by
  have := run_storeCells (P := P) v.cells.toList w L off 0 h (by simp [hn]; omega) h1
  simp only [Nat.add_zero] at this
  simp [Instr.storeAt, Instr.sureAddr, storeVar, sizeOf, typeInfo, hi, hn, this]

theorem l_st_box (h : SRel e σ x a) (hdst : o.dst = none) {t : TypeId} {yp yv : Operand} (ho : o.op = .store t yp yv) {i : TypeInfo} (hi : P.info? t = some i) {r off : Nat} {v : AV} (hp : VRel x (.ptr r off) (a.eval yp)) (hv : VRel x v (a.eval yv))
    {cs : List AV} (hr : stGet σ.st r = some (.box cs)) (hok : okc v = true) (hn : v.cells.length = i.size) (hone : AV.allOne v.cells = true) (hl : off + i.size ≤ cs.length) {K : St → Prop}
    (hK : K ⟨σ.fr, (r, .box (lay cs off v.cells)) :: stDel σ.st r⟩) : ∀ Q, o.wp P a x.w (fun a' w' => ∃ σ' y, SRel e σ' y a' ∧ y.w = w' ∧ K σ') Q := by
  intro Q
  have hm := stGet_mem hr
  have hrow := h.st r _ hm
  simp only [Row.rel] at hrow
  obtain ⟨hlok, ⟨arr, et, hh, harr⟩, hcells⟩ := hrow
  simp only [VRel] at hp
  have hcr := cells_rel hv hok
  have hcn : (a.eval yv).cells.size = i.size := by have := hcr.length; rw [hn] at this; simpa using this
  have hone' := allOne_rel hcr hone
  obtain ⟨L⟩ := arr
  have hrun := run_storeAt (P := P) (w := x.w) hi hcn hh (off := (x.ρ r).base + off) (by simp at harr; omega) hone'
  unfold Oper.wp
  simp only [execOp, ho, hp]
  simp only [Sem.run_bind, hrun, Result.andThen_ok, Sem.run_pure, Oper.upon, hdst, Act.put]
  have hsz := setBlk_size x.w (x.ρ r).blk (layC L ((x.ρ r).base + off) (a.eval yv).cells.toList) et
  have hfar : ∀ b, b ≠ (x.ρ r).blk → (setBlk x.w (x.ρ r).blk (layC L ((x.ρ r).base + off) (a.eval yv).cells.toList) et).heap[b]? = x.w.heap[b]? := fun b hb => setBlk_far hb
  have kept := write_kept h hm hlok hsz hfar
  refine ⟨_, _, h.write hm hlok hsz rfl rfl rfl (Nat.le_refl _) hfar ?_, rfl, hK⟩
  simp only [Row.rel]
  obtain ⟨cvs, hc1, hc2⟩ := hcells.list
  refine ⟨hlok, ⟨_, et, setBlk_at hh, by simp [layC_length, lay_length]; simpa using harr⟩, ACells.of (lay_rel (hcr.kept kept rfl) (hc1.kept kept rfl)) ?_⟩
  have hcl := hc1.length
  refine CellsAt.lay hh hc2 ?_ ?_
  · simp at harr; simp [hcn]; omega
  · simp [hcn]; omega

theorem l_st_bxs (h : SRel e σ x a) (hdst : o.dst = none) {t : TypeId} {yp yv : Operand} (ho : o.op = .store t yp yv) {i : TypeInfo} (hi : P.info? t = some i) {r off : Nat} {v : AV} (hp : VRel x (.rptr r off 0) (a.eval yp)) (hv : VRel x v (a.eval yv))
    {cs : List AV} (hr : stGet σ.st r = some (.bxs cs)) (hok : okc v = true) (hn : v.cells.length = i.size) (hn1 : i.size = 1) (hone : AV.allOne v.cells = true) (hl : off < cs.length) {K : St → Prop}
    (hK : K ⟨σ.fr, (r, .bxs (lay cs off v.cells)) :: stDel σ.st r⟩) : ∀ Q, o.wp P a x.w (fun a' w' => ∃ σ' y, SRel e σ' y a' ∧ y.w = w' ∧ K σ') Q := by
  intro Q
  have hm := stGet_mem hr
  have hrow := h.st r _ hm
  simp only [Row.rel] at hrow
  obtain ⟨hlok, ⟨hs, hln, hcap⟩, ⟨arr, et, hh, harr⟩, hcells⟩ := hrow
  simp only [VRel, hs, Nat.mul_one, Nat.add_zero] at hp
  have hcr := cells_rel hv hok
  have hcn : (a.eval yv).cells.size = i.size := by have := hcr.length; rw [hn] at this; simpa using this
  have hone' := allOne_rel hcr hone
  obtain ⟨L⟩ := arr
  have hrun := run_storeAt (P := P) (w := x.w) hi hcn hh (off := (x.ρ r).base + off) (by simp at harr; omega) hone'
  unfold Oper.wp
  simp only [execOp, ho, hp]
  simp only [Sem.run_bind, hrun, Result.andThen_ok, Sem.run_pure, Oper.upon, hdst, Act.put]
  have hsz := setBlk_size x.w (x.ρ r).blk (layC L ((x.ρ r).base + off) (a.eval yv).cells.toList) et
  have hfar : ∀ b, b ≠ (x.ρ r).blk → (setBlk x.w (x.ρ r).blk (layC L ((x.ρ r).base + off) (a.eval yv).cells.toList) et).heap[b]? = x.w.heap[b]? := fun b hb => setBlk_far hb
  have kept := write_kept h hm hlok hsz hfar
  refine ⟨_, _, h.write hm hlok hsz rfl rfl rfl (Nat.le_refl _) hfar ?_, rfl, hK⟩
  simp only [Row.rel]
  obtain ⟨cvs, hc1, hc2⟩ := hcells.list
  refine ⟨hlok, ⟨hs, by rw [lay_length]; exact hln, by rw [lay_length]; exact hcap⟩, ⟨_, et, setBlk_at hh, by simp [layC_length, lay_length]; simpa using harr⟩, ACells.of (lay_rel (hcr.kept kept rfl) (hc1.kept kept rfl)) ?_⟩
  have hcl := hc1.length
  refine CellsAt.lay hh hc2 ?_ ?_
  · simp at harr; simp [hcn]; omega
  · simp [hcn]; omega

/-! ### the cells of a list of elements, one behind the other -/
def flat : List PV → List PV
  | [] => []
  | p :: ps => p.cells ++ flat ps
theorem PElems.cons_iff {w : World} {F : Nat → Prop} {p : PV} {ps : List PV} {b o' : Nat} : PElems w F (p :: ps) b o' ↔ PCells w F p.cells b o' ∧ PElems w F ps b (o' + p.cells.length) := by
  cases p <;> simp [PElems, PV.cells, PCells]
theorem PCells.append_iff {w : World} {F : Nat → Prop} : ∀ {u v : List PV} {b o' : Nat}, PCells w F (u ++ v) b o' ↔ PCells w F u b o' ∧ PCells w F v b (o' + u.length)
  | [], v, b, o' => by simp [PCells]
  | c :: u, v, b, o' => by
    simp only [List.cons_append, PCells, PCells.append_iff (u := u), List.length_cons, and_assoc]
    rw [show o' + 1 + u.length = o' + (u.length + 1) by omega]
theorem PElems.flat_iff {w : World} {F : Nat → Prop} : ∀ {ps : List PV} {b o' : Nat}, PElems w F ps b o' ↔ PCells w F (flat ps) b o'
  | [], b, o' => by simp [PElems, flat, PCells]
  | p :: ps, b, o' => by rw [PElems.cons_iff, flat, PCells.append_iff, PElems.flat_iff]
theorem PCells.list {w : World} {F : Nat → Prop} {cs : List PV} {b o' : Nat} (h : PCells w F cs b o') : ∃ vs, PRels w F cs vs ∧ CellsAt w b o' vs := by
  obtain ⟨vs, _, h2, h3⟩ := h.cut 0 cs.length (by omega)
  exact ⟨vs, by simpa using h2, by simpa using h3⟩
theorem flat_length {s : Nat} : ∀ {ps : List PV}, WfL s ps → (flat ps).length = ps.length * s
  | [], _ => by simp [flat]
  | p :: ps, h => by
    simp only [flat, List.length_append, (h p (by simp)).1, flat_length (fun q hq => h q (List.mem_cons_of_mem _ hq)), List.length_cons, Nat.succ_mul]; omega

def layP (cs : List PV) (off : Nat) : List PV → List PV
  | [] => cs
  | v :: vs => layP (cs.set off v) (off + 1) vs
theorem PRels.set {w : World} {F : Nat → Prop} : ∀ {vs : List PV} {cs : List Value} {i : Nat} {v : PV} {c : Value}, PRels w F vs cs → PRel w F v c → PRels w F (vs.set i v) (cs.set i c)
  | [], _, _, _, _, h, _ => by simp only [PRels] at h; subst h; simp [PRels]
  | u :: vs, _, 0, v, c, h, hv => by
    simp only [PRels] at h
    obtain ⟨v', r, rfl, h1, h2⟩ := h
    simp only [List.set_cons_zero, PRels]
    exact ⟨c, r, rfl, hv, h2⟩
  | u :: vs, _, i + 1, v, c, h, hv => by
    simp only [PRels] at h
    obtain ⟨v', r, rfl, h1, h2⟩ := h
    simp only [List.set_cons_succ, PRels]
    exact ⟨v', r.set i c, rfl, h1, h2.set hv⟩
theorem layP_rel {w : World} {F : Nat → Prop} : ∀ {vs : List PV} {vvs : List Value} {cs : List PV} {cvs : List Value} {off : Nat}, PRels w F vs vvs → PRels w F cs cvs → PRels w F (layP cs off vs) (layC cvs off vvs)
  | [], _, _, _, _, h, hc => by simp only [PRels] at h; subst h; exact hc
  | v :: vs, _, cs, cvs, off, h, hc => by
    simp only [PRels] at h
    obtain ⟨c, r, rfl, h1, h2⟩ := h
    simp only [layP, layC]
    exact layP_rel h2 (hc.set h1)
theorem layP_length : ∀ (vs : List PV) (cs : List PV) (off : Nat), (layP cs off vs).length = cs.length
  | [], _, _ => rfl
  | v :: vs, cs, off => by simp only [layP, layP_length vs]; simp
theorem layP_one : ∀ (vs : List PV) (cs : List PV) (off : Nat), (∀ c ∈ cs, c.one = true) → (∀ c ∈ vs, c.one = true) → ∀ c ∈ layP cs off vs, c.one = true
  | [], _, _, h, _ => h
  | v :: vs, cs, off, h, h' => layP_one vs _ _ (fun c hc => by
      rcases List.mem_or_eq_of_mem_set hc with h1 | h1
      · exact h c h1
      · subst h1; exact h' c (by simp)) (fun c hc => h' c (List.mem_cons_of_mem _ hc))
theorem layP_append : ∀ (vs u v : List PV) (off : Nat), u.length ≤ off → layP (u ++ v) off vs = u ++ layP v (off - u.length) vs
  | [], _, _, _, _ => rfl
  | c :: vs, u, v, off, h => by
    simp only [layP]
    rw [List.set_append_right _ _ h, layP_append vs u _ (off + 1) (by omega)]
    rw [show off + 1 - u.length = off - u.length + 1 by omega]
theorem layP_append_left : ∀ (vs u v : List PV) (off : Nat), off + vs.length ≤ u.length → layP (u ++ v) off vs = layP u off vs ++ v
  | [], _, _, _, _ => rfl
  | c :: vs, u, v, off, h => by
    simp only [List.length_cons] at h
    simp only [layP]
    rw [List.set_append_left _ _ (by omega), layP_append_left vs _ v (off + 1) (by simp; omega)]

/-- an element with some of its cells laid anew -/
def setElem (p : PV) (off : Nat) (ps : List PV) : PV := match p with
  | .agg cs => .agg (layP cs off ps)
  | q => ps.getD 0 q
theorem setElem_cells {p : PV} {off : Nat} {ps : List PV} (h : off + ps.length ≤ p.cells.length) (hp : 0 < ps.length) (h1 : ∀ c ∈ ps, c.one = true) : (setElem p off ps).cells = layP p.cells off ps := by
  cases p with
  | agg cs => rfl
  | _ =>
    simp only [PV.cells, List.length_cons, List.length_nil] at h
    match ps, hp, h with
    | [q], _, h =>
      simp only [List.length_cons, List.length_nil] at h
      obtain rfl : off = 0 := by omega
      have hq := h1 q (by simp)
      simp only [setElem, List.getD_cons_zero, layP, PV.cells, List.set_cons_zero]
      cases q <;> simp [PV.one] at hq <;> rfl

theorem flat_set {s off : Nat} {ps : List PV} : ∀ {xs : List PV} {i : Nat}, WfL s xs → i < xs.length → off + ps.length ≤ s → 0 < ps.length → (∀ c ∈ ps, c.one = true) →
    flat (xs.set i (setElem (xs.getD i default) off ps)) = layP (flat xs) (i * s + off) ps
  | [], i, _, hi, _, _, _ => by simp at hi
  | p :: xs, 0, hw, _, hl, hp, h1 => by
    have h0 := (hw p (by simp)).1
    simp only [List.getD_cons_zero, List.set_cons_zero, flat, Nat.zero_mul, Nat.zero_add]
    rw [setElem_cells (by rw [h0]; exact hl) hp h1, layP_append_left _ _ _ _ (by rw [h0]; exact hl)]
  | p :: xs, i + 1, hw, hi, hl, hp, h1 => by
    have h0 := (hw p (by simp)).1
    simp only [List.getD_cons_succ, List.set_cons_succ, flat]
    rw [flat_set (s := s) (fun q hq => hw q (List.mem_cons_of_mem _ hq)) (by simpa using hi) hl hp h1, layP_append _ _ _ _ (by rw [h0, Nat.succ_mul]; omega)]
    rw [show (i + 1) * s + off - p.cells.length = i * s + off by rw [h0, Nat.succ_mul]; omega]
theorem wfl_set {s off : Nat} {ps : List PV} {xs : List PV} {i : Nat} (hw : WfL s xs) (hi : i < xs.length) (hl : off + ps.length ≤ s) (hp : 0 < ps.length) (h1 : ∀ c ∈ ps, c.one = true) :
    WfL s (xs.set i (setElem (xs.getD i default) off ps)) := fun q hq => by
  rcases List.mem_or_eq_of_mem_set hq with h | h
  · exact hw q h
  · have hm : xs.getD i default ∈ xs := by simp [List.getD_eq_getElem?_getD, hi]
    have h0 := hw _ hm
    subst h
    have e := setElem_cells (p := xs.getD i default) (off := off) (ps := ps) (by rw [h0.1]; exact hl) hp h1
    rw [e]
    exact ⟨by rw [layP_length]; exact h0.1, layP_one _ _ _ h0.2 h1⟩

theorem l_st_sl (h : SRel e σ x a) (hdst : o.dst = none) {t : TypeId} {yp yv : Operand} (ho : o.op = .store t yp yv) {i : TypeInfo} (hi : P.info? t = some i) {r k off : Nat} {v : AV} (hp : VRel x (.rptr r k off) (a.eval yp)) (hv : VRel x v (a.eval yv))
    {s : Nat} {xs : List PV} (hr : stGet σ.st r = some (.sl s xs)) (hok : okc v = true) (hn : v.cells.length = i.size) (hpos : 0 < i.size) {ps : List PV} (hps : allPv v.cells = some ps) (hone : ∀ c ∈ ps, c.one = true) (hk : k < xs.length)
    (hl : off + i.size ≤ s) {K : St → Prop}
    (hK : K ⟨σ.fr, (r, .sl s (xs.set k (setElem (xs.getD k default) off ps))) :: stDel σ.st r⟩) : ∀ Q, o.wp P a x.w (fun a' w' => ∃ σ' y, SRel e σ' y a' ∧ y.w = w' ∧ K σ') Q := by
  intro Q
  have hm := stGet_mem hr
  have hrow := h.st r _ hm
  simp only [Row.rel] at hrow
  rcases hrow with ⟨_, hx⟩ | ⟨hls, hlok, ⟨hln, hcap⟩, hwf, ⟨arr, et, hh, harr, hao⟩, hcells⟩
  · subst hx; simp at hk
  simp only [VRel] at hp
  have hcr := cells_rel hv hok
  have hpr := allPv_rel hps hcr
  have hcn : (a.eval yv).cells.size = i.size := by have := hcr.length; rw [hn] at this; simpa using this
  have hpl : ps.length = i.size := by have := hpr.length; simp only [Array.length_toList] at this; omega
  have hone' : ∀ c ∈ (a.eval yv).cells.toList, c.oneCell' = true := by
    have : ∀ {ps : List PV} {vs : List Value}, PRels x.w x.F ps vs → (∀ c ∈ ps, c.one = true) → ∀ c ∈ vs, c.oneCell' = true := by
      intro ps
      induction ps with
      | nil => intro vs h _ c hc; simp only [PRels] at h; subst h; cases hc
      | cons p ps ih =>
        intro vs h h1 c hc
        simp only [PRels] at h
        obtain ⟨u, r, rfl, h2, h3⟩ := h
        rcases List.mem_cons.1 hc with rfl | hc
        · exact PV.one_rel h2 (h1 p (by simp))
        · exact ih h3 (fun q hq => h1 q (List.mem_cons_of_mem _ hq)) c hc
    exact this hpr hone
  obtain ⟨L⟩ := arr
  have hks : (k + 1) * s ≤ xs.length * s := Nat.mul_le_mul_right _ hk
  have hcs : xs.length * s ≤ (x.ρ r).cap * s := Nat.mul_le_mul_right _ hcap
  rw [Nat.succ_mul] at hks
  rw [hls] at harr hp
  have harr' : (x.ρ r).base + (x.ρ r).cap * s ≤ L.length := by simpa using harr
  have hrun := run_storeAt (P := P) (w := x.w) hi hcn hh (off := (x.ρ r).base + k * s + off) (by omega) hone'
  unfold Oper.wp
  simp only [execOp, ho, hp]
  simp only [Sem.run_bind, hrun, Result.andThen_ok, Sem.run_pure, Oper.upon, hdst, Act.put]
  have hsz := setBlk_size x.w (x.ρ r).blk (layC L ((x.ρ r).base + k * s + off) (a.eval yv).cells.toList) et
  have hfar : ∀ b, b ≠ (x.ρ r).blk → (setBlk x.w (x.ρ r).blk (layC L ((x.ρ r).base + k * s + off) (a.eval yv).cells.toList) et).heap[b]? = x.w.heap[b]? := fun b hb => setBlk_far hb
  have kept := write_kept h hm hlok hsz hfar
  refine ⟨_, _, h.write hm hlok hsz rfl rfl rfl (Nat.le_refl _) hfar ?_, rfl, hK⟩
  simp only [Row.rel]
  refine .inr ⟨hls, hlok, ⟨by simpa using hln, by simpa using hcap⟩, wfl_set hwf hk (by omega) (by omega) hone, ⟨_, et, setBlk_at hh, by rw [hls]; simp [layC_length]; simpa using harr, layC_ones _ _ _ hao hone'⟩, ?_⟩
  rw [PElems.flat_iff, flat_set hwf hk (by omega) (by omega) hone]
  rw [PElems.flat_iff] at hcells
  obtain ⟨cvs, hc1, hc2⟩ := hcells.list
  have hcl := hc1.length
  rw [flat_length hwf] at hcl
  have e1 : (x.ρ r).base + k * s + off = (x.ρ r).base + (k * s + off) := by omega
  rw [e1]
  have k1 : PRels (setBlk x.w (x.ρ r).blk (layC L ((x.ρ r).base + (k * s + off)) (a.eval yv).cells.toList) et) x.F ps (a.eval yv).cells.toList := by rw [← e1]; exact PRels.kept kept ps hpr
  have k2 : PRels (setBlk x.w (x.ρ r).blk (layC L ((x.ρ r).base + (k * s + off)) (a.eval yv).cells.toList) et) x.F (flat xs) cvs := by rw [← e1]; exact PRels.kept kept _ hc1
  refine PCells.of (layP_rel k1 k2) (CellsAt.lay hh hc2 ?_ ?_)
  · simp [hcn]; omega
  · simp [hcn]; omega
end
end Go.Vc
