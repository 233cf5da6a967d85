/- A part of the proofs of the seat Ytjlmnegbgmpekaa: the layer that turns the code of a function into what is to be shown (verification conditions), proved sound. -/
import Derived.Test.YtjlmnegbgmpekaaVa
import Derived.ChangeKeysEq
import Derived.Laws.IdiomRangeMap
import Derived.Maps.RangeRun
namespace Go.Vc
open Go.RowKit
set_option linter.constructorNameAsVariable false
set_option linter.unusedSimpArgs false

/-! ## Maps -/
section
variable {P : Program} {x : Cx} {o : Oper} {ev : Operand → Value}

/-- what keys a type has -/
def kkIs (P : Program) (kt : TypeId) : Kk → Prop
  | .int => ∃ k, P.underlying kt = some (.int k)
  | .str => P.underlying kt = some .string
  | .st ks => (∃ fs, P.underlying kt = some (.struct fs) ∧ fieldKinds P 0 fs.toList = some ks ∧ P.stoodInHeld kt = false) ∨
      (∃ n e k i, P.underlying kt = some (.array n e) ∧ P.underlying e = some (.int k) ∧ P.info? e = some i ∧ i.size = 1 ∧ ks = List.replicate n 0)


/-- two keys that are the same have the same cells -/
theorem same_cells {w : World} {F : Nat → Prop} : ∀ {ks : List Nat} {ps qs : List PV} {us vs : List Value}, sameP ks ps qs → sameV ps qs = true → PRels w F ps us → PRels w F qs vs → us = vs ∧ ∀ n, ∀ u ∈ us, Instr.sameBits n u u = true
  | [], ps, qs, us, vs, h, _, h1, h2 => by
    obtain ⟨rfl, rfl⟩ := sameP_nil h
    simp only [PRels] at h1 h2
    subst h1; subst h2
    exact ⟨rfl, fun n u hu => by cases hu⟩
  | n :: ks, ps, qs, us, vs, h, hv, h1, h2 => by
    have fin : ∀ {v v' : Value} {p q : PV} {ps' qs' : List PV}, p = .sc v → q = .sc v' → v = v' → (∀ n, Instr.sameBits n v v = true) → ps = p :: ps' → qs = q :: qs' → sameP ks ps' qs' → sameV ps' qs' = true →
        us = vs ∧ ∀ n, ∀ u ∈ us, Instr.sameBits n u u = true := by
      intro v v' p q ps' qs' hp hq hvv hsb hps hqs hs hv'
      subst hp; subst hq; subst hvv; subst hps; subst hqs
      simp only [PRels, PRel] at h1 h2
      obtain ⟨u, ur, rfl, rfl, h1⟩ := h1
      obtain ⟨u', ur', rfl, rfl, h2⟩ := h2
      obtain ⟨i1, i2⟩ := same_cells hs hv' h1 h2
      subst i1
      refine ⟨rfl, fun n y hy => ?_⟩
      rcases List.mem_cons.1 hy with rfl | hy
      · exact hsb n
      · exact i2 n y hy
    match n, h with
    | 0, h =>
      obtain ⟨k, a, ps', b, qs', rfl, rfl, h'⟩ := sameP_0 h
      simp only [sameV, Bool.and_eq_true, decide_eq_true_eq] at hv
      exact fin rfl rfl (by rw [hv.1]) (fun n => by simp [Instr.sameBits, beq_toListBytes]) rfl rfl h' hv.2
    | 1, h =>
      obtain ⟨a, ps', b, qs', rfl, rfl, h'⟩ := sameP_1 h
      simp only [sameV, Bool.and_eq_true, decide_eq_true_eq] at hv
      exact fin rfl rfl (by rw [hv.1]) (fun n => by simp [Instr.sameBits, beq_toListBytes]) rfl rfl h' hv.2
    | 2, h =>
      obtain ⟨a, ps', b, qs', rfl, rfl, h'⟩ := sameP_2 h
      simp only [sameV, Bool.and_eq_true, decide_eq_true_eq] at hv
      exact fin rfl rfl (by rw [hv.1]) (fun n => by simp [Instr.sameBits, beq_toListBytes]) rfl rfl h' hv.2
    | n + 3, h => unfold sameP at h; split at h <;> simp_all

theorem sameBits_key {kk : Kk} {k q : PV} (h : keyEq k q = true) (hl : keyLike kk k q) {w : World} {F : Nat → Prop} {kv qv : Value} (r1 : PRel w F k kv) (r2 : PRel w F q qv) : Instr.sameBits 10000 qv kv = true := by
  unfold keyLike at hl
  split at hl
  · rename_i j a j' b
    subst hl
    simp only [PRel] at r1 r2
    subst r1; subst r2
    have : a = b := by simpa [keyEq] using h
    subst this
    simp [Instr.sameBits]
  · rename_i a b
    simp only [PRel] at r1 r2
    subst r1; subst r2
    have : a = b := by simpa [keyEq] using h
    subst this
    simp [Instr.sameBits, beq_toListBytes]
  · rename_i ks ps qs
    simp only [PRel] at r1 r2
    obtain ⟨us, rfl, h1⟩ := r1
    obtain ⟨vs, rfl, h2⟩ := r2
    have hv : sameV ps qs = true := by simpa [keyEq] using h
    obtain ⟨rfl, hb⟩ := same_cells hl hv h1 h2
    show ((⟨us⟩ : Array Value).size == (⟨us⟩ : Array Value).size && (us.zip us).all fun (x, y) => Instr.sameBits 9999 x y) = true
    simp only [beq_self_eq_true, Bool.true_and, List.all_eq_true]
    intro ⟨a, b⟩ hab
    have : a = b := by
      clear hb hl h h1 h2 hv
      induction us with
      | nil => cases hab
      | cons u us ih =>
        rw [List.zip_cons_cons] at hab
        rcases List.mem_cons.1 hab with hab | hab
        · injection hab with e1 e2; rw [e1, e2]
        · exact ih hab
    subst this
    exact hb 9999 a (List.of_mem_zip hab).1
  · exact hl.elim

/-- a key's parts -/
theorem run_checkFields {w : World} {W : World} {F : Nat → Prop} (em : Bool) (n : Nat) : ∀ (fs : List Field) (i : Nat) (ks : List Nat) (ps : List PV) (us us0 : List Value), fieldKinds P i fs = some ks → sameP ks ps ps → PRels W F ps us → us0.length = i →
    (do for f in fs do
          if f.name ≠ "_" then Instr.checkKey em (n + 1) f.type (← part f.type ⟨us0 ++ us⟩ f.offset) : Sem Unit).run P w = .ok () w
  | [], i, ks, ps, us, us0, hk, hs, _, _ => by simp
  | f :: fs, i, ks, ps, us, us0, hk, hs, hu, hl => by
    simp only [fieldKinds] at hk
    split at hk
    · rename_i hf
      have step : ∀ {d : TypeDesc} {r : List Nat} {p : PV} {ps' : List PV}, P.underlying f.type = some d → aggOf P f.type = false → (match d with | .int _ => True | .string => True | .bool => True | _ => False) → fieldKinds P (i + 1) fs = some r →
          ps = p :: ps' → sameP r ps' ps' →
          (do for f in f :: fs do
                if f.name ≠ "_" then Instr.checkKey em (n + 1) f.type (← part f.type ⟨us0 ++ us⟩ f.offset) : Sem Unit).run P w = .ok () w := by
        intro d r p ps' hd ha hpl hr hps hsr
        subst hps
        simp only [PRels] at hu
        obtain ⟨u, ur, rfl, hu1, hu2⟩ := hu
        have ih := run_checkFields (w := w) em n fs (i + 1) r ps' ur (us0 ++ [u]) hr hsr hu2 (by simp [hl])
        have e1 : (part f.type ⟨us0 ++ u :: ur⟩ f.offset).run P w = .ok u w := run_part_one hd ha (by rw [hf.2, ← hl]; simp)
        have e2 : (Instr.checkKey em (n + 1) f.type u).run P w = .ok () w := by
          cases d <;> simp only at hpl <;> first | exact hpl.elim | (simp [Instr.checkKey, run_underlying hd])
        simp only [List.forIn_cons, Sem.run_bind, hf.1, ne_eq, not_false_eq_true, if_true, e1, e2, Result.andThen_ok, Sem.run_pure]
        simp only [List.append_assoc, List.cons_append, List.nil_append, Sem.run_bind] at ih
        exact ih
      split at hk
      · rename_i k r hd hr
        injection hk with hk; subst hk
        obtain ⟨ka, a, ps', b, qs', h2, h3, hs'⟩ := sameP_0 hs
        rw [h2] at h3
        injection h3 with _ h3; subst h3
        exact step hd (by simp [aggOf, hd]) trivial hr h2 hs'
      · rename_i r hd hr
        injection hk with hk; subst hk
        obtain ⟨a, ps', b, qs', h2, h3, hs'⟩ := sameP_1 hs
        rw [h2] at h3
        injection h3 with _ h3; subst h3
        exact step hd (by simp [aggOf, hd]) trivial hr h2 hs'
      · rename_i r hd hr
        injection hk with hk; subst hk
        obtain ⟨a, ps', b, qs', h2, h3, hs'⟩ := sameP_2 hs
        rw [h2] at h3
        injection h3 with _ h3; subst h3
        exact step hd (by simp [aggOf, hd]) trivial hr h2 hs'
      · cases hk
    · cases hk

theorem sameP_rep {n : Nat} : ∀ {ps qs : List PV}, sameP (List.replicate n 0) ps qs → ps.length = n ∧ qs.length = n := by
  induction n with
  | zero => intro ps qs h; obtain ⟨rfl, rfl⟩ := sameP_nil h; exact ⟨rfl, rfl⟩
  | succ n ih =>
    intro ps qs h
    rw [List.replicate_succ] at h
    obtain ⟨k, a, ps', b, qs', rfl, rfl, h'⟩ := sameP_0 h
    obtain ⟨i1, i2⟩ := ih h'
    exact ⟨by simp [i1], by simp [i2]⟩

theorem run_checkKeyK {kt : TypeId} {kk : Kk} (hkt : kkIs P kt kk) {k : PV} (hk : keyIs kk k) {W : World} {F : Nat → Prop} {kv : Value} (hr : PRel W F k kv) (em : Bool) (w : World) : (Instr.checkKey em 10000 kt kv).run P w = .ok () w := by
  unfold keyIs at hk
  split at hk
  · obtain ⟨j, hu⟩ := hkt
    show (Instr.checkKey em (9999 + 1) kt _).run P w = _
    rw [Instr.checkKey]
    simp only [Sem.run_bind, run_underlying hu, Result.andThen_ok, Sem.run_pure]
  · have hu : P.underlying kt = some .string := hkt
    show (Instr.checkKey em (9999 + 1) kt _).run P w = _
    rw [Instr.checkKey]
    simp only [Sem.run_bind, run_underlying hu, Result.andThen_ok, Sem.run_pure]
  · rename_i ks ps
    simp only [PRel] at hr
    obtain ⟨us, rfl, hr⟩ := hr
    rcases hkt with ⟨fs, hu, hf, _⟩ | ⟨n, e, j, i, hu, he, hi, hi1, rfl⟩
    · show (Instr.checkKey em (9998 + 1 + 1) kt _).run P w = _
      rw [Instr.checkKey]
      simp only [Sem.run_bind, run_underlying hu, Result.andThen_ok]
      rw [← Array.forIn_toList]
      have := run_checkFields (P := P) (w := w) em 9998 fs.toList 0 ks ps us [] hf hk hr rfl
      simp only [List.nil_append, Sem.run_bind] at this
      exact this
    · show (Instr.checkKey em (9998 + 1 + 1) kt _).run P w = _
      rw [Instr.checkKey]
      simp only [Sem.run_bind, run_underlying hu, Result.andThen_ok]
      simp only [Std.Legacy.Range.forIn_eq_forIn_range', Std.Legacy.Range.size, Nat.sub_zero, Nat.add_one_sub_one, Nat.div_one]
      have hl : us.length = n := by rw [PRels.length hr]; exact (sameP_rep hk).1
      have key : ∀ js : List Nat, (∀ j ∈ js, j < n) → (do for j in js do Instr.checkKey em (9998 + 1) e (← part e ⟨us⟩ (j * (← sizeOf e))) : Sem Unit).run P w = .ok () w := by
        intro js
        induction js with
        | nil => intro _; simp
        | cons j js ih =>
          intro hj
          have e1 : (part e ⟨us⟩ (j * i.size)).run P w = .ok (us.getD j undef) w := run_part_one he (by simp [aggOf, he]) (by
            rw [hi1, Nat.mul_one]
            have := hj j (by simp)
            simp [List.getD_eq_getElem?_getD, show j < us.length by omega])
          have e2 : (Instr.checkKey em (9998 + 1) e (us.getD j undef)).run P w = .ok () w := by
            rw [Instr.checkKey]
            simp only [Sem.run_bind, run_underlying he, Result.andThen_ok, Sem.run_pure]
          have e0 : (sizeOf e).run P w = .ok i.size w := by simp [sizeOf, typeInfo, hi]
          simp only [List.forIn_cons, Sem.run_bind, e0, e1, e2, Result.andThen_ok, Sem.run_pure]
          have := ih fun y hy => hj y (by simp [hy])
          simp only [Sem.run_bind] at this
          exact this
      have := key (List.range' 0 n) (fun j hj => by simp at hj; exact hj)
      simp only [Sem.run_bind] at this
      exact this
  · exact hk.elim

theorem run_eqItemsK {w W : World} {F : Nat → Prop} {e : TypeId} {j : IntKind} (he : P.underlying e = some (.int j)) (n : Nat) {ps qs : List PV} {us vs : List Value} (hs : sameP (List.replicate n 0) ps qs) (hu : PRels W F ps us) (hv : PRels W F qs vs)
    (d : Nat) : ∀ (m i : Nat), i + m = n → (Op.eqItems (d + 1) e 1 ⟨us⟩ ⟨vs⟩ (List.range' i m)).run P w = .ok (sameV (ps.drop i) (qs.drop i)) w := by
  have at_ : ∀ (n : Nat) (ps qs : List PV) (us vs : List Value), sameP (List.replicate n 0) ps qs → PRels W F ps us → PRels W F qs vs → ∀ i, i < n → ∃ k a b ps' qs', ps.drop i = .sc (.int k a) :: ps' ∧ qs.drop i = .sc (.int k b) :: qs' ∧ ps.drop (i + 1) = ps' ∧ qs.drop (i + 1) = qs' ∧ us[i]? = some (.int k a) ∧ vs[i]? = some (.int k b) := by
    intro n
    induction n with
    | zero => intro ps qs us vs _ _ _ i hi; omega
    | succ n ih =>
      intro ps qs us vs hs hu hv i hi
      rw [List.replicate_succ] at hs
      obtain ⟨k, a, ps', b, qs', rfl, rfl, hs'⟩ := sameP_0 hs
      simp only [PRels, PRel] at hu hv
      obtain ⟨u, ur, rfl, rfl, hu⟩ := hu
      obtain ⟨v, vr, rfl, rfl, hv⟩ := hv
      cases i with
      | zero => exact ⟨k, a, b, ps', qs', rfl, rfl, rfl, rfl, rfl, rfl⟩
      | succ i =>
        obtain ⟨k', a', b', p2, q2, h1, h2, h3, h4, h5, h6⟩ := ih ps' qs' ur vr hs' hu hv i (by omega)
        exact ⟨k', a', b', p2, q2, by simpa using h1, by simpa using h2, by simpa using h3, by simpa using h4, by simpa using h5, by simpa using h6⟩
  intro m
  induction m with
  | zero =>
    intro i hi
    have hl := sameP_rep hs
    rw [List.drop_eq_nil_of_le (by omega), List.drop_eq_nil_of_le (by omega)]
    simp [Op.eqItems, sameV]
  | succ m ih =>
    intro i hi
    obtain ⟨k, a, b, ps', qs', h1, h2, h3, h4, h5, h6⟩ := at_ n ps qs us vs hs hu hv i (by omega)
    have e1 : (part e ⟨us⟩ (i * 1)).run P w = .ok (.int k a) w := run_part_one he (by simp [aggOf, he]) (by simpa using h5)
    have e2 : (part e ⟨vs⟩ (i * 1)).run P w = .ok (.int k b) w := run_part_one he (by simp [aggOf, he]) (by simpa using h6)
    rw [List.range'_succ]
    simp only [Op.eqItems, Sem.run_bind, e1, e2, Result.andThen_ok, run_equalIn_int w d e k j a b he]
    have ih' := ih (i + 1) (by omega)
    rw [h1, h2]
    simp only [sameV]
    rw [h3, h4] at ih'
    by_cases hab : a = b
    · subst hab; simpa using ih'
    · simp [hab]

theorem run_equalK {kt : TypeId} {ks : List Nat} (hkt : kkIs P kt (.st ks)) {ps qs : List PV} (hs : sameP ks ps qs) {W : World} {F : Nat → Prop} {us vs : List Value} (hu : PRels W F ps us) (hv : PRels W F qs vs) (w : World) :
    (Op.equal kt (.agg ⟨us⟩) (.agg ⟨vs⟩)).run P w = .ok (sameV ps qs) w := by
  show (Op.equalIn (9999 + 1) kt _ _).run P w = _
  rcases hkt with ⟨fs, ht, hf, hsh⟩ | ⟨n, e, j, i, ht, he, hi, hi1, rfl⟩
  · have hff : P.underlying kt = some (.struct (P.fieldsOf kt)) := by simp [Program.fieldsOf, ht]
    rw [run_equalIn_struct w 9999 kt _ _ hff hsh]
    have hf' : P.fieldsOf kt = fs := by simp [Program.fieldsOf, ht]
    rw [hf']
    exact run_eqFields 9998 fs.toList 0 ks ps qs us vs [] [] hf hs hu hv rfl rfl
  · rw [run_equalIn_array w 9999 _ _ ht hi]
    have hc : P.cellsOf e = 1 := by simp [Program.cellsOf, hi, hi1]
    rw [hc, List.range_eq_range']
    have := run_eqItemsK (P := P) (w := w) he n hs hu hv 9998 n 0 (by omega)
    simpa using this

theorem q_seqA {neg : Bool} {t t' : TypeId} {y z : Operand} (ho : o.op = .binOp (if neg then .neq else .eql) t y z t') {n : Nat} {e : TypeId} {j : IntKind} {i : TypeInfo} (ht : P.underlying t = some (.array n e)) (he : P.underlying e = some (.int j))
    (hi : P.info? e = some i) (hi1 : i.size = 1) (h2 : P.eqGuardType P.depth t = false) {u v : AV} (hy : VRel x u (ev y)) (hz : VRel x v (ev z)) (hp : seqP (List.replicate n 0) u v) : QOK P x o ev (seqV neg u v) := by
  unfold seqP at hp
  split at hp
  · rename_i ps qs
    simp only [VRel, PRel] at hy hz
    obtain ⟨us, hy, hu⟩ := hy
    obtain ⟨vs, hz, hv⟩ := hz
    have he : ∀ w' : World, (Op.equalIn 10000 t (.agg ⟨us⟩) (.agg ⟨vs⟩)).run P w' = .ok (sameV ps qs) w' := fun w' => run_equalK (kt := t) (ks := List.replicate n 0) (.inr ⟨n, e, j, i, ht, he, hi, hi1, rfl⟩) hp hu hv w'
    cases neg
    · exact QOK.sc rfl fun w' => by
        simp only [execOp, ho, hy, hz, Bool.false_eq_true, if_false, Sem.run_bind, run_eqGuard_agg w' .eql t y z _ _ h2, run_eql_struct, he, Result.andThen_ok]
        simp
    · exact QOK.sc rfl fun w' => by
        simp only [execOp, ho, hy, hz, if_true, Sem.run_bind, run_eqGuard_agg w' .neq t y z _ _ h2, run_neq_struct, he, Result.andThen_ok]
        simp
  · exact hp.elim
/-- where a key is found -/
structure Found (x : Cx) (k : PV) (es : List (PV × PV)) (ents : List MapEntry) (res : Option (Nat × Value)) : Prop where
  no : res = none → lkp k es = none ∧ ∀ v, mput k v es = es ++ [(k, v)]
  yes : ∀ j v, res = some (j, v) → ∃ p q e, lkp k es = some p ∧ PRel x.w x.F p v ∧ es[j]? = some (q, p) ∧ ents[j]? = some e ∧ keyEq k q = true ∧ (∀ kk, keysLike kk k es → keyLike kk k q) ∧ ∀ u, mput k u es = es.set j (k, u)
  fst : ∀ j v, res = some (j, v) → ∀ i, i < j → ∀ q p, es[i]? = some (q, p) → keyEq k q = false
theorem Found.cons {k q p : PV} {es : List (PV × PV)} {e : MapEntry} {ents : List MapEntry} {res : Option (Nat × Value)} (hb : keyEq k q = false) (h : Found x k es ents res) :
    Found x k ((q, p) :: es) (e :: ents) (res.map fun r => (r.1 + 1, r.2)) where
  no := fun hr => by
    cases res with
    | none =>
      obtain ⟨h1, h2⟩ := h.no rfl
      exact ⟨by simp [lkp, hb, h1], fun v => by simp [mput, hb, h2]⟩
    | some r => cases hr
  yes := fun j v hr => by
    cases res with
    | none => cases hr
    | some r =>
      obtain ⟨j', v'⟩ := r
      simp only [Option.map_some, Option.some.injEq, Prod.mk.injEq] at hr
      obtain ⟨rfl, rfl⟩ := hr
      obtain ⟨p', q', e', f1, f2, f3, f4, f5, f6, f7⟩ := h.yes j' v' rfl
      exact ⟨p', q', e', by simp [lkp, hb, f1], f2, by simpa using f3, by simpa using f4, f5, fun kk hk => f6 kk (by simp only [keysLike] at hk; exact hk.2), fun u => by simp [mput, hb, f7]⟩
  fst := fun j v hr i hi q' p' hq => by
    cases res with
    | none => cases hr
    | some r =>
      obtain ⟨j', v'⟩ := r
      simp only [Option.map_some, Option.some.injEq, Prod.mk.injEq] at hr
      obtain ⟨rfl, rfl⟩ := hr
      cases i with
      | zero =>
        simp only [List.getElem?_cons_zero, Option.some.injEq, Prod.mk.injEq] at hq
        rw [← hq.1]; exact hb
      | succ i => exact h.fst j' v' rfl i (by omega) q' p' (by simpa using hq)
theorem Found.head {k q p : PV} {es : List (PV × PV)} {e : MapEntry} {ents : List MapEntry} (hb : keyEq k q = true) (h2 : PRel x.w x.F p e.val) : Found x k ((q, p) :: es) (e :: ents) (some (0, e.val)) where
  no := fun hr => by cases hr
  yes := fun j v hr => by
    simp only [Option.some.injEq, Prod.mk.injEq] at hr
    obtain ⟨rfl, rfl⟩ := hr
    exact ⟨p, q, e, by simp [lkp, hb], h2, rfl, rfl, hb, fun kk hk => by simp only [keysLike] at hk; exact hk.1, fun u => by simp [mput, hb]⟩
  fst := fun j v hr i hi => by
    simp only [Option.some.injEq, Prod.mk.injEq] at hr
    omega
theorem Found.none {k : PV} : Found x k [] [] none where
  no := fun _ => ⟨rfl, fun _ => rfl⟩
  yes := fun _ _ hr => by cases hr
  fst := fun _ _ hr => by cases hr

theorem findNow_shift (kd : TypeDesc) (kv : Value) : ∀ (ents : List MapEntry) (i : Nat), Instr.findNow kd kv ents i = (Instr.findNow kd kv ents 0).map fun o => o.map fun r => (r.1 + i, r.2)
  | [], i => by simp [Instr.findNow]
  | e :: ents, i => by
    simp only [Instr.findNow]
    cases Instr.sameNow kd kv e.key with
    | none => rfl
    | some b =>
      cases b
      · simp only
        rw [findNow_shift kd kv ents (i + 1), findNow_shift kd kv ents (0 + 1)]
        cases Instr.findNow kd kv ents 0 with
        | none => rfl
        | some o => cases o with
          | none => rfl
          | some r => simp; omega
      · simp

theorem findNow_key {kk : Kk} {kd : TypeDesc} {k : PV} {kv : Value} (hsame : ∀ q qv, keyLike kk k q → PRel x.w x.F q qv → Instr.sameNow kd kv qv = some (keyEq k q)) : ∀ (es : List (PV × PV)) (ents : List MapEntry), ents.length = es.length →
    (∀ (j : Nat) p e, es[j]? = some p → ents[j]? = some e → PRel x.w x.F p.1 e.key ∧ PRel x.w x.F p.2 e.val) → keysLike kk k es →
    ∃ res, Instr.findNow kd kv ents 0 = some res ∧ Found x k es ents res
  | [], ents, hl, _, _ => by
    have : ents = [] := List.eq_nil_of_length_eq_zero hl
    subst this
    exact ⟨none, rfl, Found.none⟩
  | (q, p) :: es, [], hl, _, _ => by simp at hl
  | (q, p) :: es, e :: ents, hl, hr, hks => by
    simp only [keysLike] at hks
    obtain ⟨g1, g2⟩ := hr 0 (q, p) e rfl rfl
    have hs := hsame q e.key hks.1 g1
    cases hb : keyEq k q with
    | true =>
      rw [hb] at hs
      exact ⟨some (0, e.val), by simp [Instr.findNow, hs], Found.head hb g2⟩
    | false =>
      rw [hb] at hs
      obtain ⟨res, f1, f2⟩ := findNow_key hsame es ents (by simpa using hl) (fun j p e hp he => hr (j + 1) p e (by simpa using hp) (by simpa using he)) hks.2
      refine ⟨res.map fun r => (r.1 + 1, r.2), ?_, Found.cons hb f2⟩
      simp only [Instr.findNow, hs, Nat.zero_add]
      rw [findNow_shift, f1]
      rfl

theorem findAsking_key {kt : TypeId} {ks : List Nat} (hkt : kkIs P kt (.st ks)) {ps : List PV} {us : List Value} (hu : PRels x.w x.F ps us) : ∀ (es : List (PV × PV)) (ents : List MapEntry), ents.length = es.length →
    (∀ (j : Nat) p e, es[j]? = some p → ents[j]? = some e → PRel x.w x.F p.1 e.key ∧ PRel x.w x.F p.2 e.val) → keysLike (.st ks) (.agg ps) es →
    ∃ res, (∀ (i : Nat) (w : World), (Instr.findAsking kt (.agg ⟨us⟩) ents i).run P w = .ok (res.map fun r => (r.1 + i, r.2)) w) ∧ Found x (.agg ps) es ents res
  | [], ents, hl, _, _ => by
    have : ents = [] := List.eq_nil_of_length_eq_zero hl
    subst this
    exact ⟨none, fun i w => by simp [Instr.findAsking], Found.none⟩
  | (q, p) :: es, [], hl, _, _ => by simp at hl
  | (q, p) :: es, e :: ents, hl, hr, hks => by
    simp only [keysLike] at hks
    obtain ⟨g1, g2⟩ := hr 0 (q, p) e rfl rfl
    obtain ⟨hk1, hk2⟩ := hks
    unfold keyLike at hk1
    split at hk1
    · rename_i heq _; cases heq
    · rename_i heq _; cases heq
    · rename_i ks' ps' qs h1 h2
      injection h1 with h1; subst h1
      injection h2 with h2; subst h2
      simp only [PRel] at g1
      obtain ⟨vs, hkey, g1⟩ := g1
      have he : ∀ w, (Op.equal kt (.agg ⟨us⟩) e.key).run P w = .ok (sameV ps qs) w := fun w => by rw [hkey]; exact run_equalK hkt hk1 hu g1 w
      have hke : keyEq (.agg ps) (.agg qs) = sameV ps qs := rfl
      cases hb : sameV ps qs with
      | true =>
        refine ⟨some (0, e.val), fun i w => ?_, Found.head (by rw [hke, hb]) g2⟩
        simp [Instr.findAsking, he, hb]
      | false =>
        obtain ⟨res, f1, f2⟩ := findAsking_key hkt hu es ents (by simpa using hl) (fun j p e hp he => hr (j + 1) p e (by simpa using hp) (by simpa using he)) hk2
        refine ⟨res.map fun r => (r.1 + 1, r.2), fun i w => ?_, Found.cons (by rw [hke, hb]) f2⟩
        simp only [Instr.findAsking, Sem.run_bind, he, hb, Result.andThen_ok, Bool.false_eq_true, if_false, f1]
        cases res with
        | none => rfl
        | some r => simp; omega
    · exact hk1.elim

theorem findKey_run {kt : TypeId} {kk : Kk} (hkt : kkIs P kt kk) {k : PV} (h1 : keyIs kk k) {kv : Value} (r1 : PRel x.w x.F k kv) (es : List (PV × PV)) (ents : List MapEntry) (hl : ents.length = es.length)
    (hr : ∀ (j : Nat) p e, es[j]? = some p → ents[j]? = some e → PRel x.w x.F p.1 e.key ∧ PRel x.w x.F p.2 e.val) (hks : keysLike kk k es) :
    ∃ res, (∀ w, (Instr.findKey kt kv ents).run P w = .ok res w) ∧ Found x k es ents res := by
  unfold keyIs at h1
  split at h1
  · rename_i j a
    obtain ⟨j', hu⟩ := hkt
    simp only [PRel] at r1
    subst r1
    obtain ⟨res, f1, f2⟩ := findNow_key (x := x) (kk := .int) (kd := .int j') (k := .sc (.int j a)) (kv := .int j a) (fun q qv hq hqv => by
      unfold keyLike at hq
      split at hq
      · rename_i j1 a1 j2 b1 _ h2
        injection h2 with h2; injection h2 with h3 h4
        subst hq; subst h3; subst h4
        simp only [PRel] at hqv
        subst hqv
        simp [Instr.sameNow, keyEq]; rfl
      · rename_i heq _; cases heq
      · rename_i heq _; cases heq
      · exact hq.elim) es ents hl hr hks
    exact ⟨res, fun w => by simp [Instr.findKey, run_underlying hu, f1], f2⟩
  · rename_i s
    have hu : P.underlying kt = some .string := hkt
    simp only [PRel] at r1
    subst r1
    obtain ⟨res, f1, f2⟩ := findNow_key (x := x) (kk := .str) (kd := .string) (k := .sc (.string s)) (kv := .string s) (fun q qv hq hqv => by
      unfold keyLike at hq
      split at hq
      · rename_i heq _; cases heq
      · rename_i a1 b1 _ h2
        injection h2 with h2; injection h2 with h2
        subst h2
        simp only [PRel] at hqv
        subst hqv
        simp only [Instr.sameNow, keyEq, beq_toListBytes]
        simp [toList_eq]
      · rename_i heq _; cases heq
      · exact hq.elim) es ents hl hr hks
    exact ⟨res, fun w => by simp [Instr.findKey, run_underlying hu, f1], f2⟩
  · rename_i ks ps
    simp only [PRel] at r1
    obtain ⟨us, rfl, r1⟩ := r1
    obtain ⟨res, f1, f2⟩ := findAsking_key hkt r1 es ents hl hr hks
    cases ents with
    | nil =>
      have : es = [] := List.eq_nil_of_length_eq_zero hl.symm
      subst this
      refine ⟨none, fun w => ?_, Found.none⟩
      rcases hkt with ⟨fs, hu, _, _⟩ | ⟨n, e, j, i, hu, _, _, _, _⟩ <;> simp [Instr.findKey, run_underlying hu, Instr.findNow]
    | cons e ents =>
      refine ⟨res, fun w => ?_, f2⟩
      have := f1 0 w
      rcases hkt with ⟨fs, hu, _, _⟩ | ⟨n, e', j, i, hu, _, _, _, _⟩
      · simp only [Instr.findKey, Sem.run_bind, run_underlying hu, Result.andThen_ok, Instr.findNow, Instr.sameNow, this]
        cases res <;> simp
      · simp only [Instr.findKey, Sem.run_bind, run_underlying hu, Result.andThen_ok, Instr.findNow, Instr.sameNow, this]
        cases res <;> simp
  · exact h1.elim

/-! ### maps from which entries are taken away -/
theorem esD_rel {es : List (Nat × PV × PV)} {ents : List MapEntry} (h : ∀ (i : Nat) p e, es[i]? = some p → ents[i]? = some e → EntryRel x p.2 e ∧ e.born = p.1) :
    ∀ (j : Nat) p e, (esD es)[j]? = some p → ents[j]? = some e → PRel x.w x.F p.1 e.key ∧ PRel x.w x.F p.2 e.val := fun j p e hp he => by
  unfold esD at hp
  rw [List.getElem?_map] at hp
  cases hq : es[j]? with
  | none => rw [hq] at hp; cases hp
  | some q =>
    rw [hq] at hp
    simp only [Option.map_some, Option.some.injEq] at hp
    subst hp
    exact (h j q e hq he).1
theorem esD_len (es : List (Nat × PV × PV)) : (esD es).length = es.length := List.length_map _
theorem mputD_snd {k v : PV} {c : Nat} : ∀ es : List (Nat × PV × PV), esD (mputD k v c es) = mput k v (esD es)
  | [] => rfl
  | e :: es => by
    have ih := mputD_snd (k := k) (v := v) (c := c) es
    unfold esD at ih ⊢
    simp only [mputD, List.map_cons, mput]
    by_cases h : keyEq k e.2.1 = true
    · rw [if_pos h, if_pos h]; rfl
    · rw [if_neg h, if_neg h, List.map_cons, ih]
theorem mputD_fst {k v : PV} {c : Nat} : ∀ es : List (Nat × PV × PV), (mputD k v c es).map (·.1) = if lkp k (esD es) = none then es.map (·.1) ++ [c] else es.map (·.1)
  | [] => by simp [mputD, esD, lkp]
  | e :: es => by
    have ih := mputD_fst (k := k) (v := v) (c := c) es
    unfold esD at ih ⊢
    simp only [mputD, List.map_cons, lkp]
    by_cases h : keyEq k e.2.1 = true
    · rw [if_pos h, if_pos h]; simp
    · rw [if_neg h, if_neg h, List.map_cons, ih]
      split <;> simp
theorem mdelD_erase {k : PV} : ∀ (es : List (Nat × PV × PV)) (j : Nat), (∀ i, i < j → ∀ q p, (esD es)[i]? = some (q, p) → keyEq k q = false) → (∃ q p, (esD es)[j]? = some (q, p) ∧ keyEq k q = true) → mdelD k es = es.eraseIdx j
  | [], j, _, h => by obtain ⟨q, p, h, _⟩ := h; simp [esD] at h
  | e :: es, 0, _, h => by
    obtain ⟨q, p, h, hk⟩ := h
    simp only [esD, List.map_cons, List.getElem?_cons_zero, Option.some.injEq] at h
    simp only [mdelD, h, hk, if_true, List.eraseIdx_cons_zero]
  | e :: es, j + 1, h0, h => by
    have hn := h0 0 (by omega) e.2.1 e.2.2 (by simp [esD])
    simp only [mdelD, hn, Bool.false_eq_true, if_false, List.eraseIdx_cons_succ]
    rw [mdelD_erase es j (fun i hi q p hq => h0 (i + 1) (by omega) q p (by simpa [esD] using hq)) (by simpa [esD] using h)]
theorem mdelD_none {k : PV} : ∀ (es : List (Nat × PV × PV)), lkp k (esD es) = none → mdelD k es = es
  | [], _ => rfl
  | e :: es, h => by
    simp only [esD, List.map_cons, lkp] at h
    split at h
    · cases h
    · rename_i hk
      simp only [mdelD, if_neg hk]
      rw [mdelD_none es h]

theorem run_getMap {w : World} {r : Nat} {es : Array MapEntry} {clock : Nat} (h : w.heap[r]? = some (.map es clock)) : (getObj r).run P w = .ok (.map es clock) w := by simp [getObj, Sem.run, h]

theorem q_mget {e : Env} {σ : St} {a : Act} (hS : SRel e σ x a) {t kt et : TypeId} {y z : Operand} {comma : Bool} {kk : Kk} (ho : o.op = .lookup t y z comma) (ht : P.underlying t = some (.map kt et)) (hkt : kkIs P kt kk)
    {i : TypeInfo} (hi : P.info? et = some i) {zv : Value} (hz : i.zero = some zv) {zero : AV} (hzero : VRel x zero zv) {u v : AV} (hy : VRel x u (ev y)) (hv : VRel x v (ev z)) (hp : mgetP σ kk u v) : QOK P x o ev (mgetV σ comma zero u v) := by
  unfold mgetP at hp
  split at hp
  · rename_i r k
    split at hp
    · rename_i es hst
      obtain ⟨h1, h2⟩ := hp
      have hrow := hS.st r _ (stGet_mem hst)
      simp only [Row.rel] at hrow
      obtain ⟨hok, ents, clock, hh, hlen, hents, _, _⟩ := hrow
      simp only [VRel] at hy hv
      have hhw : ∀ w', Agr x.w w' → w'.heap[(x.ρ r).blk]? = some (.map ⟨ents⟩ clock) := fun w' k => (k.heap _ (Array.getElem?_eq_some_iff.1 hh).1).trans hh
      obtain ⟨res, f1, f2⟩ := findKey_run hkt h1 hv es ents hlen hents h2
      have run : ∀ w', Agr x.w w' →
          (execOp ev o).run P w' = .ok (.value (match res with
            | some (_, v) => if comma then .tuple #[v, .bool true] else v
            | none => if comma then .tuple #[zv, .bool false] else zv)) w' := fun w' hk => by
        simp only [execOp, ho, hy]
        simp only [Instr.lookup, Sem.run_bind, run_underlying ht, Result.andThen_ok, run_getMap (hhw w' hk), run_checkKeyK hkt h1 hv, Sem.run_pure, f1]
        cases res with
        | none => cases comma <;> simp [zeroValue, typeInfo, hi, hz]
        | some q => cases comma <;> simp
      refine ⟨_, ?_, run⟩
      cases res with
      | none =>
        have f1 := (f2.no rfl).1
        simp only [mgetV, hst, f1]
        cases comma
        · simpa using hzero
        · simp only [if_true, VRel, VRels, vbool, PRel]
          exact ⟨[zv, .bool false], rfl, zv, _, rfl, hzero, _, _, rfl, rfl, rfl⟩
      | some q =>
        obtain ⟨j, cv⟩ := q
        obtain ⟨p, q', en, f1, f3, _⟩ := f2.yes j cv rfl
        simp only [mgetV, hst, f1]
        cases comma
        · simpa [VRel] using f3
        · simp only [if_true, VRel, VRels, vbool, PRel]
          exact ⟨[cv, .bool true], rfl, cv, _, rfl, f3, _, _, rfl, rfl, rfl⟩
    · rename_i es ck hst
      obtain ⟨h1, h2⟩ := hp
      have hrow := hS.st r _ (stGet_mem hst)
      simp only [Row.rel] at hrow
      obtain ⟨hok, ents, hh, hlen, hents, _, _⟩ := hrow
      simp only [VRel] at hy hv
      have hhw : ∀ w', Agr x.w w' → w'.heap[(x.ρ r).blk]? = some (.map ⟨ents⟩ ck) := fun w' k => (k.heap _ (Array.getElem?_eq_some_iff.1 hh).1).trans hh
      obtain ⟨res, f1, f2⟩ := findKey_run hkt h1 hv (esD es) ents (by rw [esD_len]; exact hlen) (esD_rel hents) h2
      have run : ∀ w', Agr x.w w' →
          (execOp ev o).run P w' = .ok (.value (match res with
            | some (_, v) => if comma then .tuple #[v, .bool true] else v
            | none => if comma then .tuple #[zv, .bool false] else zv)) w' := fun w' hk => by
        simp only [execOp, ho, hy]
        simp only [Instr.lookup, Sem.run_bind, run_underlying ht, Result.andThen_ok, run_getMap (hhw w' hk), run_checkKeyK hkt h1 hv, Sem.run_pure, f1]
        cases res with
        | none => cases comma <;> simp [zeroValue, typeInfo, hi, hz]
        | some q => cases comma <;> simp
      refine ⟨_, ?_, run⟩
      cases res with
      | none =>
        have f1 := (f2.no rfl).1
        simp only [mgetV, hst, f1]
        cases comma
        · simpa using hzero
        · simp only [if_true, VRel, VRels, vbool, PRel]
          exact ⟨[zv, .bool false], rfl, zv, _, rfl, hzero, _, _, rfl, rfl, rfl⟩
      | some q =>
        obtain ⟨j, cv⟩ := q
        obtain ⟨p, q', en, f1, f3, _⟩ := f2.yes j cv rfl
        simp only [mgetV, hst, f1]
        cases comma
        · simpa [VRel] using f3
        · simp only [if_true, VRel, VRels, vbool, PRel]
          exact ⟨[cv, .bool true], rfl, cv, _, rfl, f3, _, _, rfl, rfl, rfl⟩
    · exact hp.elim
  · exact hp.elim

theorem q_mlen {e : Env} {σ : St} {a : Act} (hS : SRel e σ x a) {t kt et : TypeId} {y : Operand} (ho : o.op = .call { callee := .builtin .len, args := #[y], argTypes := #[t] }) (ht : P.underlying t = some (.map kt et)) {u : AV} (hy : VRel x u (ev y)) (hp : mlenP σ u) :
    QOK P x o ev (mlenV σ u) := by
  unfold mlenP at hp
  split at hp
  · rename_i r
    split at hp
    · rename_i es hst
      have hrow := hS.st r _ (stGet_mem hst)
      simp only [Row.rel] at hrow
      obtain ⟨hok, ents, clock, hh, hlen, hents, _, _⟩ := hrow
      simp only [VRel] at hy
      refine ⟨.int .i64 (ents.length : Nat), ?_, fun w' k => ?_⟩
      · simp [mlenV, hst, vint, VRel, PRel, hlen]
      · have hhw : w'.heap[(x.ρ r).blk]? = some (.map ⟨ents⟩ clock) := (k.heap _ (Array.getElem?_eq_some_iff.1 hh).1).trans hh
        simp [execOp, ho, resolve, invoke, builtin, hy, Builtin.len_, Builtin.len, run_underlying ht, run_getMap hhw, goInt]
    · rename_i es ck hst
      have hrow := hS.st r _ (stGet_mem hst)
      simp only [Row.rel] at hrow
      obtain ⟨hok, ents, hh, hlen, hents, _, _⟩ := hrow
      simp only [VRel] at hy
      refine ⟨.int .i64 (ents.length : Nat), ?_, fun w' k => ?_⟩
      · simp [mlenV, hst, vint, VRel, PRel, hlen]
      · have hhw : w'.heap[(x.ρ r).blk]? = some (.map ⟨ents⟩ ck) := (k.heap _ (Array.getElem?_eq_some_iff.1 hh).1).trans hh
        simp [execOp, ho, resolve, invoke, builtin, hy, Builtin.len_, Builtin.len, run_underlying ht, run_getMap hhw, goInt]
    · exact hp.elim
  · exact hp.elim

theorem q_ent {e : Env} {σ : St} {a : Act} (hS : SRel e σ x a) {y : Operand} (ho : o.op = .entry y) {u : AV} (hy : VRel x u (ev y)) (hp : entP σ u) : QOK P x o ev (entV σ u) := by
  unfold entP at hp
  split at hp
  · rename_i r
    split at hp
    · rename_i m n rem c hst
      split at hp
      · rename_i es hsm
        have hrow := hS.st r _ (stGet_mem hst)
        have hmap := hS.st m _ (stGet_mem hsm)
        simp only [Row.rel] at hrow hmap
        obtain ⟨hok, seen, hh, hnd, hrem, hcur, hcn⟩ := hrow
        obtain ⟨hokm, ents, clock, hhm, hlen, hents, hclk, hborn⟩ := hmap
        simp only [VRel] at hy
        have hc := hcn c rfl
        obtain ⟨en, hen⟩ : ∃ en, ents[c]? = some en := ⟨ents[c]'(by omega), List.getElem?_eq_getElem _⟩
        obtain ⟨p, hpe⟩ : ∃ p, es[c]? = some p := ⟨es[c]'(by omega), List.getElem?_eq_getElem _⟩
        have hrel := hents c p en hpe hen
        have hfind : (⟨ents⟩ : Array MapEntry).find? (fun e => e.born == c) = some en := by
          rw [← Array.find?_toList]
          have key : ∀ (l : List MapEntry) (k : Nat), (∀ i e, l[i]? = some e → e.born = k + i) → ∀ j e, l[j]? = some e → l.find? (fun e => e.born == k + j) = some e := by
            intro l
            induction l with
            | nil => intro k _ j e h; simp at h
            | cons a l ih =>
              intro k hb j e hj
              have h0 := hb 0 a rfl
              cases j with
              | zero =>
                simp only [List.getElem?_cons_zero, Option.some.injEq] at hj
                subst hj
                simp [h0]
              | succ j =>
                rw [List.find?_cons]
                have : (a.born == k + (j + 1)) = false := by simp; omega
                rw [this]
                have := ih (k + 1) (fun i e h => by have := hb (i + 1) e (by simpa using h); omega) j e (by simpa using hj)
                rw [show k + (j + 1) = k + 1 + j by omega]
                exact this
          have := key ents 0 (fun i e h => by rw [hborn i e h]; omega) c en hen
          simpa using this
        refine ⟨.tuple #[en.key, en.val], ?_, fun w' k => ?_⟩
        · have hd : es.getD c default = p := by simp [List.getD_eq_getElem?_getD, hpe]
          simp only [entV, hst, hsm, hd, VRel, VRels]
          exact ⟨[en.key, en.val], rfl, _, _, rfl, hrel.1, _, _, rfl, hrel.2, rfl⟩
        · have h1 : w'.heap[(x.ρ r).blk]? = some (.mapIter (some (x.ρ m).blk) n seen n) := (k.heap _ (Array.getElem?_eq_some_iff.1 hh).1).trans hh
          have h2 : w'.heap[(x.ρ m).blk]? = some (.map ⟨ents⟩ clock) := (k.heap _ (Array.getElem?_eq_some_iff.1 hhm).1).trans hhm
          have h3 : (getObj (x.ρ r).blk).run P w' = .ok (.mapIter (some (x.ρ m).blk) n seen n) w' := by simp [getObj, Sem.run, h1]
          have h4 : (getObj (x.ρ m).blk).run P w' = .ok (.map ⟨ents⟩ clock) w' := run_getMap h2
          have hcl : clock = n := by omega
          simp [execOp, ho, hy, Instr.entry, h3, h4, ← hcur, hcl, hfind]
      · exact hp.elim
    · rename_i m n bs rem c hst
      split at hp
      · rename_i es ck hsm
        obtain ⟨hp1, hp2⟩ := hp
        have hrow := hS.st r _ (stGet_mem hst)
        have hmap := hS.st m _ (stGet_mem hsm)
        simp only [Row.rel] at hrow hmap
        obtain ⟨hok, seen, hh, hnd, hrem, hcur⟩ := hrow
        obtain ⟨hokm, ents, hhm, hlen, hents, hbn, hbl⟩ := hmap
        simp only [VRel] at hy
        obtain ⟨b, hb, hsb⟩ := hcur c rfl
        rw [← hp1, List.getElem?_map] at hb
        obtain ⟨p, hpe, hpb⟩ : ∃ p, es[c]? = some p ∧ p.1 = b := by
          cases hpe : es[c]? with
          | none => rw [hpe] at hb; cases hb
          | some p => rw [hpe] at hb; exact ⟨p, rfl, by simpa using hb⟩
        have hcl : c < es.length := (List.getElem?_eq_some_iff.1 hpe).1
        obtain ⟨en, hen⟩ : ∃ en, ents[c]? = some en := ⟨ents[c]'(by omega), List.getElem?_eq_getElem _⟩
        have hrel := hents c p en hpe hen
        have hborns : ents.map (·.born) = es.map (·.1) := by
          refine List.ext_getElem (by simp [hlen]) fun i h1 h2 => ?_
          simp only [List.length_map] at h1 h2
          rw [List.getElem_map, List.getElem_map]
          exact (hents i es[i] ents[i] (List.getElem?_eq_getElem h2) (List.getElem?_eq_getElem h1)).2
        have hfind : (⟨ents⟩ : Array MapEntry).find? (fun e => e.born == b) = some en := by
          rw [← Array.find?_toList]
          have := find_born en ents (by rw [hborns]; exact hbn) (List.mem_of_getElem? hen)
          rw [hrel.2, hpb] at this
          exact this
        refine ⟨.tuple #[en.key, en.val], ?_, fun w' k => ?_⟩
        · have hd : es.getD c default = p := by simp [List.getD_eq_getElem?_getD, hpe]
          simp only [entV, hst, hsm, hd, VRel, VRels]
          exact ⟨[en.key, en.val], rfl, _, _, rfl, hrel.1.1, _, _, rfl, hrel.1.2, rfl⟩
        · have h1 : w'.heap[(x.ρ r).blk]? = some (.mapIter (some (x.ρ m).blk) n seen n) := (k.heap _ (Array.getElem?_eq_some_iff.1 hh).1).trans hh
          have h2 : w'.heap[(x.ρ m).blk]? = some (.map ⟨ents⟩ ck) := (k.heap _ (Array.getElem?_eq_some_iff.1 hhm).1).trans hhm
          have h3 : (getObj (x.ρ r).blk).run P w' = .ok (.mapIter (some (x.ρ m).blk) n seen n) w' := by simp [getObj, Sem.run, h1]
          have h4 : (getObj (x.ρ m).blk).run P w' = .ok (.map ⟨ents⟩ ck) w' := run_getMap h2
          subst hp2
          simp [execOp, ho, hy, Instr.entry, h3, h4, hsb, hfind]
      · exact hp.elim
    · exact hp.elim
  · exact hp.elim
end
end Go.Vc

namespace Go.Vc
open Go.RowKit

/-- only the name r -/
def only (r : Nat) : Nat → Bool := fun q => q == r
def St.newRow (σ : St) (r : Nat) (row : Row) : St := ⟨frClip (only r) σ.fr, (r, row) :: stClip (only r) (stDel σ.st r)⟩
def St.put (σ : St) (d : Nat) (v : AV) : St := ⟨frPut σ.fr d v, σ.st⟩
def updρ (ρ : Nat → Loc) (r : Nat) (l : Loc) : Nat → Loc := fun q => if q = r then l else ρ q

section
variable {P : Program} {e : Env} {σ : St} {x : Cx} {a : Act} {o : Oper}

theorem below_alloc (w : World) (o : Obj) : Below w.heap.size w (w.alloc o) := (Below.refl _ w).alloc (Nat.le_refl _) o

/-- the context in which a new block g is row r -/
def newCx (e : Env) (σ : St) (x : Cx) (w' : World) (r : Nat) (row : Row) (l : Loc) : Cx :=
  ⟨w', fun b => e.F0 b ∨ Own ((r, row) :: stClip (only r) (stDel σ.st r)) (updρ x.ρ r l) b, updρ x.ρ r l⟩

/-- A NEW ROW, in a block that is new in a world that has grown from x's. -/
theorem SRel.fresh (h : SRel e σ x a) {w' : World} (hb : Below x.w.heap.size x.w w') (r : Nat) (row : Row) (l : Loc) (hl : l.ok = true → x.w.heap.size ≤ l.blk)
    (hrow : row.rel (newCx e σ x w' r row l) l) (hr : r < 200000) : SRel e (σ.newRow r row) (newCx e σ x w' r row l) a := by
  have e1 : (newCx e σ x w' r row l).ρ r = l := by simp [newCx, updρ]
  refine SRel.turn (y := newCx e σ x w' r row l) h r row (only r) hb.size hb.os hb.tape hb.output hb.drawn (fun b hl _ => hb.block b hl) (fun q hq => ?_) (fun q hq => ?_) (fun q hq => ?_) (fun hok => ?_) (fun b => Iff.rfl) ?_ (.inl hr)
  · simp only [only, beq_eq_false_iff_ne] at hq
    simp [newCx, updρ, hq]
  · simpa [only] using hq
  · simp [newCx, updρ, hq]
  · rw [e1] at hok ⊢
    exact .inl (hl hok)
  · rw [e1]; exact hrow

theorem newCx_kept (h : SRel e σ x a) {w' : World} (hb : Below x.w.heap.size x.w w') (r : Nat) (row : Row) (l : Loc) (hl : l.ok = true → x.w.heap.size ≤ l.blk) :
    Kept x (newCx e σ x w' r row l) where
  size := hb.size
  heap := fun b _ hl => hb.block b hl
  F := fun b hlt hy => by
    rcases hy with h0 | ⟨q, rw', hm, hok, hbe⟩
    · exact (h.F b).2 (.inl h0)
    · rcases List.mem_cons.1 hm with hm | hm
      · injection hm with h1 _
        subst h1
        simp only [updρ, if_true] at hok hbe
        have := hl hok; omega
      · obtain ⟨u, h1, _⟩ := stClip_mem hm
        obtain ⟨h3, h4⟩ := stDel_mem h1
        simp only [updρ, if_neg h4] at hok hbe
        exact (h.F b).2 (.inr ⟨q, u, h3, hok, hbe⟩)
theorem newCx_ρ {w' : World} (r : Nat) (row : Row) (l : Loc) : ∀ q, only r q = false → (newCx e σ x w' r row l).ρ q = x.ρ q := fun q hq => by
  simp only [only, beq_eq_false_iff_ne] at hq
  simp [newCx, updρ, hq]

def LStep (P : Program) (e : Env) (o : Oper) (a : Act) (w : World) (K : St → Prop) : Prop :=
  ∀ Q, o.wp P a w (fun a' w' => ∃ σ' y, SRel e σ' y a' ∧ y.w = w' ∧ K σ' ∧ Agr w w') Q

theorem wp_value {o : Oper} {a : Act} {w w' : World} {v : Value} {K : Act → World → Prop} {Q : Exit → Act → World → Prop} (h : (execOp a.eval o).run P w = .ok (.value v) w') (hk : K (a.put o.dst v) w') : o.wp P a w K Q := by
  unfold Oper.wp; rw [h]; exact hk

theorem arr_alloc (w : World) (cs : List Value) (t : TypeId) (n : Nat) (h : n ≤ cs.length) : Arr (w.alloc (.cells ⟨cs⟩ t)) w.heap.size n :=
  ⟨⟨cs⟩, t, by show (w.heap.push _)[w.heap.size]? = _; simp, by simpa using h⟩
theorem arr1_alloc (w : World) (cs : List Value) (t : TypeId) (n : Nat) (h : n ≤ cs.length) (h1 : ∀ c ∈ cs, c.oneCell' = true) : Arr1 (w.alloc (.cells ⟨cs⟩ t)) w.heap.size n :=
  ⟨⟨cs⟩, t, by show (w.heap.push _)[w.heap.size]? = _; simp, by simpa using h, h1⟩
theorem heap_new (w : World) (o : Obj) : (w.alloc o).heap[w.heap.size]? = some o := by
  show (w.heap.push _)[w.heap.size]? = _; simp

/-- a new box that holds cells related to AVs -/
theorem new_box (h : SRel e σ x a) (d : Nat) (hd : d < e.n) (ho : o.dst = some d) {K : St → Prop} {t : TypeId} {cs : List AV} {cvs : List Value} (hc : VRels x cs cvs)
    (hrun : (execOp a.eval o).run P x.w = .ok (.value (.pointer (some ⟨x.w.heap.size, 0, none⟩))) (x.w.alloc (.cells ⟨cvs⟩ t)))
    (hK : K ((σ.newRow d (.box (AV.clips (only d) cs))).put d (.ptr d 0))) : LStep P e o a x.w K := by
  intro Q
  refine wp_value hrun ?_
  have hb := below_alloc x.w (.cells ⟨cvs⟩ t)
  let l : Loc := ⟨x.w.heap.size, 0, 0, 0, true, 0⟩
  have kept := newCx_kept h hb d (.box (AV.clips (only d) cs)) l (fun _ => Nat.le_refl _)
  have h1 := SRel.fresh h hb d (.box (AV.clips (only d) cs)) l (fun _ => Nat.le_refl _) ⟨rfl, by
      simp only [Nat.zero_add, clips_length, l]
      exact arr_alloc _ _ _ _ (by rw [hc.length]; exact Nat.le_refl _), ACells.of (VRels.clip kept (newCx_ρ _ _ _) cs hc) (CellsAt.of_heap (heap_new _ _))⟩ (by have := h.small; omega)
  rw [ho]
  refine ⟨_, newCx e σ x (x.w.alloc (.cells ⟨cvs⟩ t)) d (.box (AV.clips (only d) cs)) l, h1.put hd (v := .ptr d 0) ?_, rfl, hK, below_agr hb⟩
  simp [VRel, newCx, updρ, l]

/-- 'var v T' that is kept in memory -/
theorem l_alloc (h : SRel e σ x a) (d : Nat) (hd : d < e.n) (hdst : o.dst = some d) {t : TypeId} (ho : o.op = .alloc t) {i : TypeInfo} {zv : Value} (hi : P.info? t = some i) (hz : i.zero = some zv)
    {zero : List AV} (hzero : ∀ y : Cx, VRels y zero zv.cells.toList) {K : St → Prop} (hK : K ((σ.newRow d (.box (AV.clips (only d) zero))).put d (.ptr d 0))) : LStep P e o a x.w K := by
  refine new_box (t := t) h d hd hdst (hzero x) ?_ hK
  simp [execOp, ho, Instr.alloc, zeroValue, typeInfo, hi, hz, newVar, newRow, newObj, Sem.run]

theorem l_box (h : SRel e σ x a) (d : Nat) (hd : d < e.n) (hdst : o.dst = some d) {t : TypeId} {y : Operand} (ho : o.op = .box t y) {z : Opd} (hz : Opd.of y = some z) (hc : z.cd σ = true) (hk : okc (z.sv σ) = true)
    {K : St → Prop} (hK : K ((σ.newRow d (.box (AV.clips (only d) (z.sv σ).cells))).put d (.ptr d 0))) : LStep P e o a x.w K := by
  refine new_box (t := t) h d hd hdst (cells_rel (Opd.of_sv h hz hc) hk) ?_ hK
  simp [execOp, ho, Instr.box, newVar, newRow, newObj, Sem.run]

/-- a value and no row more -/
theorem SRel.value_ext (h : SRel e σ x a) {w' : World} (hb : Below x.w.heap.size x.w w') {d : Nat} (hd : d < e.n) {v : AV} {cv : Value} (hv : VRel ⟨w', x.F, x.ρ⟩ v cv) :
    SRel e (σ.put d v) ⟨w', x.F, x.ρ⟩ (a.put (some d) cv) := (h.ext hb).put hd hv

theorem F_lt (h : SRel e σ x a) {b : Nat} (hb : x.F b) : b < x.w.heap.size := by
  rcases (h.F b).1 hb with h0 | ⟨r, row, hm, hok, rfl⟩
  · exact Nat.lt_of_lt_of_le (h.f0 b h0).1 h.below.size
  · exact h.blk_lt r row hm hok

def allOk : List AV → Bool
  | [] => true
  | v :: vs => okc v && allOk vs
theorem allOk_mem : ∀ {vs : List AV}, allOk vs = true → ∀ v ∈ vs, okc v = true
  | [], _, v, h => by cases h
  | u :: vs, ho, v, h => by
    simp only [allOk, Bool.and_eq_true] at ho
    rcases List.mem_cons.1 h with rfl | h
    · exact ho.1
    · exact allOk_mem ho.2 v h
def allW (s : Nat) : List AV → Prop
  | [] => True
  | v :: vs => v.cells.length = s ∧ allW s vs
def AV.one : AV → Bool
  | .pv p => p.one
  | .un | .agg _ | .tup _ | .whn _ _ => false
  | _ => true
theorem PV.one_rel {w : World} {F : Nat → Prop} {p : PV} {v : Value} (h : PRel w F p v) (ho : p.one = true) : v.oneCell' = true := by
  cases p <;> simp only [PRel] at h <;> simp only [PV.one] at ho
  case sc c => subst h; exact ho
  case lst xs => obtain ⟨_, _, _, rfl, _⟩ := h; rfl
  case fn f xs => obtain ⟨_, rfl, _⟩ := h; rfl
  case pt xs => obtain ⟨_, _, rfl, _⟩ := h; rfl
  all_goals cases ho
theorem AV.one_rel {v : AV} {cv : Value} (h : VRel x v cv) (ho : v.one = true) : cv.oneCell' = true := by
  cases v <;> simp only [VRel] at h <;> simp only [AV.one] at ho
  case pv p => exact PV.one_rel h ho
  case e0 => obtain ⟨_, rfl⟩ := h; rfl
  case lit xs => obtain ⟨_, _, _, rfl, _⟩ := h; rfl
  case row r off n => rcases h with ⟨_, _, _, rfl⟩ | ⟨_, _, rfl, _⟩ <;> rfl
  case ptr => subst h; rfl
  case rptr => subst h; rfl
  case eptr => obtain ⟨_, _, rfl, _⟩ := h; rfl
  case cptr => obtain ⟨_, _, rfl, _⟩ := h; rfl
  case fn => obtain ⟨_, rfl, _⟩ := h; rfl
  case mp => subst h; rfl
  case it => subst h; rfl
  all_goals cases ho

theorem VRels.sizes {s : Nat} : ∀ {vs : List AV} {cvs : List Value}, VRels x vs cvs → allOk vs = true → allW s vs → ∀ c ∈ cvs, c.cells.size = s
  | [], _, h, _, _, c, hc => by simp only [VRels] at h; subst h; cases hc
  | v :: vs, _, h, ho, hw, c, hc => by
    simp only [VRels] at h
    obtain ⟨u, r, rfl, h1, h2⟩ := h
    simp only [allOk, Bool.and_eq_true] at ho
    simp only [allW] at hw
    rcases List.mem_cons.1 hc with rfl | hc
    · have := (cells_rel h1 ho.1).length
      rw [hw.1] at this; simpa using this
    · exact VRels.sizes h2 ho.2 hw.2 c hc

/-- what a composite literal of a slice asks, and its run -/
structure LitOf (P : Program) (o : Oper) (zs : List Opd) (s : Nat) : Prop where
  it : ∃ t et i zv parts ys, o.op = .buildSlice t ys.length parts ∧ parts.toList = ys.zipIdx.map (fun q => (q.2, q.1)) ∧ opdsOf ys = some zs ∧ P.underlying t = some (.slice et) ∧ P.info? et = some i ∧
    i.zero = some zv ∧ 0 < i.size ∧ i.size = s

theorem zipIdx_map_eval (ev : Operand → Value) : ∀ (ys : List Operand) (k : Nat), ((ys.zipIdx k).map fun q => (q.2, q.1)).map (fun q => (q.1, ev q.2)) = ((ys.map ev).zipIdx k).map fun q => (q.2, q.1)
  | [], _ => rfl
  | y :: ys, k => by simp only [List.zipIdx_cons, List.map_cons, zipIdx_map_eval ev ys (k + 1)]

theorem run_lit (h : SRel e σ x a) {zs : List Opd} {s : Nat} (hl : LitOf P o zs s) (hcd : cds σ zs = true) (hok : allOk (evs σ zs) = true) (hw : allW s (evs σ zs)) (hn : zs.length * s ≤ 16777216) :
    ∃ cvs et, VRels x (evs σ zs) cvs ∧ cvs.length = zs.length ∧ (∀ c ∈ cvs, c.cells.size = s) ∧ ∀ w', (execOp a.eval o).run P w' = .ok (.value (.slice (some ⟨w'.heap.size, 0, none⟩) cvs.length cvs.length)) (w'.alloc (.cells ⟨Value.allCells cvs⟩ et)) := by
  obtain ⟨t, et, i, zv, parts, ys, ho, hp, hz, ht, hi, hzv, hs0, rfl⟩ := hl.it
  have hr := opds_rel h hz hcd
  have hlen : (ys.map a.eval).length = zs.length := by
    have : (evs σ zs).length = zs.length := by
      clear hr hok hw hcd hl hn hz
      induction zs with
      | nil => rfl
      | cons z zs ih => simp [evs, ih]
    rw [hr.length, this]
  refine ⟨ys.map a.eval, et, hr, hlen, hr.sizes hok hw, fun w' => ?_⟩
  have hsz := hr.sizes hok hw
  have e1 : (parts.map fun q => (q.1, a.eval q.2)) = (((ys.map a.eval).zipIdx).map fun q => (q.2, q.1)).toArray := by
    apply Array.toList_inj.1
    simp only [Array.toList_map, hp, zipIdx_map_eval]
  have := run_buildSlice (P := P) (w := w') ht hi hzv hs0 (ys.map a.eval) hsz (by rw [hlen]; exact hn)
  rw [List.length_map] at this
  simp only [execOp, ho]
  simp only [Sem.run_bind]
  rw [show (parts.map fun (i, x) => (i, a.eval x)) = (((ys.map a.eval).zipIdx).map fun q => (q.2, q.1)).toArray from e1, this]
  simp

theorem l_lits (h : SRel e σ x a) (d : Nat) (hd : d < e.n) (hdst : o.dst = some d) {zs : List Opd} {s : Nat} (hl : LitOf P o zs s) (hcd : cds σ zs = true) (hok : allOk (evs σ zs) = true) (hw : allW s (evs σ zs)) (hn : zs.length * s ≤ 16777216)
    {K : St → Prop} (hK : K (σ.put d (mkLit (evs σ zs)))) : LStep P e o a x.w K := by
  intro Q
  obtain ⟨cvs, et, hr, hlen, _, hrun⟩ := run_lit h hl hcd hok hw hn
  refine wp_value (hrun x.w) ?_
  have hb := below_alloc x.w (.cells ⟨Value.allCells cvs⟩ et)
  rw [hdst]
  refine ⟨_, _, h.value_ext hb hd (v := mkLit (evs σ zs)) ?_, rfl, hK, below_agr hb⟩
  have kept : Kept x ⟨x.w.alloc (.cells ⟨Value.allCells cvs⟩ et), x.F, x.ρ⟩ := ⟨hb.size, fun b _ hl => hb.block b hl, fun b _ hy => hy⟩
  have hr' := hr.kept kept rfl
  have hA := AElems.of (x := ⟨x.w.alloc (.cells ⟨Value.allCells cvs⟩ et), x.F, x.ρ⟩) hr' (allOk_mem hok) (CellsAt.of_heap (heap_new _ _))
  have hnF : ¬ x.F x.w.heap.size := fun hF => by have := F_lt h hF; omega
  have hlt : x.w.heap.size < (x.w.alloc (.cells ⟨Value.allCells cvs⟩ et)).heap.size := by simp
  unfold mkLit
  split
  · rename_i hps
    simp only [VRel]
    have hpl := (allPv_rel hps hr).length
    simp only [List.length_nil] at hpl
    exact ⟨some ⟨x.w.heap.size, 0, none⟩, by rw [hpl]⟩
  · rename_i ps _ hps
    simp only [VRel, PRel]
    have hpl := (allPv_rel hps hr).length
    exact ⟨_, _, _, rfl, hpl, Nat.le_refl _, fun _ => ⟨_, _, rfl, hlt, hnF, AElems.pure hps hA⟩⟩
  · simp only [VRel]
    exact ⟨_, _, _, rfl, hr.length, Nat.le_refl _, fun _ => ⟨_, _, rfl, hlt, hnF, hA⟩⟩

theorem ones_rel : ∀ {vs : List AV} {cvs : List Value}, VRels x vs cvs → (∀ v ∈ vs, AV.one v = true) → ∀ c ∈ cvs, c.oneCell' = true
  | [], _, h, _, c, hc => by simp only [VRels] at h; subst h; cases hc
  | v :: vs, _, h, ho, c, hc => by
    simp only [VRels] at h
    obtain ⟨u, r, rfl, h1, h2⟩ := h
    rcases List.mem_cons.1 hc with rfl | hc
    · exact AV.one_rel h1 (ho v (by simp))
    · exact ones_rel h2 (fun v hv => ho v (List.mem_cons_of_mem _ hv)) c hc
theorem allCells_ones : ∀ {vs : List AV} {cvs : List Value}, VRels x vs cvs → (∀ v ∈ vs, okc v = true) → (∀ v ∈ vs, ∀ c ∈ v.cells, AV.one c = true) → ∀ c ∈ Value.allCells cvs, c.oneCell' = true
  | [], _, h, _, _, c, hc => by simp only [VRels] at h; subst h; cases hc
  | v :: vs, _, h, hk, ho, c, hc => by
    simp only [VRels] at h
    obtain ⟨u, r, rfl, h1, h2⟩ := h
    simp only [Value.allCells] at hc
    rcases List.mem_append.1 hc with hc | hc
    · exact ones_rel (cells_rel h1 (hk v (by simp))) (ho v (by simp)) c hc
    · exact allCells_ones h2 (fun v hv => hk v (List.mem_cons_of_mem _ hv)) (fun v hv => ho v (List.mem_cons_of_mem _ hv)) c hc
theorem l_own (h : SRel e σ x a) (d : Nat) (hd : d < e.n) (hdst : o.dst = some d) {zs : List Opd} {s : Nat} (hl : LitOf P o zs s) (hcd : cds σ zs = true) (hok : allOk (evs σ zs) = true) (hw : allW s (evs σ zs)) (hn : zs.length * s ≤ 16777216) (hone : ∀ v ∈ evs σ zs, ∀ c ∈ v.cells, AV.one c = true)
    {ps : List PV} (hps : allPv (evs σ zs) = some ps) {K : St → Prop} (hK : K ((σ.newRow d (.sl s ps)).put d (.row d 0 zs.length))) : LStep P e o a x.w K := by
  intro Q
  obtain ⟨cvs, et, hr, hlen, hsz, hrun⟩ := run_lit h hl hcd hok hw hn
  refine wp_value (hrun x.w) ?_
  have hb := below_alloc x.w (.cells ⟨Value.allCells cvs⟩ et)
  rw [hdst]
  let l : Loc := ⟨x.w.heap.size, 0, cvs.length, s, true, ps.length⟩
  have kept := newCx_kept h hb d (.sl s ps) l (fun _ => Nat.le_refl _)
  have hr' := VRels.clip kept (newCx_ρ d (.sl s ps) l) _ hr
  have hpl := (allPv_rel hps hr).length
  have hpure : AV.clips (only d) (evs σ zs) = evs σ zs := by
    have : ∀ {vs : List AV} {ps : List PV}, allPv vs = some ps → AV.clips (only d) vs = vs := by
      intro vs
      induction vs with
      | nil => intro _ _; rfl
      | cons v vs ih =>
        intro ps hp
        cases v with
        | pv p =>
          simp only [allPv] at hp
          split at hp
          · rename_i qs hq; simp only [AV.clips, AV.clip, ih hq]
          · cases hp
        | e0 =>
          simp only [allPv] at hp
          split at hp
          · rename_i qs hq; simp only [AV.clips, AV.clip, ih hq]
          · cases hp
        | _ => simp [allPv] at hp
    exact this hps
  rw [hpure] at hr'
  have hA := AElems.of hr' (allOk_mem hok) (CellsAt.of_heap (w := (newCx e σ x _ d (.sl s ps) l).w) (heap_new _ _))
  have hcl : ∀ {vs : List AV} {ps : List PV}, allPv vs = some ps → allW s vs → (∀ v ∈ vs, ∀ c ∈ v.cells, AV.one c = true) → WfL s ps := by
    intro vs
    induction vs with
    | nil => intro ps hp _ _ p hm; simp only [allPv, Option.some.injEq] at hp; subst hp; cases hm
    | cons v vs ih =>
      intro ps hp hw h1 p hm
      simp only [allW] at hw
      cases v with
      | pv q =>
        simp only [allPv] at hp
        split at hp
        · rename_i qs hq
          injection hp with hp; subst hp
          rcases List.mem_cons.1 hm with rfl | hm
          · exact ⟨by simpa [AV.cells] using hw.1, fun c hc => by simpa [AV.one] using h1 (.pv p) (by simp) (.pv c) (by simp only [AV.cells]; exact List.mem_map.2 ⟨c, hc, rfl⟩)⟩
          · exact ih hq hw.2 (fun v hv => h1 v (List.mem_cons_of_mem _ hv)) p hm
        · cases hp
      | e0 =>
        simp only [allPv] at hp
        split at hp
        · rename_i qs hq
          injection hp with hp; subst hp
          rcases List.mem_cons.1 hm with rfl | hm
          · exact ⟨by simpa [AV.cells, PV.cells] using hw.1, fun c hc => by simp only [PV.cells, List.mem_singleton] at hc; subst hc; rfl⟩
          · exact ih hq hw.2 (fun v hv => h1 v (List.mem_cons_of_mem _ hv)) p hm
        · cases hp
      | _ => simp [allPv] at hp
  have h1 := SRel.fresh h hb d (.sl s ps) l (fun _ => Nat.le_refl _) (.inr ⟨rfl, rfl, ⟨rfl, by simp only [l]; omega⟩, hcl hps hw hone, arr1_alloc _ _ _ _ (by simp only [l, Nat.zero_add]; rw [allCells_length cvs hsz]; exact Nat.le_refl _) (allCells_ones hr (allOk_mem hok) hone), AElems.pure hps hA⟩) (by have := h.small; omega)
  refine ⟨_, _, h1.put hd (v := .row d 0 zs.length) ?_, rfl, hK, below_agr hb⟩
  simp only [VRel]
  refine .inr ⟨cvs.length, by simp [newCx, updρ, l], by simp [newCx, updρ, l, hlen], by omega, by simp [newCx, updρ, l], by simp [newCx, updρ, l]; omega⟩
end
end Go.Vc

namespace Go.Vc
open Go.RowKit
section
variable {P : Program} {e : Env} {σ : St} {x : Cx} {a : Act} {o : Oper}

/-! ### make -/
theorem CellsAt.madeCells {w : World} {b : Nat} {z : Array Value} {s n k : Nat} {t : TypeId} {fz : Nat × Nat} (h : w.heap[b]? = some (.cells (madeCells z (n * s)) t fz)) (hz : z.size = s) (hk : k < n) :
    CellsAt w b (k * s) z.toList := fun j c hj => by
  have hj' : j < s := by have := (List.getElem?_eq_some_iff.1 hj).1; simpa [hz] using this
  have hlt : k * s + j < n * s := by
    have : (k + 1) * s ≤ n * s := Nat.mul_le_mul_right _ hk
    rw [Nat.succ_mul] at this; omega
  have hm : (k * s + j) % z.size = j := by rw [hz, Nat.mul_comm, Nat.mul_add_mod]; exact Nat.mod_eq_of_lt hj'
  have hc : z[j]? = some c := by simpa using hj
  obtain ⟨h2, h3⟩ := Array.getElem?_eq_some_iff.1 hc
  simp only [World.cell?, h, Go.madeCells]
  simp [hlt, hm, h2, h3]

theorem PElems.replicate {w : World} {F : Nat → Prop} {p : PV} {s : Nat} (hp : p.cells.length = s) {b : Nat} : ∀ (n o' : Nat), (∀ k, k < n → PCells w F p.cells b (o' + k * s)) → PElems w F (List.replicate n p) b o'
  | 0, _, _ => by simp [PElems]
  | n + 1, o', h => by
    have h0 := h 0 (by omega)
    have rest := PElems.replicate hp n (o' + s) fun k hk => by
      have := h (k + 1) (by omega)
      rw [Nat.succ_mul] at this
      rw [show o' + s + k * s = o' + (k * s + s) by omega]; exact this
    simp only [Nat.zero_mul, Nat.add_zero] at h0
    cases p with
    | agg cs => simp only [List.replicate_succ, PElems]; simp only [PV.cells] at hp h0; rw [hp]; exact ⟨h0, rest⟩
    | _ =>
      simp only [PV.cells, List.length_cons, List.length_nil, Nat.zero_add] at hp
      subst hp
      simp only [PV.cells, PCells, and_true] at h0
      simp only [List.replicate_succ, PElems]
      exact ⟨h0, rest⟩

theorem wfl_replicate {s : Nat} {p : PV} {n : Nat} (h : p.cells.length = s ∧ ∀ c ∈ p.cells, c.one = true) : WfL s (List.replicate n p) := fun q hq => by
  rw [(List.mem_replicate.1 hq).2]; exact h

theorem PRels.ones {w : World} {F : Nat → Prop} : ∀ {ps : List PV} {vs : List Value}, PRels w F ps vs → (∀ c ∈ ps, c.one = true) → ∀ c ∈ vs, c.oneCell' = true
  | [], _, h, _, c, hc => by simp only [PRels] at h; subst h; cases hc
  | p :: ps, _, h, h1, c, hc => by
    simp only [PRels] at h
    obtain ⟨u, r, rfl, h2, h3⟩ := h
    rcases List.mem_cons.1 hc with rfl | hc
    · exact PV.one_rel h2 (h1 p (by simp))
    · exact h3.ones (fun q hq => h1 q (List.mem_cons_of_mem _ hq)) c hc
theorem madeCells_ones {z : Array Value} {n : Nat} (h : ∀ c ∈ z.toList, c.oneCell' = true) (hz : 0 < z.size) : ∀ c ∈ (madeCells z n).toList, c.oneCell' = true := fun c hc => by
  simp only [Go.madeCells, Array.toList_map, Array.toList_range, List.mem_map] at hc
  obtain ⟨k, _, rfl⟩ := hc
  have hk : k % z.size < z.size := Nat.mod_lt _ hz
  rw [getElem!_pos z _ hk]
  exact h _ (by simp)
theorem layC_ones : ∀ (vs L : List Value) (off : Nat), (∀ c ∈ L, c.oneCell' = true) → (∀ c ∈ vs, c.oneCell' = true) → ∀ c ∈ layC L off vs, c.oneCell' = true
  | [], _, _, h, _ => h
  | v :: vs, L, off, h, h' => layC_ones vs _ _ (fun c hc => by
      rcases List.mem_or_eq_of_mem_set hc with h1 | h1
      · exact h c h1
      · subst h1; exact h' c (by simp)) (fun c hc => h' c (List.mem_cons_of_mem _ hc))
theorem l_mks (h : SRel e σ x a) (d : Nat) (hd : d < e.n) (hdst : o.dst = some d) {t et : TypeId} {yl yc : Operand} (ho : o.op = .makeSlice t yl yc) {i : TypeInfo} {zv : Value} (ht : P.underlying t = some (.slice et)) (hi : P.info? et = some i)
    (hz : i.zero = some zv) {kl kc : IntKind} {n c : Int} (hl : a.eval yl = .int kl n) (hc : a.eval yc = .int kc c) (h0 : 0 ≤ n) (h1 : n ≤ c) (h2 : (i.bytes : Int) * c ≤ 281474976710656) (h3 : c ≤ 9223372036854775807)
    {p : PV} (hp : ∀ (w : World) (F : Nat → Prop), PRels w F p.cells zv.cells.toList) (hp1 : ∀ c ∈ p.cells, c.one = true) (hzs : zv.cells.size = i.size) (hz0 : 0 < i.size)
    {K : St → Prop} (hK : K ((σ.newRow d (.sl i.size (List.replicate n.toNat p))).put d (.row d 0 n.toNat))) : LStep P e o a x.w K := by
  intro Q
  have hlen : p.cells.length = i.size := by have := (hp x.w x.F).length; rw [← this]; simpa using hzs
  refine wp_value (v := .slice (some ⟨x.w.heap.size, 0, none⟩) n.toNat c.toNat) (w' := x.w.alloc (.cells (madeCells zv.cells (c.toNat * i.size)) et)) ?_ ?_
  · simp [execOp, ho, hl, hc, run_make x.w t et i zv ht hi hz kl kc n c h0 h1 h2 h3]
  have hb := below_alloc x.w (.cells (madeCells zv.cells (c.toNat * i.size)) et)
  rw [hdst]
  let l : Loc := ⟨x.w.heap.size, 0, c.toNat, i.size, true, n.toNat⟩
  have h4 := SRel.fresh h hb d (.sl i.size (List.replicate n.toNat p)) l (fun _ => Nat.le_refl _) (.inr ⟨rfl, rfl, ⟨by simp [l], by simp only [l, List.length_replicate]; omega⟩, wfl_replicate ⟨hlen, hp1⟩,
    ⟨_, _, heap_new _ _, by simp only [l, Nat.zero_add]; simp [size_madeCells], madeCells_ones ((hp x.w x.F).ones hp1) (by rw [hzs]; exact hz0)⟩, PElems.replicate hlen _ _ fun k hk => by
      have := CellsAt.madeCells (w := x.w.alloc (.cells (madeCells zv.cells (c.toNat * i.size)) et)) (heap_new _ _) hzs (show k < c.toNat by omega)
      simp only [l, Nat.zero_add]
      exact PCells.of (hp _ _) this⟩) (by have := h.small; omega)
  refine ⟨_, newCx e σ x (x.w.alloc (.cells (madeCells zv.cells (c.toNat * i.size)) et)) d (.sl i.size (List.replicate n.toNat p)) l, h4.put hd (v := .row d 0 n.toNat) ?_, rfl, hK, below_agr hb⟩
  simp only [VRel]
  exact .inr ⟨c.toNat, by simp [newCx, updρ, l], by simp [newCx, updρ, l], by omega, by simp [newCx, updρ, l], by simp [newCx, updρ, l]⟩

/-- a slice of slots: its cells may lead into own rows -/
theorem l_mkx (h : SRel e σ x a) (d : Nat) (hd : d < e.n) (hdst : o.dst = some d) {t et : TypeId} {yl yc : Operand} (ho : o.op = .makeSlice t yl yc) {i : TypeInfo} {zv : Value} (ht : P.underlying t = some (.slice et)) (hi : P.info? et = some i)
    (hz : i.zero = some zv) {kl kc : IntKind} {n c : Int} (hl : a.eval yl = .int kl n) (hc : a.eval yc = .int kc c) (h0 : 0 ≤ n) (hnc : n = c) (h2 : (i.bytes : Int) * c ≤ 281474976710656) (h3 : c ≤ 9223372036854775807)
    (hz1 : zv = .slice none 0 0) (hs1 : i.size = 1)
    {K : St → Prop} (hK : K ((σ.newRow d (.bxs (List.replicate n.toNat .e0))).put d (.row d 0 n.toNat))) : LStep P e o a x.w K := by
  intro Q
  subst hnc
  refine wp_value (v := .slice (some ⟨x.w.heap.size, 0, none⟩) n.toNat n.toNat) (w' := x.w.alloc (.cells (madeCells zv.cells (n.toNat * i.size)) et)) ?_ ?_
  · simp [execOp, ho, hl, hc, run_make x.w t et i zv ht hi hz kl kc n n h0 (Int.le_refl _) h2 h3]
  have hb := below_alloc x.w (.cells (madeCells zv.cells (n.toNat * i.size)) et)
  have hzs : zv.cells.size = i.size := by rw [hz1, hs1]; rfl
  rw [hdst]
  let l : Loc := ⟨x.w.heap.size, 0, n.toNat, 1, true, n.toNat⟩
  have hcell : ∀ k, k < n.toNat → (x.w.alloc (.cells (madeCells zv.cells (n.toNat * i.size)) et)).cell? ⟨x.w.heap.size, k, none⟩ = some (.slice none 0 0) := fun k hk => by
    have := CellsAt.madeCells (w := x.w.alloc (.cells (madeCells zv.cells (n.toNat * i.size)) et)) (heap_new _ _) hzs hk 0 (.slice none 0 0) (by rw [hz1]; rfl)
    simpa [hs1] using this
  have hAC : ∀ (z : Cx), z.w = x.w.alloc (.cells (madeCells zv.cells (n.toNat * i.size)) et) → ∀ (m k : Nat), k + m = n.toNat → ACells z (List.replicate m .e0) x.w.heap.size k := by
    intro z hzw m
    induction m with
    | zero => intro k _; simp [ACells]
    | succ m ih =>
      intro k hk
      simp only [List.replicate_succ, ACells]
      exact ⟨⟨_, by rw [hzw]; exact hcell k (by omega), by simp [VRel]⟩, ih (k + 1) (by omega)⟩
  have h4 := SRel.fresh h hb d (.bxs (List.replicate n.toNat .e0)) l (fun _ => Nat.le_refl _) ⟨rfl, ⟨rfl, by simp [l], by simp [l]⟩,
    ⟨_, _, heap_new _ _, by simp only [l, Nat.zero_add]; simp [size_madeCells, hs1]⟩, hAC _ rfl _ _ (by simp [l])⟩ (by have := h.small; omega)
  refine ⟨_, newCx e σ x (x.w.alloc (.cells (madeCells zv.cells (n.toNat * i.size)) et)) d (.bxs (List.replicate n.toNat .e0)) l, h4.put hd (v := .row d 0 n.toNat) ?_, rfl, hK, below_agr hb⟩
  simp only [VRel]
  exact .inr ⟨n.toNat, by simp [newCx, updρ, l], by simp [newCx, updρ, l], by omega, by simp [newCx, updρ, l], by simp [newCx, updρ, l]⟩

/-! ### stores -/
def setBlk (w : World) (b : Nat) (L : List Value) (t : TypeId) : World := { w with heap := w.heap.setIfInBounds b (.cells ⟨L⟩ t (0, 0)) }
theorem setBlk_at {w : World} {b : Nat} {L L' : List Value} {t : TypeId} (h : w.heap[b]? = some (.cells ⟨L⟩ t (0, 0))) : (setBlk w b L' t).heap[b]? = some (.cells ⟨L'⟩ t (0, 0)) := by
  have := (Array.getElem?_eq_some_iff.1 h).1
  simp [setBlk, this]
theorem setBlk_far {w : World} {b b' : Nat} {L' : List Value} {t : TypeId} (h : b' ≠ b) : (setBlk w b L' t).heap[b']? = w.heap[b']? := by
  simp only [setBlk]
  rw [Array.getElem?_setIfInBounds_ne (fun e => h e.symm)]
theorem setBlk_size (w : World) (b : Nat) (L' : List Value) (t : TypeId) : (setBlk w b L' t).heap.size = w.heap.size := by simp [setBlk]
theorem setBlk_same {w : World} {b : Nat} {L : List Value} {t : TypeId} (h : w.heap[b]? = some (.cells ⟨L⟩ t (0, 0))) : setBlk w b L t = w := by
  have hlt := (Array.getElem?_eq_some_iff.1 h).1
  have hg := (Array.getElem?_eq_some_iff.1 h).2
  unfold setBlk
  have : w.heap.setIfInBounds b (.cells ⟨L⟩ t (0, 0)) = w.heap := by
    apply Array.ext_getElem?
    intro i
    by_cases hi : b = i
    · subst hi; simp [hlt, hg]
    · rw [Array.getElem?_setIfInBounds_ne hi]
  rw [this]

theorem run_store_one {w : World} {b off : Nat} {L : List Value} {t : TypeId} {v : Value} (h : w.heap[b]? = some (.cells ⟨L⟩ t (0, 0))) (hl : off < L.length) (hv : v.oneCell' = true) :
    (store ⟨b, off, none⟩ v).run P w = .ok () (setBlk w b (L.set off v) t) := by
  have hc : w.cell? ⟨b, off, none⟩ = some L[off] := by simp [World.cell?, h, hl]
  have hf : w.frozen? ⟨b, off, none⟩ = false := by simp [World.frozen?, h]
  rw [run_store P w _ v _ hv, hc]
  simp only [hf, Bool.false_eq_true, if_false]
  congr 1
  have hlt := (Array.getElem?_eq_some_iff.1 h).1
  have hg := (Array.getElem?_eq_some_iff.1 h).2
  simp only [World.setCell, setBlk]
  congr 1
  apply Array.ext_getElem?
  intro i
  rw [Array.getElem?_modify]
  by_cases hi : b = i
  · subst hi; simp [hlt, hg]
  · rw [if_neg (by omega), Array.getElem?_setIfInBounds_ne hi]

theorem run_storeCells {b : Nat} {t : TypeId} : ∀ (vs : List Value) (w : World) (L : List Value) (base k : Nat), w.heap[b]? = some (.cells ⟨L⟩ t (0, 0)) → base + k + vs.length ≤ L.length → (∀ v ∈ vs, v.oneCell' = true) →
    (storeCells ⟨b, base, none⟩ vs k).run P w = .ok () (setBlk w b (layC L (base + k) vs) t)
  | [], w, L, base, k, h, _, _ => by simp [storeCells, layC, setBlk_same h]
  | v :: vs, w, L, base, k, h, hl, hv => by
    simp only [List.length_cons] at hl
    have h1 := run_store_one (P := P) h (off := base + k) (by omega) (hv v (by simp))
    have h2 := run_storeCells vs (setBlk w b (L.set (base + k) v) t) (L.set (base + k) v) base (k + 1) (setBlk_at h) (by simp; omega) (fun u hu => hv u (List.mem_cons_of_mem _ hu))
    simp only [storeCells, Sem.run_bind, addr_add, h1, Result.andThen_ok, h2, layC]
    simp [setBlk, Nat.add_assoc]

theorem layC_get : ∀ (vs : List Value) (L : List Value) (off j : Nat), off + vs.length ≤ L.length → (layC L off vs)[j]? = if off ≤ j ∧ j < off + vs.length then vs[j - off]? else L[j]?
  | [], L, off, j, _ => by
    simp only [layC, List.length_nil, Nat.add_zero]
    rw [if_neg (by omega)]
  | v :: vs, L, off, j, h => by
    simp only [List.length_cons] at h
    simp only [layC]
    rw [layC_get vs (L.set off v) (off + 1) j (by simp; omega)]
    by_cases h1 : off + 1 ≤ j ∧ j < off + 1 + vs.length
    · rw [if_pos h1, if_pos ⟨by omega, by simp; omega⟩]
      rw [show j - off = (j - (off + 1)) + 1 by omega]; simp
    · rw [if_neg h1]
      by_cases h2 : j = off
      · subst h2
        rw [if_pos ⟨Nat.le_refl _, by simp⟩, Nat.sub_self, List.getElem?_cons_zero, List.getElem?_set_self (by omega)]
      · rw [if_neg (by simp; omega), List.getElem?_set_ne (by omega)]

/-- cells behind a store into them -/
theorem CellsAt.lay {w : World} {b base k : Nat} {L cvs vs : List Value} {t : TypeId} (h : w.heap[b]? = some (.cells ⟨L⟩ t (0, 0))) (hc : CellsAt w b base cvs) (hl : base + k + vs.length ≤ L.length) (hk : k + vs.length ≤ cvs.length) :
    CellsAt (setBlk w b (layC L (base + k) vs) t) b base (layC cvs k vs) := fun j c hj => by
  rw [layC_get vs cvs k j hk] at hj
  simp only [World.cell?, setBlk_at h, Option.isSome_none, Bool.false_eq_true, if_false]
  have e : (⟨layC L (base + k) vs⟩ : Array Value)[base + j]? = (layC L (base + k) vs)[base + j]? := by simp
  rw [e, layC_get vs L (base + k) (base + j) hl]
  by_cases h1 : k ≤ j ∧ j < k + vs.length
  · rw [if_pos h1] at hj
    rw [if_pos ⟨by omega, by omega⟩, ← hj]; congr 1; omega
  · rw [if_neg h1] at hj
    rw [if_neg (by omega)]
    have := hc j c hj
    simpa [World.cell?, h] using this
end
end Go.Vc

namespace Go.Vc
open Go.RowKit
section
variable {P : Program} {e : Env} {σ : St} {x : Cx} {a : Act} {o : Oper}

theorem frClip_none : ∀ l : List (Nat × AV), frClip (fun _ => false) l = l
  | [] => rfl
  | (k, v) :: r => by simp only [frClip, clip_none, frClip_none r]
theorem rowClip_none (r : Row) : r.clip (fun _ => false) = r := by
  cases r <;> simp only [Row.clip, clips_none, Bool.false_eq_true, if_false]
theorem stClip_none : ∀ l : List (Nat × Row), stClip (fun _ => false) l = l
  | [] => rfl
  | (k, v) :: r => by simp only [stClip, rowClip_none, stClip_none r]

/-- A ROW IS LAID ANEW WHERE IT LIES: its own block alone has turned. -/
theorem SRel.write (h : SRel e σ x a) {r : Nat} {row row' : Row} (hm : (r, row) ∈ σ.st) (hok : (x.ρ r).ok = true) {w' : World} (hsize : w'.heap.size = x.w.heap.size) (hos : w'.os = x.w.os) (htape : w'.tape = x.w.tape)
    (hout : w'.output = x.w.output) (hdr : x.w.drawn ≤ w'.drawn) (hfar : ∀ b, b ≠ (x.ρ r).blk → w'.heap[b]? = x.w.heap[b]?) (hrow : row'.rel ⟨w', x.F, x.ρ⟩ (x.ρ r)) : SRel e ⟨σ.fr, (r, row') :: stDel σ.st r⟩ ⟨w', x.F, x.ρ⟩ a := by
  have := SRel.turn (y := ⟨w', x.F, x.ρ⟩) h r row' (fun _ => false) (Nat.le_of_eq hsize.symm) hos htape hout hdr (fun b _ hb => hfar b (hb row hm hok)) (fun _ _ => rfl) (fun _ h => by cases h) (fun _ _ => rfl)
    (fun _ => .inr ⟨⟨row, hm⟩, hok, rfl⟩) (fun b => ?_) hrow (.inr rfl)
  · simpa only [frClip_none, stClip_none] using this
  · rw [h.F b, stClip_none]
    constructor
    · rintro (h0 | ⟨q, rw', h1, h2, h3⟩)
      · exact .inl h0
      · by_cases hq : q = r
        · subst hq; exact .inr ⟨q, row', by simp, h2, h3⟩
        · refine .inr ⟨q, rw', List.mem_cons_of_mem _ ?_, h2, h3⟩
          have : ∀ {l : List (Nat × Row)}, (q, rw') ∈ l → (q, rw') ∈ stDel l r := by
            intro l
            induction l with
            | nil => intro h; cases h
            | cons u l ih =>
              intro hm
              obtain ⟨k, v⟩ := u
              simp only [stDel]
              rcases List.mem_cons.1 hm with hm | hm
              · injection hm with h4 h5; subst h4; subst h5; rw [if_neg hq]; simp
              · by_cases hk : k = r
                · rw [if_pos hk]; exact ih hm
                · rw [if_neg hk]; exact List.mem_cons_of_mem _ (ih hm)
          exact this h1
    · rintro (h0 | ⟨q, rw', h1, h2, h3⟩)
      · exact .inl h0
      · rcases List.mem_cons.1 h1 with h1 | h1
        · injection h1 with h4 _; subst h4; exact .inr ⟨q, row, hm, h2, h3⟩
        · exact .inr ⟨q, rw', (stDel_mem h1).1, h2, h3⟩

theorem write_kept (h : SRel e σ x a) {r : Nat} {row : Row} (hm : (r, row) ∈ σ.st) (hok : (x.ρ r).ok = true) {w' : World} (hsize : w'.heap.size = x.w.heap.size) (hfar : ∀ b, b ≠ (x.ρ r).blk → w'.heap[b]? = x.w.heap[b]?) :
    Kept x ⟨w', x.F, x.ρ⟩ := ⟨Nat.le_of_eq hsize.symm, fun b hb _ => hfar b fun hbe => hb ((h.F b).2 (.inr ⟨r, row, hm, hok, hbe.symm⟩)), fun _ _ h => h⟩

def AV.allOne : List AV → Bool
  | [] => true
  | v :: vs => v.one && AV.allOne vs
theorem allOne_rel : ∀ {vs : List AV} {cvs : List Value}, VRels x vs cvs → AV.allOne vs = true → ∀ c ∈ cvs, c.oneCell' = true
  | [], _, h, _, c, hc => by simp only [VRels] at h; subst h; cases hc
  | v :: vs, _, h, ho, c, hc => by
    simp only [VRels] at h
    obtain ⟨u, r, rfl, h1, h2⟩ := h
    simp only [AV.allOne, Bool.and_eq_true] at ho
    rcases List.mem_cons.1 hc with rfl | hc
    · exact AV.one_rel h1 ho.1
    · exact allOne_rel h2 ho.2 c hc

theorem run_storeAt {w : World} {t : TypeId} {i : TypeInfo} (hi : P.info? t = some i) {b off : Nat} {v : Value} (hn : v.cells.size = i.size) {L : List Value} {et : TypeId} (h : w.heap[b]? = some (.cells ⟨L⟩ et (0, 0)))
    (hl : off + i.size ≤ L.length) (h1 : ∀ c ∈ v.cells.toList, c.oneCell' = true) : (Instr.storeAt t (.pointer (some ⟨b, off, none⟩)) v).run P w = .ok () (setBlk w b (layC L off v.cells.toList) et) := by
  have := run_storeCells (P := P) v.cells.toList w L off 0 h (by simp [hn]; omega) h1
  simp only [Nat.add_zero] at this
  simp [Instr.storeAt, Instr.sureAddr, storeVar, sizeOf, typeInfo, hi, hn, this]

theorem l_st_box (h : SRel e σ x a) (hdst : o.dst = none) {t : TypeId} {yp yv : Operand} (ho : o.op = .store t yp yv) {i : TypeInfo} (hi : P.info? t = some i) {r off : Nat} {v : AV} (hp : VRel x (.ptr r off) (a.eval yp)) (hv : VRel x v (a.eval yv))
    {cs : List AV} (hr : stGet σ.st r = some (.box cs)) (hok : okc v = true) (hn : v.cells.length = i.size) (hone : AV.allOne v.cells = true) (hl : off + i.size ≤ cs.length) {K : St → Prop}
    (hK : K ⟨σ.fr, (r, .box (lay cs off v.cells)) :: stDel σ.st r⟩) : ∀ Q, o.wp P a x.w (fun a' w' => ∃ σ' y, SRel e σ' y a' ∧ y.w = w' ∧ K σ') Q := by
  intro Q
  have hm := stGet_mem hr
  have hrow := h.st r _ hm
  simp only [Row.rel] at hrow
  obtain ⟨hlok, ⟨arr, et, hh, harr⟩, hcells⟩ := hrow
  simp only [VRel] at hp
  have hcr := cells_rel hv hok
  have hcn : (a.eval yv).cells.size = i.size := by have := hcr.length; rw [hn] at this; simpa using this
  have hone' := allOne_rel hcr hone
  obtain ⟨L⟩ := arr
  have hrun := run_storeAt (P := P) (w := x.w) hi hcn hh (off := (x.ρ r).base + off) (by simp at harr; omega) hone'
  unfold Oper.wp
  simp only [execOp, ho, hp]
  simp only [Sem.run_bind, hrun, Result.andThen_ok, Sem.run_pure, Oper.upon, hdst, Act.put]
  have hsz := setBlk_size x.w (x.ρ r).blk (layC L ((x.ρ r).base + off) (a.eval yv).cells.toList) et
  have hfar : ∀ b, b ≠ (x.ρ r).blk → (setBlk x.w (x.ρ r).blk (layC L ((x.ρ r).base + off) (a.eval yv).cells.toList) et).heap[b]? = x.w.heap[b]? := fun b hb => setBlk_far hb
  have kept := write_kept h hm hlok hsz hfar
  refine ⟨_, _, h.write hm hlok hsz rfl rfl rfl (Nat.le_refl _) hfar ?_, rfl, hK⟩
  simp only [Row.rel]
  obtain ⟨cvs, hc1, hc2⟩ := hcells.list
  refine ⟨hlok, ⟨_, et, setBlk_at hh, by simp [layC_length, lay_length]; simpa using harr⟩, ACells.of (lay_rel (hcr.kept kept rfl) (hc1.kept kept rfl)) ?_⟩
  have hcl := hc1.length
  refine CellsAt.lay hh hc2 ?_ ?_
  · simp at harr; simp [hcn]; omega
  · simp [hcn]; omega

theorem l_st_bxs (h : SRel e σ x a) (hdst : o.dst = none) {t : TypeId} {yp yv : Operand} (ho : o.op = .store t yp yv) {i : TypeInfo} (hi : P.info? t = some i) {r off : Nat} {v : AV} (hp : VRel x (.rptr r off 0) (a.eval yp)) (hv : VRel x v (a.eval yv))
    {cs : List AV} (hr : stGet σ.st r = some (.bxs cs)) (hok : okc v = true) (hn : v.cells.length = i.size) (hn1 : i.size = 1) (hone : AV.allOne v.cells = true) (hl : off < cs.length) {K : St → Prop}
    (hK : K ⟨σ.fr, (r, .bxs (lay cs off v.cells)) :: stDel σ.st r⟩) : ∀ Q, o.wp P a x.w (fun a' w' => ∃ σ' y, SRel e σ' y a' ∧ y.w = w' ∧ K σ') Q := by
  intro Q
  have hm := stGet_mem hr
  have hrow := h.st r _ hm
  simp only [Row.rel] at hrow
  obtain ⟨hlok, ⟨hs, hln, hcap⟩, ⟨arr, et, hh, harr⟩, hcells⟩ := hrow
  simp only [VRel, hs, Nat.mul_one, Nat.add_zero] at hp
  have hcr := cells_rel hv hok
  have hcn : (a.eval yv).cells.size = i.size := by have := hcr.length; rw [hn] at this; simpa using this
  have hone' := allOne_rel hcr hone
  obtain ⟨L⟩ := arr
  have hrun := run_storeAt (P := P) (w := x.w) hi hcn hh (off := (x.ρ r).base + off) (by simp at harr; omega) hone'
  unfold Oper.wp
  simp only [execOp, ho, hp]
  simp only [Sem.run_bind, hrun, Result.andThen_ok, Sem.run_pure, Oper.upon, hdst, Act.put]
  have hsz := setBlk_size x.w (x.ρ r).blk (layC L ((x.ρ r).base + off) (a.eval yv).cells.toList) et
  have hfar : ∀ b, b ≠ (x.ρ r).blk → (setBlk x.w (x.ρ r).blk (layC L ((x.ρ r).base + off) (a.eval yv).cells.toList) et).heap[b]? = x.w.heap[b]? := fun b hb => setBlk_far hb
  have kept := write_kept h hm hlok hsz hfar
  refine ⟨_, _, h.write hm hlok hsz rfl rfl rfl (Nat.le_refl _) hfar ?_, rfl, hK⟩
  simp only [Row.rel]
  obtain ⟨cvs, hc1, hc2⟩ := hcells.list
  refine ⟨hlok, ⟨hs, by rw [lay_length]; exact hln, by rw [lay_length]; exact hcap⟩, ⟨_, et, setBlk_at hh, by simp [layC_length, lay_length]; simpa using harr⟩, ACells.of (lay_rel (hcr.kept kept rfl) (hc1.kept kept rfl)) ?_⟩
  have hcl := hc1.length
  refine CellsAt.lay hh hc2 ?_ ?_
  · simp at harr; simp [hcn]; omega
  · simp [hcn]; omega

/-! ### the cells of a list of elements, one behind the other -/
def flat : List PV → List PV
  | [] => []
  | p :: ps => p.cells ++ flat ps
theorem PElems.cons_iff {w : World} {F : Nat → Prop} {p : PV} {ps : List PV} {b o' : Nat} : PElems w F (p :: ps) b o' ↔ PCells w F p.cells b o' ∧ PElems w F ps b (o' + p.cells.length) := by
  cases p <;> simp [PElems, PV.cells, PCells]
theorem PCells.append_iff {w : World} {F : Nat → Prop} : ∀ {u v : List PV} {b o' : Nat}, PCells w F (u ++ v) b o' ↔ PCells w F u b o' ∧ PCells w F v b (o' + u.length)
  | [], v, b, o' => by simp [PCells]
  | c :: u, v, b, o' => by
    simp only [List.cons_append, PCells, PCells.append_iff (u := u), List.length_cons, and_assoc]
    rw [show o' + 1 + u.length = o' + (u.length + 1) by omega]
theorem PElems.flat_iff {w : World} {F : Nat → Prop} : ∀ {ps : List PV} {b o' : Nat}, PElems w F ps b o' ↔ PCells w F (flat ps) b o'
  | [], b, o' => by simp [PElems, flat, PCells]
  | p :: ps, b, o' => by rw [PElems.cons_iff, flat, PCells.append_iff, PElems.flat_iff]
theorem PCells.list {w : World} {F : Nat → Prop} {cs : List PV} {b o' : Nat} (h : PCells w F cs b o') : ∃ vs, PRels w F cs vs ∧ CellsAt w b o' vs := by
  obtain ⟨vs, _, h2, h3⟩ := h.cut 0 cs.length (by omega)
  exact ⟨vs, by simpa using h2, by simpa using h3⟩
theorem flat_length {s : Nat} : ∀ {ps : List PV}, WfL s ps → (flat ps).length = ps.length * s
  | [], _ => by simp [flat]
  | p :: ps, h => by
    simp only [flat, List.length_append, (h p (by simp)).1, flat_length (fun q hq => h q (List.mem_cons_of_mem _ hq)), List.length_cons, Nat.succ_mul]; omega

def layP (cs : List PV) (off : Nat) : List PV → List PV
  | [] => cs
  | v :: vs => layP (cs.set off v) (off + 1) vs
theorem PRels.set {w : World} {F : Nat → Prop} : ∀ {vs : List PV} {cs : List Value} {i : Nat} {v : PV} {c : Value}, PRels w F vs cs → PRel w F v c → PRels w F (vs.set i v) (cs.set i c)
  | [], _, _, _, _, h, _ => by simp only [PRels] at h; subst h; simp [PRels]
  | u :: vs, _, 0, v, c, h, hv => by
    simp only [PRels] at h
    obtain ⟨v', r, rfl, h1, h2⟩ := h
    simp only [List.set_cons_zero, PRels]
    exact ⟨c, r, rfl, hv, h2⟩
  | u :: vs, _, i + 1, v, c, h, hv => by
    simp only [PRels] at h
    obtain ⟨v', r, rfl, h1, h2⟩ := h
    simp only [List.set_cons_succ, PRels]
    exact ⟨v', r.set i c, rfl, h1, h2.set hv⟩
theorem layP_rel {w : World} {F : Nat → Prop} : ∀ {vs : List PV} {vvs : List Value} {cs : List PV} {cvs : List Value} {off : Nat}, PRels w F vs vvs → PRels w F cs cvs → PRels w F (layP cs off vs) (layC cvs off vvs)
  | [], _, _, _, _, h, hc => by simp only [PRels] at h; subst h; exact hc
  | v :: vs, _, cs, cvs, off, h, hc => by
    simp only [PRels] at h
    obtain ⟨c, r, rfl, h1, h2⟩ := h
    simp only [layP, layC]
    exact layP_rel h2 (hc.set h1)
theorem layP_length : ∀ (vs : List PV) (cs : List PV) (off : Nat), (layP cs off vs).length = cs.length
  | [], _, _ => rfl
  | v :: vs, cs, off => by simp only [layP, layP_length vs]; simp
theorem layP_one : ∀ (vs : List PV) (cs : List PV) (off : Nat), (∀ c ∈ cs, c.one = true) → (∀ c ∈ vs, c.one = true) → ∀ c ∈ layP cs off vs, c.one = true
  | [], _, _, h, _ => h
  | v :: vs, cs, off, h, h' => layP_one vs _ _ (fun c hc => by
      rcases List.mem_or_eq_of_mem_set hc with h1 | h1
      · exact h c h1
      · subst h1; exact h' c (by simp)) (fun c hc => h' c (List.mem_cons_of_mem _ hc))
theorem layP_append : ∀ (vs u v : List PV) (off : Nat), u.length ≤ off → layP (u ++ v) off vs = u ++ layP v (off - u.length) vs
  | [], _, _, _, _ => rfl
  | c :: vs, u, v, off, h => by
    simp only [layP]
    rw [List.set_append_right _ _ h, layP_append vs u _ (off + 1) (by omega)]
    rw [show off + 1 - u.length = off - u.length + 1 by omega]
theorem layP_append_left : ∀ (vs u v : List PV) (off : Nat), off + vs.length ≤ u.length → layP (u ++ v) off vs = layP u off vs ++ v
  | [], _, _, _, _ => rfl
  | c :: vs, u, v, off, h => by
    simp only [List.length_cons] at h
    simp only [layP]
    rw [List.set_append_left _ _ (by omega), layP_append_left vs _ v (off + 1) (by simp; omega)]

/-- an element with some of its cells laid anew -/
def setElem (p : PV) (off : Nat) (ps : List PV) : PV := match p with
  | .agg cs => .agg (layP cs off ps)
  | q => ps.getD 0 q
theorem setElem_cells {p : PV} {off : Nat} {ps : List PV} (h : off + ps.length ≤ p.cells.length) (hp : 0 < ps.length) (h1 : ∀ c ∈ ps, c.one = true) : (setElem p off ps).cells = layP p.cells off ps := by
  cases p with
  | agg cs => rfl
  | _ =>
    simp only [PV.cells, List.length_cons, List.length_nil] at h
    match ps, hp, h with
    | [q], _, h =>
      simp only [List.length_cons, List.length_nil] at h
      obtain rfl : off = 0 := by omega
      have hq := h1 q (by simp)
      simp only [setElem, List.getD_cons_zero, layP, PV.cells, List.set_cons_zero]
      cases q <;> simp [PV.one] at hq <;> rfl

theorem flat_set {s off : Nat} {ps : List PV} : ∀ {xs : List PV} {i : Nat}, WfL s xs → i < xs.length → off + ps.length ≤ s → 0 < ps.length → (∀ c ∈ ps, c.one = true) →
    flat (xs.set i (setElem (xs.getD i default) off ps)) = layP (flat xs) (i * s + off) ps
  | [], i, _, hi, _, _, _ => by simp at hi
  | p :: xs, 0, hw, _, hl, hp, h1 => by
    have h0 := (hw p (by simp)).1
    simp only [List.getD_cons_zero, List.set_cons_zero, flat, Nat.zero_mul, Nat.zero_add]
    rw [setElem_cells (by rw [h0]; exact hl) hp h1, layP_append_left _ _ _ _ (by rw [h0]; exact hl)]
  | p :: xs, i + 1, hw, hi, hl, hp, h1 => by
    have h0 := (hw p (by simp)).1
    simp only [List.getD_cons_succ, List.set_cons_succ, flat]
    rw [flat_set (s := s) (fun q hq => hw q (List.mem_cons_of_mem _ hq)) (by simpa using hi) hl hp h1, layP_append _ _ _ _ (by rw [h0, Nat.succ_mul]; omega)]
    rw [show (i + 1) * s + off - p.cells.length = i * s + off by rw [h0, Nat.succ_mul]; omega]
theorem wfl_set {s off : Nat} {ps : List PV} {xs : List PV} {i : Nat} (hw : WfL s xs) (hi : i < xs.length) (hl : off + ps.length ≤ s) (hp : 0 < ps.length) (h1 : ∀ c ∈ ps, c.one = true) :
    WfL s (xs.set i (setElem (xs.getD i default) off ps)) := fun q hq => by
  rcases List.mem_or_eq_of_mem_set hq with h | h
  · exact hw q h
  · have hm : xs.getD i default ∈ xs := by simp [List.getD_eq_getElem?_getD, hi]
    have h0 := hw _ hm
    subst h
    have e := setElem_cells (p := xs.getD i default) (off := off) (ps := ps) (by rw [h0.1]; exact hl) hp h1
    rw [e]
    exact ⟨by rw [layP_length]; exact h0.1, layP_one _ _ _ h0.2 h1⟩

theorem l_st_sl (h : SRel e σ x a) (hdst : o.dst = none) {t : TypeId} {yp yv : Operand} (ho : o.op = .store t yp yv) {i : TypeInfo} (hi : P.info? t = some i) {r k off : Nat} {v : AV} (hp : VRel x (.rptr r k off) (a.eval yp)) (hv : VRel x v (a.eval yv))
    {s : Nat} {xs : List PV} (hr : stGet σ.st r = some (.sl s xs)) (hok : okc v = true) (hn : v.cells.length = i.size) (hpos : 0 < i.size) {ps : List PV} (hps : allPv v.cells = some ps) (hone : ∀ c ∈ ps, c.one = true) (hk : k < xs.length)
    (hl : off + i.size ≤ s) {K : St → Prop}
    (hK : K ⟨σ.fr, (r, .sl s (xs.set k (setElem (xs.getD k default) off ps))) :: stDel σ.st r⟩) : ∀ Q, o.wp P a x.w (fun a' w' => ∃ σ' y, SRel e σ' y a' ∧ y.w = w' ∧ K σ') Q := by
  intro Q
  have hm := stGet_mem hr
  have hrow := h.st r _ hm
  simp only [Row.rel] at hrow
  rcases hrow with ⟨_, hx⟩ | ⟨hls, hlok, ⟨hln, hcap⟩, hwf, ⟨arr, et, hh, harr, hao⟩, hcells⟩
  · subst hx; simp at hk
  simp only [VRel] at hp
  have hcr := cells_rel hv hok
  have hpr := allPv_rel hps hcr
  have hcn : (a.eval yv).cells.size = i.size := by have := hcr.length; rw [hn] at this; simpa using this
  have hpl : ps.length = i.size := by have := hpr.length; simp only [Array.length_toList] at this; omega
  have hone' : ∀ c ∈ (a.eval yv).cells.toList, c.oneCell' = true := by
    have : ∀ {ps : List PV} {vs : List Value}, PRels x.w x.F ps vs → (∀ c ∈ ps, c.one = true) → ∀ c ∈ vs, c.oneCell' = true := by
      intro ps
      induction ps with
      | nil => intro vs h _ c hc; simp only [PRels] at h; subst h; cases hc
      | cons p ps ih =>
        intro vs h h1 c hc
        simp only [PRels] at h
        obtain ⟨u, r, rfl, h2, h3⟩ := h
        rcases List.mem_cons.1 hc with rfl | hc
        · exact PV.one_rel h2 (h1 p (by simp))
        · exact ih h3 (fun q hq => h1 q (List.mem_cons_of_mem _ hq)) c hc
    exact this hpr hone
  obtain ⟨L⟩ := arr
  have hks : (k + 1) * s ≤ xs.length * s := Nat.mul_le_mul_right _ hk
  have hcs : xs.length * s ≤ (x.ρ r).cap * s := Nat.mul_le_mul_right _ hcap
  rw [Nat.succ_mul] at hks
  rw [hls] at harr hp
  have harr' : (x.ρ r).base + (x.ρ r).cap * s ≤ L.length := by simpa using harr
  have hrun := run_storeAt (P := P) (w := x.w) hi hcn hh (off := (x.ρ r).base + k * s + off) (by omega) hone'
  unfold Oper.wp
  simp only [execOp, ho, hp]
  simp only [Sem.run_bind, hrun, Result.andThen_ok, Sem.run_pure, Oper.upon, hdst, Act.put]
  have hsz := setBlk_size x.w (x.ρ r).blk (layC L ((x.ρ r).base + k * s + off) (a.eval yv).cells.toList) et
  have hfar : ∀ b, b ≠ (x.ρ r).blk → (setBlk x.w (x.ρ r).blk (layC L ((x.ρ r).base + k * s + off) (a.eval yv).cells.toList) et).heap[b]? = x.w.heap[b]? := fun b hb => setBlk_far hb
  have kept := write_kept h hm hlok hsz hfar
  refine ⟨_, _, h.write hm hlok hsz rfl rfl rfl (Nat.le_refl _) hfar ?_, rfl, hK⟩
  simp only [Row.rel]
  refine .inr ⟨hls, hlok, ⟨by simpa using hln, by simpa using hcap⟩, wfl_set hwf hk (by omega) (by omega) hone, ⟨_, et, setBlk_at hh, by rw [hls]; simp [layC_length]; simpa using harr, layC_ones _ _ _ hao hone'⟩, ?_⟩
  rw [PElems.flat_iff, flat_set hwf hk (by omega) (by omega) hone]
  rw [PElems.flat_iff] at hcells
  obtain ⟨cvs, hc1, hc2⟩ := hcells.list
  have hcl := hc1.length
  rw [flat_length hwf] at hcl
  have e1 : (x.ρ r).base + k * s + off = (x.ρ r).base + (k * s + off) := by omega
  rw [e1]
  have k1 : PRels (setBlk x.w (x.ρ r).blk (layC L ((x.ρ r).base + (k * s + off)) (a.eval yv).cells.toList) et) x.F ps (a.eval yv).cells.toList := by rw [← e1]; exact PRels.kept kept ps hpr
  have k2 : PRels (setBlk x.w (x.ρ r).blk (layC L ((x.ρ r).base + (k * s + off)) (a.eval yv).cells.toList) et) x.F (flat xs) cvs := by rw [← e1]; exact PRels.kept kept _ hc1
  refine PCells.of (layP_rel k1 k2) (CellsAt.lay hh hc2 ?_ ?_)
  · simp [hcn]; omega
  · simp [hcn]; omega
end
end Go.Vc

namespace Go.Vc
open Go.RowKit
set_option linter.constructorNameAsVariable false
section
variable {P : Program} {e : Env} {σ : St} {x : Cx} {a : Act} {o : Oper}

theorem l_mkm0 (h : SRel e σ x a) (d : Nat) (hd : d < e.n) (hdst : o.dst = some d) (hrun : (execOp a.eval o).run P x.w = .ok (.value (.map (some x.w.heap.size))) (x.w.alloc (.map #[] 0)))
    {K : St → Prop} (hK : K ((σ.newRow d (.mp [])).put d (.mp d))) : LStep P e o a x.w K := by
  intro Q
  refine wp_value hrun ?_
  have hb := below_alloc x.w (.map #[] 0)
  let l : Loc := ⟨x.w.heap.size, 0, 0, 0, true, 0⟩
  have h1 := SRel.fresh h hb d (.mp []) l (fun _ => Nat.le_refl _) ⟨rfl, [], 0, heap_new _ _, rfl, fun i p e hp => by simp at hp, rfl, fun i e he => by simp at he⟩ (by have := h.small; omega)
  rw [hdst]
  refine ⟨_, newCx e σ x (x.w.alloc (.map #[] 0)) d (.mp []) l, h1.put hd (v := .mp d) ?_, rfl, hK, below_agr hb⟩
  simp [VRel, newCx, updρ, l]

theorem l_mkm (h : SRel e σ x a) (d : Nat) (hd : d < e.n) (hdst : o.dst = some d) {t : TypeId} (ho : o.op = .makeMap t none)
    {K : St → Prop} (hK : K ((σ.newRow d (.mp [])).put d (.mp d))) : LStep P e o a x.w K :=
  l_mkm0 h d hd hdst (by simp [execOp, ho, Instr.makeMap, newObj, Sem.run]) hK
theorem l_mkmr (h : SRel e σ x a) (d : Nat) (hd : d < e.n) (hdst : o.dst = some d) {t kt et : TypeId} {y : Operand} (ho : o.op = .makeMap t (some y)) (ht : P.underlying t = some (.map kt et)) {k : IntKind} {n : Int} (hy : a.eval y = .int k n)
    {K : St → Prop} (hK : K ((σ.newRow d (.mp [])).put d (.mp d))) : LStep P e o a x.w K :=
  l_mkm0 h d hd hdst (by simp [execOp, ho, hy, Instr.makeMap, run_underlying ht, asInt, asIntOf, newObj, Sem.run]) hK

def setMp (w : World) (b : Nat) (ents : List MapEntry) (clock : Nat) : World := { w with heap := w.heap.setIfInBounds b (.map ⟨ents⟩ clock) }
theorem run_setMp {w : World} {b : Nat} {es : Array MapEntry} {c : Nat} (h : w.heap[b]? = some (.map es c)) (ents : List MapEntry) (clock : Nat) : (setObj b (.map ⟨ents⟩ clock)).run P w = .ok () (setMp w b ents clock) := by
  simp [setObj, Sem.run, h, setMp]
theorem setMp_at {w : World} {b : Nat} {es : Array MapEntry} {c : Nat} (h : w.heap[b]? = some (.map es c)) (ents : List MapEntry) (clock : Nat) : (setMp w b ents clock).heap[b]? = some (.map ⟨ents⟩ clock) := by
  have := (Array.getElem?_eq_some_iff.1 h).1
  simp [setMp, this]
theorem setMp_far {w : World} {b b' : Nat} (h : b' ≠ b) (ents : List MapEntry) (clock : Nat) : (setMp w b ents clock).heap[b']? = w.heap[b']? := by
  simp only [setMp]
  rw [Array.getElem?_setIfInBounds_ne (Ne.symm h)]

theorem l_mset (h : SRel e σ x a) (hdst : o.dst = none) {t kt et : TypeId} {y z u : Operand} {kk : Kk} (ho : o.op = .mapUpdate t y z u ∨ o.op = .insert t y z u) (ht : P.underlying t = some (.map kt et)) (hkt : kkIs P kt kk)
    {r : Nat} {k v : PV} {es : List (PV × PV)} (hr : stGet σ.st r = some (.mp es)) (hy : VRel x (.mp r) (a.eval y)) (hz : VRel x (.pv k) (a.eval z)) (hu : VRel x (.pv v) (a.eval u)) (h1 : keyIs kk k) (h2 : keysLike kk k es)
    {K : St → Prop} (hK : K ⟨σ.fr, (r, .mp (mput k v es)) :: stDel σ.st r⟩) : ∀ Q, o.wp P a x.w (fun a' w' => ∃ σ' y, SRel e σ' y a' ∧ y.w = w' ∧ K σ') Q := by
  intro Q
  have hm := stGet_mem hr
  have hrow := h.st r _ hm
  simp only [Row.rel] at hrow
  obtain ⟨hok, ents, clock, hh, hlen, hents, hclk, hborn⟩ := hrow
  simp only [VRel] at hy hz hu
  have hop : execOp a.eval o = (do Instr.mapUpdate t (a.eval y) (a.eval z) (a.eval u); pure .skip) := by
    rcases ho with ho | ho <;> simp only [execOp, ho]
  unfold Oper.wp
  rw [hop, hy]
  -- what is left behind
  have fin : ∀ (ents' : List MapEntry) (clock' : Nat), (Instr.mapUpdate t (.map (some (x.ρ r).blk)) (a.eval z) (a.eval u)).run P x.w = .ok () (setMp x.w (x.ρ r).blk ents' clock') → ents'.length = (mput k v es).length →
      (∀ (i : Nat) p e, (mput k v es)[i]? = some p → ents'[i]? = some e → EntryRel x p e) → clock' = ents'.length → (∀ (i : Nat) e, ents'[i]? = some e → e.born = i) →
      Oper.upon P o a (fun a' w' => ∃ σ' y, SRel e σ' y a' ∧ y.w = w' ∧ K σ') Q ((do Instr.mapUpdate t (.map (some (x.ρ r).blk)) (a.eval z) (a.eval u); pure .skip : Sem Next).run P x.w) := by
    intro ents' clock' hrun g1 g2 g3 g4
    simp only [Sem.run_bind, hrun, Result.andThen_ok, Sem.run_pure, Oper.upon, hdst, Act.put]
    have hfar : ∀ b, b ≠ (x.ρ r).blk → (setMp x.w (x.ρ r).blk ents' clock').heap[b]? = x.w.heap[b]? := fun b hb => setMp_far hb _ _
    have hsz : (setMp x.w (x.ρ r).blk ents' clock').heap.size = x.w.heap.size := by simp [setMp]
    have kept := write_kept h hm hok hsz hfar
    refine ⟨_, _, h.write hm hok hsz rfl rfl rfl (Nat.le_refl _) hfar ?_, rfl, hK⟩
    simp only [Row.rel]
    exact ⟨hok, ents', clock', setMp_at hh _ _, g1, fun i p e hp he => ⟨PRel.kept kept _ (g2 i p e hp he).1, PRel.kept kept _ (g2 i p e hp he).2⟩, g3, g4⟩
  obtain ⟨res, hfind, hfound⟩ := findKey_run (P := P) hkt h1 hz es ents hlen hents h2
  cases res with
  | none =>
    obtain ⟨_, f2⟩ := hfound.no rfl
    have f2 := f2 v
    refine fin (ents ++ [{ key := a.eval z, val := a.eval u, born := clock }]) (clock + 1) ?_ ?_ ?_ ?_ ?_
    · have hrun := run_setMp (P := P) hh (ents ++ [{ key := a.eval z, val := a.eval u, born := clock }]) (clock + 1)
      simp only [Instr.mapUpdate, Sem.run_bind, run_underlying ht, Result.andThen_ok, run_getMap hh, run_checkKeyK hkt h1 hz, hfind]
      simpa using hrun
    · rw [f2]; simp [hlen]
    · intro i p e hp he
      rw [f2] at hp
      rcases Nat.lt_or_ge i es.length with hi | hi
      · rw [List.getElem?_append_left hi] at hp
        rw [List.getElem?_append_left (by omega)] at he
        exact hents i p e hp he
      · rw [List.getElem?_append_right hi] at hp
        rw [List.getElem?_append_right (by omega)] at he
        rw [hlen] at he
        cases hj : i - es.length with
        | zero =>
          rw [hj] at hp he
          simp only [List.getElem?_cons_zero, Option.some.injEq] at hp he
          subst hp; subst he
          exact ⟨hz, hu⟩
        | succ n => rw [hj] at hp; simp at hp
    · simp [hclk]
    · intro i e he
      rcases Nat.lt_or_ge i ents.length with hi | hi
      · rw [List.getElem?_append_left hi] at he
        exact hborn i e he
      · rw [List.getElem?_append_right hi] at he
        cases hj : i - ents.length with
        | zero =>
          rw [hj] at he
          simp only [List.getElem?_cons_zero, Option.some.injEq] at he
          subst he
          show clock = i
          omega
        | succ n => rw [hj] at he; simp at he
  | some jv =>
    obtain ⟨j, cv⟩ := jv
    obtain ⟨p, q, en, _, _, f4, f5, f6, f7, f8⟩ := hfound.yes j cv rfl
    have f8 := f8 v
    have hen := hents j _ _ f4 f5
    have hsb := sameBits_key f6 (f7 kk h2) hz hen.1
    have hjl : j < ents.length := (List.getElem?_eq_some_iff.1 f5).1
    refine fin (ents.set j { en with key := a.eval z, val := a.eval u }) clock ?_ ?_ ?_ ?_ ?_
    · have e1 : ((⟨ents⟩ : Array MapEntry).modify j fun e => { e with key := a.eval z, val := a.eval u }) = ⟨ents.set j { en with key := a.eval z, val := a.eval u }⟩ := by
        apply Array.ext'
        simp only [Array.toList_modify]
        apply List.ext_getElem?
        intro i
        rw [List.getElem?_modify, List.getElem?_set]
        by_cases hij : j = i
        · subst hij
          have f5' : ents[j] = en := by simpa [hjl] using f5
          simp [hjl, f5']
        · simp [hij]
      have e2 : (((⟨ents⟩ : Array MapEntry)[j]?).map (·.key)).getD (a.eval z) = en.key := by simp [f5]
      simp only [Instr.mapUpdate, Sem.run_bind, run_underlying ht, Result.andThen_ok, run_getMap hh, run_checkKeyK hkt h1 hz, hfind, e2, Instr.keyThatStays, hsb, if_true, Sem.run_pure, e1]
      exact run_setMp (P := P) hh _ _
    · rw [f8]; simp [hlen]
    · intro i p' e' hp he
      rw [f8, List.getElem?_set] at hp
      rw [List.getElem?_set] at he
      by_cases hij : j = i
      · subst hij
        simp only [if_true, hjl, hlen ▸ hjl, Option.some.injEq] at hp he
        subst hp; subst he
        exact ⟨hz, hu⟩
      · rw [if_neg hij] at hp he
        exact hents i p' e' hp he
    · simp [hclk]
    · intro i e' he
      rw [List.getElem?_set] at he
      by_cases hij : j = i
      · subst hij
        simp only [if_true, hjl, Option.some.injEq] at he
        subst he
        exact hborn j en f5
      · rw [if_neg hij] at he
        exact hborn i e' he

/-! ### maps from which entries are taken away -/
theorem map_write (h : SRel e σ x a) (hdst : o.dst = none) {r : Nat} {es es' : List (Nat × PV × PV)} {ck ck' : Nat} {ents ents' : List MapEntry} (hr : stGet σ.st r = some (.mpd es ck)) (hh : x.w.heap[(x.ρ r).blk]? = some (.map ⟨ents⟩ ck)) {v : Next}
    (hv : v = .skip ∨ ∃ u, v = .value u) (hrun : (execOp a.eval o).run P x.w = .ok v (setMp x.w (x.ρ r).blk ents' ck')) (hl : ents'.length = es'.length)
    (hents : ∀ (i : Nat) p e, es'[i]? = some p → ents'[i]? = some e → EntryRel x p.2 e ∧ e.born = p.1) (hn : (es'.map (·.1)).Nodup) (hb : ∀ p ∈ es', p.1 < ck')
    {K : St → Prop} (hK : K ⟨σ.fr, (r, .mpd es' ck') :: stDel σ.st r⟩) (Q : Exit → Act → World → Prop) : o.wp P a x.w (fun a' w' => ∃ σ' y, SRel e σ' y a' ∧ y.w = w' ∧ K σ') Q := by
  have hm := stGet_mem hr
  have hrow := h.st r _ hm
  simp only [Row.rel] at hrow
  obtain ⟨hok, _⟩ := hrow
  have hfar : ∀ b, b ≠ (x.ρ r).blk → (setMp x.w (x.ρ r).blk ents' ck').heap[b]? = x.w.heap[b]? := fun b hb => setMp_far hb _ _
  have hsz : (setMp x.w (x.ρ r).blk ents' ck').heap.size = x.w.heap.size := by simp [setMp]
  have kept := write_kept h hm hok hsz hfar
  have fin : ∃ σ' y, SRel e σ' y a ∧ y.w = setMp x.w (x.ρ r).blk ents' ck' ∧ K σ' := by
    refine ⟨_, _, h.write hm hok (row' := .mpd es' ck') hsz rfl rfl rfl (Nat.le_refl _) hfar ?_, rfl, hK⟩
    simp only [Row.rel]
    exact ⟨hok, ents', setMp_at hh _ _, hl, fun i p e hp he => ⟨⟨PRel.kept kept _ (hents i p e hp he).1.1, PRel.kept kept _ (hents i p e hp he).1.2⟩, (hents i p e hp he).2⟩, hn, hb⟩
  unfold Oper.wp
  rw [hrun]
  rcases hv with rfl | ⟨u, rfl⟩
  · simpa only [Oper.upon, hdst, Act.put] using fin
  · simpa only [Oper.upon, hdst, Act.put] using fin
theorem l_msetD (h : SRel e σ x a) (hdst : o.dst = none) {t kt et : TypeId} {y z u : Operand} {kk : Kk} (ho : o.op = .mapUpdate t y z u ∨ o.op = .insert t y z u) (ht : P.underlying t = some (.map kt et)) (hkt : kkIs P kt kk)
    {r : Nat} {k v : PV} {es : List (Nat × PV × PV)} {ck : Nat} (hr : stGet σ.st r = some (.mpd es ck)) (hy : VRel x (.mp r) (a.eval y)) (hz : VRel x (.pv k) (a.eval z)) (hu : VRel x (.pv v) (a.eval u)) (h1 : keyIs kk k) (h2 : keysLike kk k (esD es))
    {K : St → Prop} (hK : K ⟨σ.fr, (r, .mpd (mputD k v ck es) (clkD k es ck)) :: stDel σ.st r⟩) : ∀ Q, o.wp P a x.w (fun a' w' => ∃ σ' y, SRel e σ' y a' ∧ y.w = w' ∧ K σ') Q := by
  intro Q
  have hrow := h.st r _ (stGet_mem hr)
  simp only [Row.rel] at hrow
  obtain ⟨hok, ents, hh, hlen, hents, hbn, hbl⟩ := hrow
  simp only [VRel] at hy hz hu
  have hop : execOp a.eval o = (do Instr.mapUpdate t (a.eval y) (a.eval z) (a.eval u); pure .skip) := by
    rcases ho with ho | ho <;> simp only [execOp, ho]
  rw [hy] at hop
  obtain ⟨res, hfind, hfound⟩ := findKey_run (P := P) hkt h1 hz (esD es) ents (by rw [esD_len]; exact hlen) (esD_rel hents) h2
  have e2s := mputD_snd (k := k) (v := v) (c := ck) es
  have e1s := mputD_fst (k := k) (v := v) (c := ck) es
  have at_ : ∀ (i : Nat) (p : Nat × PV × PV), (mputD k v ck es)[i]? = some p → (mput k v (esD es))[i]? = some p.2 ∧ ((mputD k v ck es).map (·.1))[i]? = some p.1 := fun i p hp => by
    rw [← e2s]
    unfold esD
    simp [List.getElem?_map, hp]
  cases res with
  | none =>
    obtain ⟨f1, f2⟩ := hfound.no rfl
    have f2 := f2 v
    rw [f2] at at_ e2s
    rw [if_pos f1] at e1s
    rw [e1s] at at_
    have hck : clkD k es ck = ck + 1 := by unfold clkD; rw [f1]
    rw [hck] at hK
    have hlen2 : (mputD k v ck es).length = es.length + 1 := by have := congrArg List.length e1s; simpa using this
    refine map_write h hdst hr hh (ents' := ents ++ [{ key := a.eval z, val := a.eval u, born := ck }]) (.inl rfl) ?_ (by rw [hlen2]; simp [hlen]) ?_ ?_ ?_ hK Q
    · have hrun := run_setMp (P := P) hh (ents ++ [{ key := a.eval z, val := a.eval u, born := ck }]) (ck + 1)
      rw [hop]
      simp only [Instr.mapUpdate, Sem.run_bind, run_underlying ht, Result.andThen_ok, run_getMap hh, run_checkKeyK hkt h1 hz, hfind]
      have : (setObj (x.ρ r).blk (.map ((⟨ents⟩ : Array MapEntry).push { key := a.eval z, val := a.eval u, born := ck }) (ck + 1))).run P x.w = .ok () (setMp x.w (x.ρ r).blk (ents ++ [{ key := a.eval z, val := a.eval u, born := ck }]) (ck + 1)) := by simpa using hrun
      simp only [this, Result.andThen_ok, Sem.run_pure]
    · intro i p e hp he
      obtain ⟨g1, g2⟩ := at_ i p hp
      rcases Nat.lt_or_ge i es.length with hi | hi
      · rw [List.getElem?_append_left (by rw [esD_len]; exact hi)] at g1
        rw [List.getElem?_append_left (by simpa using hi)] at g2
        rw [List.getElem?_append_left (by omega)] at he
        have hq : es[i]? = some es[i] := List.getElem?_eq_getElem hi
        simp only [esD, List.getElem?_map, hq, Option.map_some, Option.some.injEq] at g1 g2
        have := hents i es[i] e hq he
        rw [g1, g2] at this
        exact this
      · rw [List.getElem?_append_right (by rw [esD_len]; exact hi), esD_len] at g1
        rw [List.getElem?_append_right (by simpa using hi), List.length_map] at g2
        rw [List.getElem?_append_right (by omega), hlen] at he
        cases hj : i - es.length with
        | zero =>
          rw [hj] at g1 g2 he
          simp only [List.getElem?_cons_zero, Option.some.injEq] at g1 g2 he
          rw [← g1, ← g2, ← he]
          exact ⟨⟨hz, hu⟩, rfl⟩
        | succ n => rw [hj] at g1; simp at g1
    · rw [e1s]
      refine List.nodup_append.2 ⟨hbn, by simp, fun q hq b hb => ?_⟩
      rw [List.mem_singleton] at hb
      subst hb
      obtain ⟨p, hp, rfl⟩ := List.mem_map.1 hq
      have := hbl p hp
      omega
    · intro p hp
      have : p.1 ∈ es.map (·.1) ++ [ck] := by rw [← e1s]; exact List.mem_map_of_mem hp
      rcases List.mem_append.1 this with hq | hq
      · obtain ⟨q, hq, he⟩ := List.mem_map.1 hq
        have := hbl q hq
        omega
      · rw [List.mem_singleton] at hq; omega
  | some jv =>
    obtain ⟨j, cv⟩ := jv
    obtain ⟨p, q, en, f1, _, f4, f5, f6, f7, f8⟩ := hfound.yes j cv rfl
    have f8 := f8 v
    rw [f8] at at_ e2s
    rw [if_neg (by rw [f1]; simp)] at e1s
    rw [e1s] at at_
    have hck : clkD k es ck = ck := by unfold clkD; rw [f1]
    rw [hck] at hK
    have hen := esD_rel hents j _ _ f4 f5
    have hsb := sameBits_key f6 (f7 kk h2) hz hen.1
    have hjl : j < ents.length := (List.getElem?_eq_some_iff.1 f5).1
    have hlen2 : (mputD k v ck es).length = es.length := by have := congrArg List.length e1s; simpa using this
    refine map_write h hdst hr hh (ents' := ents.set j { en with key := a.eval z, val := a.eval u }) (.inl rfl) ?_ (by rw [hlen2]; simp [hlen]) ?_ (by rw [e1s]; exact hbn) ?_ hK Q
    · have e1 : ((⟨ents⟩ : Array MapEntry).modify j fun e => { e with key := a.eval z, val := a.eval u }) = ⟨ents.set j { en with key := a.eval z, val := a.eval u }⟩ := by
        apply Array.ext'
        simp only [Array.toList_modify]
        apply List.ext_getElem?
        intro i
        rw [List.getElem?_modify, List.getElem?_set]
        by_cases hij : j = i
        · subst hij
          have f5' : ents[j] = en := by simpa [hjl] using f5
          simp [hjl, f5']
        · simp [hij]
      have e2 : (((⟨ents⟩ : Array MapEntry)[j]?).map (·.key)).getD (a.eval z) = en.key := by simp [f5]
      rw [hop]
      simp only [Instr.mapUpdate, Sem.run_bind, run_underlying ht, Result.andThen_ok, run_getMap hh, run_checkKeyK hkt h1 hz, hfind, e2, Instr.keyThatStays, hsb, if_true, Sem.run_pure, e1, run_setMp (P := P) hh]
    · intro i p' e' hp he
      obtain ⟨g1, g2⟩ := at_ i p' hp
      have hil : i < es.length := by rw [← hlen2]; exact (List.getElem?_eq_some_iff.1 hp).1
      have hq : es[i]? = some es[i] := List.getElem?_eq_getElem hil
      simp only [List.getElem?_map, hq, Option.map_some, Option.some.injEq] at g2
      rw [List.getElem?_set] at g1 he
      by_cases hij : j = i
      · subst hij
        simp only [if_true, hjl, esD_len, hil, Option.some.injEq] at g1 he
        have hb := (hents j es[j] en hq f5).2
        rw [← g1, ← he]
        exact ⟨⟨hz, hu⟩, by rw [← g2]; exact hb⟩
      · rw [if_neg hij] at g1 he
        simp only [esD, List.getElem?_map, hq, Option.map_some, Option.some.injEq] at g1
        have := hents i es[i] e' hq he
        rw [g1, g2] at this
        exact this
    · intro p' hp'
      have : p'.1 ∈ es.map (·.1) := by rw [← e1s]; exact List.mem_map_of_mem hp'
      obtain ⟨q', hq', he'⟩ := List.mem_map.1 this
      rw [← he']
      exact hbl q' hq'
theorem l_mdel (h : SRel e σ x a) (hdst : o.dst = none) {t t2 kt et : TypeId} {y z : Operand} {kk : Kk} (ho : o.op = .call { callee := .builtin .delete, args := #[y, z], argTypes := #[t, t2] }) (ht : P.underlying t = some (.map kt et)) (hkt : kkIs P kt kk)
    {r : Nat} {k : PV} {es : List (Nat × PV × PV)} {ck : Nat} (hr : stGet σ.st r = some (.mpd es ck)) (hy : VRel x (.mp r) (a.eval y)) (hz : VRel x (.pv k) (a.eval z)) (h1 : keyIs kk k) (h2 : keysLike kk k (esD es))
    {K : St → Prop} (hK : K ⟨σ.fr, (r, .mpd (mdelD k es) ck) :: stDel σ.st r⟩) : ∀ Q, o.wp P a x.w (fun a' w' => ∃ σ' y, SRel e σ' y a' ∧ y.w = w' ∧ K σ') Q := by
  intro Q
  have hrow := h.st r _ (stGet_mem hr)
  simp only [Row.rel] at hrow
  obtain ⟨hok, ents, hh, hlen, hents, hbn, hbl⟩ := hrow
  simp only [VRel] at hy hz
  have hexec : ∀ {w' : World} {v : Value}, (Builtin.delete_ #[t, t2] o.type #[a.eval y, a.eval z]).run P x.w = .ok v w' → (execOp a.eval o).run P x.w = .ok (.value v) w' := fun hr => by
    simp [execOp, ho, resolve, invoke, builtin, hr]
  obtain ⟨res, hfind, hfound⟩ := findKey_run (P := P) hkt h1 hz (esD es) ents (by rw [esD_len]; exact hlen) (esD_rel hents) h2
  rw [hy] at hexec
  cases res with
  | none =>
    rw [mdelD_none es (hfound.no rfl).1] at hK
    refine map_write h hdst hr hh (ents' := ents) (.inr ⟨.tuple #[], rfl⟩) (hexec ?_) hlen hents hbn hbl hK Q
    have hrun := run_setMp (P := P) hh ents ck
    simp [Builtin.delete_, run_underlying ht, run_getMap hh, run_checkKeyK hkt h1 hz, hfind, hrun]
  | some jv =>
    obtain ⟨j, cv⟩ := jv
    obtain ⟨p, q, en, f1, _, f4, f5, f6, _⟩ := hfound.yes j cv rfl
    have hjl : j < ents.length := (List.getElem?_eq_some_iff.1 f5).1
    have he := mdelD_erase es j (hfound.fst j cv rfl) ⟨q, p, f4, f6⟩
    rw [he] at hK
    refine map_write h hdst hr hh (ents' := ents.eraseIdx j) (.inr ⟨.tuple #[], rfl⟩) (hexec ?_) ?_ ?_ ?_ ?_ hK Q
    · have e1 : (⟨ents⟩ : Array MapEntry).eraseIdxIfInBounds j = ⟨ents.eraseIdx j⟩ := by
        apply Array.ext'
        simp [Array.eraseIdxIfInBounds, hjl]
      have hrun := run_setMp (P := P) hh (ents.eraseIdx j) ck
      simp [Builtin.delete_, run_underlying ht, run_getMap hh, run_checkKeyK hkt h1 hz, hfind, e1, hrun]
    · rw [List.length_eraseIdx_of_lt hjl, List.length_eraseIdx_of_lt (by omega), hlen]
    · intro i p' e' hp he'
      rw [List.getElem?_eraseIdx] at hp he'
      split at hp
      · rename_i hij
        rw [if_pos hij] at he'
        exact hents i p' e' hp he'
      · rename_i hij
        rw [if_neg hij] at he'
        exact hents (i + 1) p' e' hp he'
    · exact hbn.sublist ((List.eraseIdx_sublist es j).map _)
    · exact fun p' hp' => hbl p' ((List.eraseIdx_sublist es j).subset hp')

/-! ### range over a map, over a string -/
theorem l_rngmD (h : SRel e σ x a) (d : Nat) (hd : d < e.n) (hdst : o.dst = some d) {t kt et : TypeId} {y : Operand} (ho : o.op = .range t y) (ht : P.underlying t = some (.map kt et))
    {r : Nat} {es : List (Nat × PV × PV)} {ck : Nat} (hr : stGet σ.st r = some (.mpd es ck)) (hy : VRel x (.mp r) (a.eval y)) (hrd : r ≠ d)
    {K : St → Prop} (hK : K ((σ.newRow d (.mid r ck (es.map (·.1)) (List.range es.length) none)).put d (.it d))) : LStep P e o a x.w K := by
  intro Q
  have hrow := h.st r _ (stGet_mem hr)
  simp only [Row.rel] at hrow
  obtain ⟨hok, ents, hh, hlen, hents, hbn, hbl⟩ := hrow
  simp only [VRel] at hy
  let ob : Obj := .mapIter (some (x.ρ r).blk) ck #[] ck
  have hrun : (execOp a.eval o).run P x.w = .ok (.value (.pointer (some ⟨x.w.heap.size, 0, none⟩))) (x.w.alloc ob) := by
    simp [execOp, ho, hy, Instr.range, run_underlying ht, run_getMap hh, newObj, Sem.run, ob]
  refine wp_value hrun ?_
  have hb := below_alloc x.w ob
  let l : Loc := ⟨x.w.heap.size, 0, 0, 0, true, 0⟩
  let row : Row := .mid r ck (es.map (·.1)) (List.range es.length) none
  have hρ : (newCx e σ x (x.w.alloc ob) d row l).ρ r = x.ρ r := by simp [newCx, updρ, hrd]
  have h1 := SRel.fresh h hb d row l (fun _ => Nat.le_refl _) (by
    simp only [row, Row.rel]
    refine ⟨rfl, #[], ?_, List.nodup_range, fun i => ?_, fun c hc => by cases hc⟩
    · rw [hρ]
      exact heap_new _ _
    · rw [List.mem_range]
      constructor
      · intro hi
        exact ⟨es[i].1, by simp [hi], by simp⟩
      · rintro ⟨b, hb, _⟩
        have := (List.getElem?_eq_some_iff.1 hb).1
        simpa using this) (by have := h.small; omega)
  rw [hdst]
  refine ⟨_, newCx e σ x (x.w.alloc ob) d row l, h1.put hd (v := .it d) ?_, rfl, hK, below_agr hb⟩
  simp [VRel, newCx, updρ, l]

theorem l_rngm (h : SRel e σ x a) (d : Nat) (hd : d < e.n) (hdst : o.dst = some d) {t kt et : TypeId} {y : Operand} (ho : o.op = .range t y) (ht : P.underlying t = some (.map kt et))
    {r : Nat} {es : List (PV × PV)} (hr : stGet σ.st r = some (.mp es)) (hy : VRel x (.mp r) (a.eval y)) (hrd : r ≠ d)
    {K : St → Prop} (hK : K ((σ.newRow d (.mit r es.length (List.range es.length) none)).put d (.it d))) : LStep P e o a x.w K := by
  intro Q
  have hrow := h.st r _ (stGet_mem hr)
  simp only [Row.rel] at hrow
  obtain ⟨hok, ents, clock, hh, hlen, hents, hclk, hborn⟩ := hrow
  simp only [VRel] at hy
  let ob : Obj := .mapIter (some (x.ρ r).blk) es.length #[] es.length
  have hrun : (execOp a.eval o).run P x.w = .ok (.value (.pointer (some ⟨x.w.heap.size, 0, none⟩))) (x.w.alloc ob) := by
    have e1 : clock = es.length := by omega
    subst e1
    simp [execOp, ho, hy, Instr.range, run_underlying ht, run_getMap hh, newObj, Sem.run, ob]
  refine wp_value hrun ?_
  have hb := below_alloc x.w ob
  let l : Loc := ⟨x.w.heap.size, 0, 0, 0, true, 0⟩
  let row : Row := .mit r es.length (List.range es.length) none
  have hρ : (newCx e σ x (x.w.alloc ob) d row l).ρ r = x.ρ r := by simp [newCx, updρ, hrd]
  have h1 := SRel.fresh h hb d row l (fun _ => Nat.le_refl _) (by
    simp only [row, Row.rel]
    refine ⟨rfl, #[], ?_, List.nodup_range, fun i => by simp, rfl, fun c hc => by cases hc⟩
    rw [hρ]
    exact heap_new _ _) (by have := h.small; omega)
  rw [hdst]
  refine ⟨_, newCx e σ x (x.w.alloc ob) d row l, h1.put hd (v := .it d) ?_, rfl, hK, below_agr hb⟩
  simp [VRel, newCx, updρ, l]

theorem l_rngs (h : SRel e σ x a) (d : Nat) (hd : d < e.n) (hdst : o.dst = some d) {t : TypeId} {y : Operand} (ho : o.op = .range t y) (ht : P.underlying t = some .string)
    {s : ByteArray} (hy : VRel x (.pv (.sc (.string s))) (a.eval y)) {K : St → Prop} (hK : K ((σ.newRow d (.sit s 0)).put d (.it d))) : LStep P e o a x.w K := by
  intro Q
  simp only [VRel, PRel] at hy
  have hrun : (execOp a.eval o).run P x.w = .ok (.value (.pointer (some ⟨x.w.heap.size, 0, none⟩))) (x.w.alloc (.stringIter s 0)) := by
    simp [execOp, ho, hy, Instr.range, run_underlying ht, newObj, Sem.run]
  refine wp_value hrun ?_
  have hb := below_alloc x.w (.stringIter s 0)
  let l : Loc := ⟨x.w.heap.size, 0, 0, 0, true, 0⟩
  have h1 := SRel.fresh h hb d (.sit s 0) l (fun _ => Nat.le_refl _) ⟨rfl, heap_new _ _⟩ (by have := h.small; omega)
  rw [hdst]
  refine ⟨_, newCx e σ x (x.w.alloc (.stringIter s 0)) d (.sit s 0) l, h1.put hd (v := .it d) ?_, rfl, hK, below_agr hb⟩
  simp [VRel, newCx, updρ, l]

def setOb (w : World) (b : Nat) (ob : Obj) : World := { w with heap := w.heap.setIfInBounds b ob }
theorem setOb_far {w : World} {b b' : Nat} (h : b' ≠ b) (ob : Obj) : (setOb w b ob).heap[b']? = w.heap[b']? := by
  simp only [setOb]
  rw [Array.getElem?_setIfInBounds_ne (Ne.symm h)]
theorem setOb_at {w : World} {b : Nat} (h : b < w.heap.size) (ob : Obj) : (setOb w b ob).heap[b]? = some ob := by
  simp [setOb, h]

theorem l_nxts (h : SRel e σ x a) (d : Nat) (hd : d < e.n) (hdst : o.dst = some d) {y : Operand} (ho : o.op = .next y true)
    {r : Nat} {s : ByteArray} {pos : Nat} (hr : stGet σ.st r = some (.sit s pos)) (hy : VRel x (.it r) (a.eval y)) {K : St → Prop}
    (hK1 : pos < s.size → K (St.put ⟨σ.fr, (r, .sit s (pos + (Utf8.decode s pos).2)) :: stDel σ.st r⟩ d (.tup [vbool true, vint .i64 (pos : Nat), vint .i32 ((Utf8.decode s pos).1 : Nat)])))
    (hK2 : ¬ pos < s.size → K (σ.put d (.tup [vbool false]))) : ∀ Q, o.wp P a x.w (fun a' w' => ∃ σ' y, SRel e σ' y a' ∧ y.w = w' ∧ K σ') Q := by
  intro Q
  have hm := stGet_mem hr
  have hrow := h.st r _ hm
  simp only [Row.rel] at hrow
  obtain ⟨hok, hh⟩ := hrow
  simp only [VRel] at hy
  have hlt := (Array.getElem?_eq_some_iff.1 hh).1
  by_cases hp : pos < s.size
  · have hrun : (execOp a.eval o).run P x.w = .ok (.value (.tuple #[.bool true, goInt (pos : Nat), .int .i32 ((Utf8.decode s pos).1 : Nat)])) (setOb x.w (x.ρ r).blk (.stringIter s (pos + (Utf8.decode s pos).2))) := by
      simp [execOp, ho, hy, Instr.next, getObj, setObj, Sem.run, hh, hp, setOb]
    refine wp_value hrun ?_
    rw [hdst]
    have hfar : ∀ b, b ≠ (x.ρ r).blk → (setOb x.w (x.ρ r).blk (.stringIter s (pos + (Utf8.decode s pos).2))).heap[b]? = x.w.heap[b]? := fun b hb => setOb_far hb _
    have hw := h.write hm hok (row' := .sit s (pos + (Utf8.decode s pos).2)) (w' := setOb x.w (x.ρ r).blk (.stringIter s (pos + (Utf8.decode s pos).2))) (by simp [setOb]) rfl rfl rfl (Nat.le_refl _) hfar ⟨hok, setOb_at hlt _⟩
    refine ⟨_, _, hw.put hd (v := .tup [vbool true, vint .i64 (pos : Nat), vint .i32 ((Utf8.decode s pos).1 : Nat)]) ?_, rfl, hK1 hp⟩
    simp only [VRel, VRels, vbool, vint, PRel]
    exact ⟨_, rfl, _, _, rfl, rfl, _, _, rfl, rfl, _, _, rfl, rfl, rfl⟩
  · have hrun : (execOp a.eval o).run P x.w = .ok (.value (.tuple #[.bool false])) x.w := by
      simp [execOp, ho, hy, Instr.next, getObj, Sem.run, hh, hp]
    refine wp_value hrun ?_
    rw [hdst]
    refine ⟨_, _, h.put hd (v := .tup [vbool false]) ?_, rfl, hK2 hp⟩
    simp only [VRel, VRels, vbool, PRel]
    exact ⟨_, rfl, _, _, rfl, rfl, rfl⟩

theorem l_nxtm (h : SRel e σ x a) (d : Nat) (hd : d < e.n) (hdst : o.dst = some d) {y : Operand} (ho : o.op = .next y false)
    {r m n : Nat} {rem : List Nat} {cur : Option Nat} {es : List (PV × PV)} (hr : stGet σ.st r = some (.mit m n rem cur)) (hm : stGet σ.st m = some (.mp es)) (hn : es.length = n) (hy : VRel x (.it r) (a.eval y)) {K : St → Prop}
    (hK1 : rem = [] → K (σ.put d (.tup [vbool false])))
    (hK2 : ∀ i, i ∈ rem → K (St.put ⟨σ.fr, (r, .mit m n (rem.erase i) (some i)) :: stDel σ.st r⟩ d (.tup [vbool true, .pv (es.getD i default).1, .pv (es.getD i default).2]))) :
    ∀ Q, o.wp P a x.w (fun a' w' => ∃ σ' y, SRel e σ' y a' ∧ y.w = w' ∧ K σ') Q := by
  intro Q
  have hmem := stGet_mem hr
  have hrow := h.st r _ hmem
  have hmap := h.st m _ (stGet_mem hm)
  simp only [Row.rel] at hrow hmap
  obtain ⟨hok, seen, hh, hnd, hrem, hcur, hcn⟩ := hrow
  obtain ⟨hokm, ents, clock, hhm, hlen, hents, hclk, hborn⟩ := hmap
  simp only [VRel] at hy
  have hall : ∀ z ∈ (⟨ents⟩ : Array MapEntry).toList, z.born < n := fun z hz => by
    obtain ⟨i, hi, rfl⟩ := List.mem_iff_getElem.1 hz
    simp only at hi
    have := hborn i ents[i] (List.getElem?_eq_getElem hi)
    show ents[i].born < n
    omega
  have key := run_next_at (P := P) x.w o.type (x.ρ r).blk (x.ρ m).blk n n seen ⟨ents⟩ clock hh hhm hall (Nat.le_refl _)
  have hexec : ∀ {rr : Result Value}, (Instr.next (.pointer (some ⟨(x.ρ r).blk, 0, none⟩)) false o.type).run P x.w = rr → (execOp a.eval o).run P x.w = rr.andThen fun v w => .ok (.value v) w := by
    intro rr hrr
    simp only [execOp, ho, hy, Sem.run_bind, hrr, Sem.run_pure]
  rcases key with ⟨h0, hrun⟩ | ⟨en, hen, w1, hw1, hrun⟩
  · have hr0 : rem = [] := by
      apply List.eq_nil_iff_forall_not_mem.2
      intro i hi
      obtain ⟨h2, h3⟩ := (hrem i).1 hi
      have hil : i < ents.length := by omega
      have : ents[i] ∈ (leftOf ⟨ents⟩ seen).toList := by
        simp only [leftOf, Array.toList_filter, List.mem_filter]
        refine ⟨List.getElem_mem hil, ?_⟩
        rw [hborn i ents[i] (List.getElem?_eq_getElem hil), h3]
        rfl
      have h4 := List.length_pos_of_mem this
      simp only [Array.length_toList] at h4
      omega
    refine wp_value (v := .tuple #[.bool false]) (w' := x.w) (by rw [hexec hrun]; rfl) ?_
    rw [hdst]
    refine ⟨_, _, h.put hd (v := .tup [vbool false]) ?_, rfl, hK1 hr0⟩
    simp only [VRel, VRels, vbool, PRel]
    exact ⟨_, rfl, _, _, rfl, rfl, rfl⟩
  · simp only [leftOf, Array.toList_filter, List.mem_filter] at hen
    obtain ⟨hin, hns⟩ := hen
    obtain ⟨i, hil, rfl⟩ := List.mem_iff_getElem.1 hin
    have hbi := hborn i ents[i] (List.getElem?_eq_getElem hil)
    rw [hbi] at hns hrun
    have hir : i ∈ rem := (hrem i).2 ⟨by omega, by simpa using hns⟩
    refine wp_value (v := .tuple #[.bool true, ents[i].key, ents[i].val]) (w' := setOb w1 (x.ρ r).blk (.mapIter (some (x.ρ m).blk) n (seen.push i) clock)) (by rw [hexec hrun]; rfl) ?_
    have hb1 : Below x.w.heap.size x.w w1 := by
      rcases hw1 with rfl | rfl
      · exact Below.refl _ _
      · exact (Below.refl _ _).drew
    have h1 := h.ext hb1
    have hlt : (x.ρ r).blk < w1.heap.size := Nat.lt_of_lt_of_le (Array.getElem?_eq_some_iff.1 hh).1 hb1.size
    have hfar : ∀ b, b ≠ (x.ρ r).blk → (setOb w1 (x.ρ r).blk (.mapIter (some (x.ρ m).blk) n (seen.push i) clock)).heap[b]? = w1.heap[b]? := fun b hb => setOb_far hb _
    have hsz : (setOb w1 (x.ρ r).blk (.mapIter (some (x.ρ m).blk) n (seen.push i) clock)).heap.size = w1.heap.size := by simp [setOb]
    have hpe : ∃ p, es[i]? = some p := ⟨es[i]'(by omega), List.getElem?_eq_getElem _⟩
    obtain ⟨p, hpe⟩ := hpe
    have hrel := hents i p ents[i] hpe (List.getElem?_eq_getElem hil)
    have hd' : es.getD i default = p := by simp [List.getD_eq_getElem?_getD, hpe]
    have kept1 : Kept x ⟨w1, x.F, x.ρ⟩ := ⟨hb1.size, fun b _ hl => hb1.block b hl, fun b _ hy => hy⟩
    have kept2 := write_kept h1 hmem hok hsz hfar
    have hcl : clock = n := by omega
    have hw := h1.write hmem hok (row' := .mit m n (rem.erase i) (some i)) (w' := setOb w1 (x.ρ r).blk (.mapIter (some (x.ρ m).blk) n (seen.push i) clock)) hsz rfl rfl rfl (Nat.le_refl _) hfar (by
      simp only [Row.rel]
      refine ⟨hok, seen.push i, ?_, hnd.erase _, fun j => ?_, by simp, fun c hc => by injection hc with hc; subst hc; omega⟩
      · rw [hcl]
        exact setOb_at (by simpa using hlt) _
      · rw [hnd.mem_erase_iff, hrem j]
        simp only [Array.contains_eq_mem, Array.mem_push, decide_eq_false_iff_not, not_or]
        constructor
        · rintro ⟨g1, g2, g3⟩; exact ⟨g2, g3, g1⟩
        · rintro ⟨g1, g2, g3⟩; exact ⟨g3, g1, g2⟩)
    rw [hdst]
    refine ⟨_, _, hw.put hd (v := .tup [vbool true, .pv (es.getD i default).1, .pv (es.getD i default).2]) ?_, rfl, hK2 i hir⟩
    rw [hd']
    simp only [VRel, VRels, vbool, PRel]
    exact ⟨_, rfl, _, _, rfl, rfl, _, _, rfl, PRel.kept kept2 _ (PRel.kept kept1 _ hrel.1), _, _, rfl, PRel.kept kept2 _ (PRel.kept kept1 _ hrel.2), rfl⟩

theorem l_nxtmD (h : SRel e σ x a) (d : Nat) (hd : d < e.n) (hdst : o.dst = some d) {y : Operand} (ho : o.op = .next y false)
    {r m n ck : Nat} {bs rem : List Nat} {cur : Option Nat} {es : List (Nat × PV × PV)} (hr : stGet σ.st r = some (.mid m n bs rem cur)) (hm : stGet σ.st m = some (.mpd es ck)) (hn : es.map (·.1) = bs ∧ ck = n) (hy : VRel x (.it r) (a.eval y)) {K : St → Prop}
    (hK1 : rem = [] → K (σ.put d (.tup [vbool false])))
    (hK2 : ∀ i, i ∈ rem → K (St.put ⟨σ.fr, (r, .mid m n bs (rem.erase i) (some i)) :: stDel σ.st r⟩ d (.tup [vbool true, .pv (es.getD i default).2.1, .pv (es.getD i default).2.2]))) :
    ∀ Q, o.wp P a x.w (fun a' w' => ∃ σ' y, SRel e σ' y a' ∧ y.w = w' ∧ K σ') Q := by
  intro Q
  obtain ⟨rfl, rfl⟩ := hn
  have hmem := stGet_mem hr
  have hrow := h.st r _ hmem
  have hmap := h.st m _ (stGet_mem hm)
  simp only [Row.rel] at hrow hmap
  obtain ⟨hok, seen, hh, hnd, hrem, hcur⟩ := hrow
  obtain ⟨hokm, ents, hhm, hlen, hents, hbn, hbl⟩ := hmap
  simp only [VRel] at hy
  have born : ∀ (i : Nat) (h1 : i < ents.length) (h2 : i < es.length), ents[i].born = es[i].1 := fun i h1 h2 => (hents i es[i] ents[i] (List.getElem?_eq_getElem h2) (List.getElem?_eq_getElem h1)).2
  have hall : ∀ z ∈ (⟨ents⟩ : Array MapEntry).toList, z.born < ck := fun z hz => by
    obtain ⟨i, hi, rfl⟩ := List.mem_iff_getElem.1 hz
    simp only at hi
    show ents[i].born < ck
    rw [born i hi (by omega)]
    exact hbl _ (List.getElem_mem _)
  have key := run_next_at (P := P) x.w o.type (x.ρ r).blk (x.ρ m).blk ck ck seen ⟨ents⟩ ck hh hhm hall (Nat.le_refl _)
  have hexec : ∀ {rr : Result Value}, (Instr.next (.pointer (some ⟨(x.ρ r).blk, 0, none⟩)) false o.type).run P x.w = rr → (execOp a.eval o).run P x.w = rr.andThen fun v w => .ok (.value v) w := by
    intro rr hrr
    simp only [execOp, ho, hy, Sem.run_bind, hrr, Sem.run_pure]
  rcases key with ⟨h0, hrun⟩ | ⟨en, hen, w1, hw1, hrun⟩
  · have hr0 : rem = [] := by
      apply List.eq_nil_iff_forall_not_mem.2
      intro i hi
      obtain ⟨b, h2, h3⟩ := (hrem i).1 hi
      have hil : i < es.length := by simpa using (List.getElem?_eq_some_iff.1 h2).1
      have hbb : es[i].1 = b := by simpa [hil] using h2
      have : ents[i]'(by omega) ∈ (leftOf ⟨ents⟩ seen).toList := by
        simp only [leftOf, Array.toList_filter, List.mem_filter]
        refine ⟨List.getElem_mem _, ?_⟩
        rw [born i (by omega) hil, hbb, h3]
        rfl
      have h4 := List.length_pos_of_mem this
      simp only [Array.length_toList] at h4
      omega
    refine wp_value (v := .tuple #[.bool false]) (w' := x.w) (by rw [hexec hrun]; rfl) ?_
    rw [hdst]
    refine ⟨_, _, h.put hd (v := .tup [vbool false]) ?_, rfl, hK1 hr0⟩
    simp only [VRel, VRels, vbool, PRel]
    exact ⟨_, rfl, _, _, rfl, rfl, rfl⟩
  · simp only [leftOf, Array.toList_filter, List.mem_filter] at hen
    obtain ⟨hin, hns⟩ := hen
    obtain ⟨i, hil, rfl⟩ := List.mem_iff_getElem.1 hin
    have hil' : i < es.length := by have h9 : i < ents.length := hil; omega
    have hbi := born i hil hil'
    rw [hbi] at hns hrun
    have hbs : (es.map (·.1))[i]? = some es[i].1 := by simp [hil']
    have hir : i ∈ rem := (hrem i).2 ⟨_, hbs, by simpa using hns⟩
    refine wp_value (v := .tuple #[.bool true, ents[i].key, ents[i].val]) (w' := setOb w1 (x.ρ r).blk (.mapIter (some (x.ρ m).blk) ck (seen.push es[i].1) ck)) (by rw [hexec hrun]; rfl) ?_
    have hb1 : Below x.w.heap.size x.w w1 := by
      rcases hw1 with rfl | rfl
      · exact Below.refl _ _
      · exact (Below.refl _ _).drew
    have h1 := h.ext hb1
    have hlt : (x.ρ r).blk < w1.heap.size := Nat.lt_of_lt_of_le (Array.getElem?_eq_some_iff.1 hh).1 hb1.size
    have hfar : ∀ b, b ≠ (x.ρ r).blk → (setOb w1 (x.ρ r).blk (.mapIter (some (x.ρ m).blk) ck (seen.push es[i].1) ck)).heap[b]? = w1.heap[b]? := fun b hb => setOb_far hb _
    have hsz : (setOb w1 (x.ρ r).blk (.mapIter (some (x.ρ m).blk) ck (seen.push es[i].1) ck)).heap.size = w1.heap.size := by simp [setOb]
    have hpe : es[i]? = some es[i] := List.getElem?_eq_getElem hil'
    have hrel := (hents i es[i] ents[i] hpe (List.getElem?_eq_getElem hil)).1
    have hd' : es.getD i default = es[i] := by simp [List.getD_eq_getElem?_getD, hpe]
    have kept1 : Kept x ⟨w1, x.F, x.ρ⟩ := ⟨hb1.size, fun b _ hl => hb1.block b hl, fun b _ hy => hy⟩
    have kept2 := write_kept h1 hmem hok hsz hfar
    have hw := h1.write hmem hok (row' := .mid m ck (es.map (·.1)) (rem.erase i) (some i)) (w' := setOb w1 (x.ρ r).blk (.mapIter (some (x.ρ m).blk) ck (seen.push es[i].1) ck)) hsz rfl rfl rfl (Nat.le_refl _) hfar (by
      simp only [Row.rel]
      refine ⟨hok, seen.push es[i].1, setOb_at (by simpa using hlt) _, hnd.erase _, fun j => ?_, fun c hc => by injection hc with hc; subst hc; exact ⟨_, hbs, by simp⟩⟩
      rw [hnd.mem_erase_iff, hrem j]
      constructor
      · rintro ⟨g1, b, g2, g3⟩
        refine ⟨b, g2, ?_⟩
        simp only [Array.contains_eq_mem, Array.mem_push, decide_eq_false_iff_not, not_or] at g3 ⊢
        refine ⟨g3, fun hbe => g1 ?_⟩
        rw [hbe, ← hbs] at g2
        exact (List.getElem?_inj (by simpa using (List.getElem?_eq_some_iff.1 (g2.trans hbs)).1) hbn).1 g2
      · rintro ⟨b, g2, g3⟩
        simp only [Array.contains_eq_mem, Array.mem_push, decide_eq_false_iff_not, not_or] at g3 ⊢
        refine ⟨fun hji => g3.2 ?_, b, g2, g3.1⟩
        subst hji
        rw [hbs] at g2
        injection g2 with g2
        exact g2.symm)
    rw [hdst]
    refine ⟨_, _, hw.put hd (v := .tup [vbool true, .pv (es.getD i default).2.1, .pv (es.getD i default).2.2]) ?_, rfl, hK2 i hir⟩
    rw [hd']
    simp only [VRel, VRels, vbool, PRel]
    exact ⟨_, rfl, _, _, rfl, rfl, _, _, rfl, PRel.kept kept2 _ (PRel.kept kept1 _ hrel.1), _, _, rfl, PRel.kept kept2 _ (PRel.kept kept1 _ hrel.2), rfl⟩
end
end Go.Vc

namespace Go.Vc
open Go.RowKit
section
variable {P : Program} {e : Env} {σ : St} {x : Cx} {a : Act} {o : Oper}

/-- what is appended: so many elements, these cells, in a world and behind a draw -/
structure Src (P : Program) (w : World) (size : Nat) (x : Value) (m : Nat) (news : List Value) : Prop where
  len : ∀ w', (Builtin.lenOf x).run P w' = .ok m w'
  here : ∀ w', w'.heap = w.heap → (Builtin.firstCells size m x).run P w' = .ok news.toArray w'
  size : news.length = m * size

theorem Src.slice {w : World} {size m c : Nat} {ad : Option Addr} {news : List Value} (hl : news.length = m * size) (h : 0 < m → ∃ b o', ad = some ⟨b, o', none⟩ ∧ CellsAt w b o' news) : Src P w size (.slice ad m c) m news := by
  refine ⟨fun w' => by simp [Builtin.lenOf], fun w' hw => ?_, hl⟩
  rcases Nat.eq_zero_or_pos m with h0 | h0
  · subst h0
    have : news = [] := List.eq_nil_of_length_eq_zero (by simpa using hl)
    subst this
    cases ad <;> simp [Builtin.firstCells, loadCells, loadCellsFrom]
  · obtain ⟨b, o', rfl, hc⟩ := h h0
    simp only [Builtin.firstCells, ← hl]
    exact run_loadCells b o' news fun j c hj => by
      have := hc j c hj
      simpa [World.cell?, hw] using this

theorem run_app_grow {w : World} {t t2 ty et et2 : TypeId} {i : TypeInfo} {zv : Value} (ht : P.underlying t = some (.slice et)) (ht2 : P.underlying t2 = some (.slice et2)) (hi : P.info? et = some i) (hz : i.zero = some zv)
    {ba : Option Addr} {n c : Nat} {olds : List Value} (hold : Src P w i.size (.slice ba n c) n olds) {y : Value} {m : Nat} {news : List Value} (hnew : Src P w i.size y m news)
    (hg : c < n + m) (h63 : n + m ≤ 9223372036854775807) (hfit : (n + m) * i.bytes ≤ 140737488355328) :
    (Builtin.append_ #[t, t2] ty #[.slice ba n c, y]).run P w = .ok (.slice (some ⟨w.heap.size, 0, none⟩) (n + m) (grownCap w (n + m) c et))
      (w.drew.alloc (.cells ⟨olds ++ news ++ (Builtin.zeroCells zv.cells (grownCap w (n + m) c et - (n + m))).toList⟩ et)) := by
  have hn : ¬ (n + m ≤ c) := by omega
  have h63' : ¬ (9223372036854775807 < ((n : Int) + (m : Int))) := by omega
  have h48' : ¬ (281474976710656 < Builtin.nextslicecap (n + m) c * i.bytes) := by
    have := growslice_fits (need := n + m) (old := c) (bytes := i.bytes) hg hfit; omega
  have hf := hnew.here w.drew rfl
  have hfo := hold.here w.drew rfl
  simp [Builtin.append_, run_underlying ht, run_underlying ht2, sizeOf, typeInfo, zeroValue, hi, hz, hnew.len, hn, h63', h48', Question.forced, hf, hfo, newRow, grownCap]
  congr 2
  apply Array.ext'
  simp

theorem run_app_room {w : World} {t t2 ty et et2 : TypeId} {i : TypeInfo} (ht : P.underlying t = some (.slice et)) (ht2 : P.underlying t2 = some (.slice et2)) (hi : P.info? et = some i)
    {b o' n c : Nat} {L : List Value} {tb : TypeId} (hb : w.heap[b]? = some (.cells ⟨L⟩ tb (0, 0))) {y : Value} {m : Nat} {news : List Value} (hnew : Src P w i.size y m news) (h1 : ∀ v ∈ news, v.oneCell' = true)
    (hg : n + m ≤ c) (hl : o' + n * i.size + news.length ≤ L.length) :
    (Builtin.append_ #[t, t2] ty #[.slice (some ⟨b, o', none⟩) n c, y]).run P w = .ok (.slice (some ⟨b, o', none⟩) (n + m) c) (setBlk w b (layC L (o' + n * i.size) news) tb) := by
  have hf := hnew.here w rfl
  have hst := run_storeCells (P := P) news w L (o' + n * i.size) 0 hb (by omega) h1
  simp only [Nat.add_zero] at hst
  simp [Builtin.append_, run_underlying ht, run_underlying ht2, sizeOf, typeInfo, hi, hnew.len, hg, hf, addr_add, hst]

theorem run_app_none {w : World} {t t2 ty et et2 : TypeId} {i : TypeInfo} (ht : P.underlying t = some (.slice et)) (ht2 : P.underlying t2 = some (.slice et2)) (hi : P.info? et = some i)
    {ba : Option Addr} {c : Nat} {y : Value} (hnew : Src P w i.size y 0 []) :
    (Builtin.append_ #[t, t2] ty #[.slice ba 0 c, y]).run P w = .ok (.slice ba 0 c) w := by
  have hf := hnew.here w rfl
  cases ba <;> simp [Builtin.append_, run_underlying ht, run_underlying ht2, sizeOf, typeInfo, hi, hnew.len, hf, storeCells]

/-- the pure elements of what is appended -/
def srcP (σ : St) : AV → Option (List PV)
  | .pv (.lst ps) => some ps
  | .e0 => some []
  | .row r off m => match stGet σ.st r with
    | some (.sl _ xs) => some ((xs.drop off).take m)
    | _ => none
  | _ => none

theorem WfL.drop {s n : Nat} {xs : List PV} (h : WfL s xs) : WfL s (xs.drop n) := fun p hp => h p (List.mem_of_mem_drop hp)
theorem WfL.take {s n : Nat} {xs : List PV} (h : WfL s xs) : WfL s (xs.take n) := fun p hp => h p (List.mem_of_mem_take hp)
theorem WfL.append {s : Nat} {xs ys : List PV} (h : WfL s xs) (k : WfL s ys) : WfL s (xs ++ ys) := fun p hp => (List.mem_append.1 hp).elim (h p) (k p)
theorem flat_append : ∀ (xs ys : List PV), flat (xs ++ ys) = flat xs ++ flat ys
  | [], _ => rfl
  | x :: xs, ys => by simp only [List.cons_append, flat, flat_append xs ys, List.append_assoc]
theorem flat_one {s : Nat} : ∀ {xs : List PV}, WfL s xs → ∀ c ∈ flat xs, c.one = true
  | [], _, c, h => by cases h
  | p :: ps, h, c, hc => by
    simp only [flat] at hc
    rcases List.mem_append.1 hc with h1 | h1
    · exact (h p (by simp)).2 c h1
    · exact flat_one (fun q hq => h q (List.mem_cons_of_mem _ hq)) c h1
theorem PRels.append {w : World} {F : Nat → Prop} : ∀ {us vs : List PV} {as bs : List Value}, PRels w F us as → PRels w F vs bs → PRels w F (us ++ vs) (as ++ bs)
  | [], _, _, _, h, k => by simp only [PRels] at h; subst h; simpa using k
  | u :: us, vs, _, bs, h, k => by
    simp only [PRels] at h
    obtain ⟨v, r, rfl, h1, h2⟩ := h
    simp only [List.cons_append, PRels]
    exact ⟨v, r ++ bs, rfl, h1, h2.append k⟩

/-- a slice of an own row: what it reads -/
theorem row_cells {s off m : Nat} {xs : List PV} {l : Loc} {w : World} {F : Nat → Prop} (hw : WfL s xs) (h : PElems w F xs l.blk l.base) (hl : off + m ≤ xs.length) :
    ∃ vs, PRels w F (flat ((xs.drop off).take m)) vs ∧ CellsAt w l.blk (l.base + off * s) vs ∧ vs.length = m * s := by
  have h1 := (h.drop off (fun p hp => (hw p hp).1) (by omega)).take m
  rw [PElems.flat_iff] at h1
  obtain ⟨vs, h2, h3⟩ := h1.list
  refine ⟨vs, h2, h3, ?_⟩
  rw [h2.length, flat_length (hw.drop.take)]
  congr 1
  rw [List.length_take, List.length_drop]; omega

theorem q_str {ev : Operand → Value} (h : SRel e σ x a) {s t et : TypeId} {y : Operand} (ho : o.op = .convert s t y) (hs : P.underlying s = some (.slice et)) (ht : P.underlying t = some .string) (het : P.underlying et = some (.int .u8)) {v : AV} (hy : VRel x v (ev y)) (hp : strP (rowV σ v)) :
    QOK P x o ev (strV (rowV σ v)) := by
  have val : ∀ {ps : List PV} {ns : List Int}, intsOf ps = some ns → VRel x (.pv (.lst ps)) (ev y) → QOK P x o ev (strV (.pv (.lst ps))) := fun {ps ns} hns hv => by
    simp only [VRel, PRel] at hv
    obtain ⟨a, n, c, e1, e2, e3, h3⟩ := hv
    exact q_strC ho hs ht het hns e1 e2 fun h0 => let ⟨b, o', g1, _, _, g2⟩ := h3 h0; ⟨b, o', g1, g2⟩
  cases v with
  | row r off n =>
    unfold rowV at hp ⊢
    cases hr : stGet σ.st r with
    | none => simp only [hr, strP] at hp
    | some row =>
      cases row with
      | sl sz xs =>
        simp only [hr, strP] at hp ⊢
        obtain ⟨ns, hns⟩ := hp
        have hrow := h.st r _ (stGet_mem hr)
        simp only [Row.rel] at hrow
        simp only [VRel] at hy
        rcases hy with ⟨rfl, _, ad, he⟩ | ⟨c, hok, he, h2, _, h4⟩
        · exact q_strC ho hs ht het hns he (by simp) fun h0 => absurd h0 (by omega)
        · rcases hrow with ⟨h1, _⟩ | ⟨hs2, _, ⟨hln, _⟩, hwf, _, hE⟩
          · rw [h1] at hok; cases hok
          · rw [hln] at h4
            refine q_strC ho hs ht het hns he (by rw [List.length_take, List.length_drop]; omega) fun _ => ⟨_, _, rfl, ?_⟩
            rw [hs2]
            exact (hE.drop off (fun p hp => (hwf p hp).1) (by omega)).take n
      | _ => simp only [hr, strP] at hp
  | e0 =>
    simp only [VRel] at hy
    obtain ⟨ad, he⟩ := hy
    exact q_strC ho hs ht het (ps := []) (ns := []) rfl he rfl fun h0 => absurd h0 (by omega)
  | pv p =>
    cases p with
    | lst ps =>
      simp only [rowV, strP] at hp ⊢
      obtain ⟨ns, hns⟩ := hp
      exact val hns hy
    | _ => simp only [rowV, strP] at hp
  | _ => simp only [rowV, strP] at hp

theorem src_of (h : SRel e σ x a) {v : AV} {cv : Value} (hv : VRel x v cv) {ps : List PV} {s : Nat} (hp : srcP σ v = some ps) (hw : WfL s ps) (hrow : ∀ r off m, v = .row r off m → ∃ xs, stGet σ.st r = some (.sl s xs)) :
    ∃ news, Src P x.w s cv ps.length news ∧ PRels x.w x.F (flat ps) news := by
  unfold srcP at hp
  split at hp
  · rename_i qs
    injection hp with hp; subst hp
    simp only [VRel, PRel] at hv
    obtain ⟨ad, n, c, rfl, rfl, _, h3⟩ := hv
    rcases Nat.eq_zero_or_pos qs.length with h0 | h0
    · have : qs = [] := List.eq_nil_of_length_eq_zero h0
      subst this
      exact ⟨[], Src.slice (by simp) (fun h => absurd h (by simp)), by simp [flat, PRels]⟩
    · obtain ⟨b, o', rfl, _, _, h4⟩ := h3 h0
      rw [PElems.flat_iff] at h4
      obtain ⟨vs, h5, h6⟩ := h4.list
      exact ⟨vs, Src.slice (by rw [h5.length, flat_length hw]) (fun _ => ⟨b, o', rfl, h6⟩), h5⟩
  · injection hp with hp; subst hp
    simp only [VRel] at hv
    obtain ⟨ad, rfl⟩ := hv
    exact ⟨[], Src.slice (by simp) (fun h => absurd h (by simp)), by simp [flat, PRels]⟩
  · rename_i r off m
    obtain ⟨xs, hr⟩ := hrow r off m rfl
    rw [hr] at hp
    injection hp with hp; subst hp
    have h1 := h.st r _ (stGet_mem hr)
    simp only [Row.rel] at h1
    simp only [VRel] at hv
    rcases hv with ⟨rfl, _, ad, rfl⟩ | ⟨c, hok, rfl, _, _, hl⟩
    · simp only [List.take_zero, List.length_nil]
      exact ⟨[], Src.slice (by simp) (fun h => absurd h (by omega)), by simp [flat, PRels]⟩
    · rcases h1 with ⟨h1, _⟩ | ⟨hs, _, ⟨hln, _⟩, hwf, _, hE⟩
      · rw [h1] at hok; cases hok
      · rw [hln] at hl
        have hlen : ((xs.drop off).take m).length = m := by rw [List.length_take, List.length_drop]; omega
        rw [hlen]
        obtain ⟨vs, h2, h3, h4⟩ := row_cells hwf hE hl
        rw [hs]
        exact ⟨vs, Src.slice h4 (fun _ => ⟨_, _, rfl, h3⟩), h2⟩
  · cases hp

theorem zero_list (z : Array Value) : ∀ n, (Builtin.zeroCells z n).toList = (List.replicate n z.toList).flatten
  | 0 => by simp [Builtin.zeroCells]
  | n + 1 => by
    have ih := zero_list z n
    simp only [Builtin.zeroCells, Array.toList_map, Array.toList_range] at ih ⊢
    rw [Nat.succ_mul, List.range_add, List.map_append, ih, List.replicate_succ', List.flatten_append]
    congr 1
    simp only [List.map_map, List.flatten_cons, List.flatten_nil, List.append_nil]
    refine List.ext_getElem (by simp) fun j h1 h2 => ?_
    simp only [List.length_map, List.length_range] at h1
    have : (n * z.size + j) % z.size = j := by rw [Nat.add_comm, Nat.add_mul_mod_self_right, Nat.mod_eq_of_lt h1]
    simp [this, h1]
theorem zero_ones {z : Array Value} (n : Nat) (h : ∀ c ∈ z.toList, c.oneCell' = true) : ∀ c ∈ (Builtin.zeroCells z n).toList, c.oneCell' = true := fun c hc => by
  rw [zero_list] at hc
  obtain ⟨l, hl, hcl⟩ := List.mem_flatten.1 hc
  rw [(List.mem_replicate.1 hl).2] at hcl
  exact h c hcl
theorem below_drew_alloc (w : World) (o : Obj) : Below w.heap.size w (w.drew.alloc o) := ((Below.refl _ w).drew).alloc (Nat.le_refl _) o

/-- THE NEW ROW BEHIND AN APPEND THAT GREW -/
theorem app_fresh (h : SRel e σ x a) {d : Nat} (hd : d < e.n) {r s n : Nat} {xs : List PV} {et : TypeId} {cells : List Value} {cap : Nat} {K : St → Prop} (hw : WfL s xs) (hxs : PRels x.w x.F (flat xs) (cells.take (xs.length * s)))
    (hc : cells.length = cap * s) (hone : ∀ c ∈ cells, c.oneCell' = true) (hcap : xs.length ≤ cap) (hn : n = xs.length) (hr : r < 200000) (hK : K ((σ.newRow r (.sl s xs)).put d (.row r 0 n))) :
    ∃ σ' y, SRel e σ' y (a.put (some d) (.slice (some ⟨x.w.heap.size, 0, none⟩) n cap)) ∧ y.w = x.w.drew.alloc (.cells ⟨cells⟩ et) ∧ K σ' := by
  have hb := below_drew_alloc x.w (.cells ⟨cells⟩ et)
  let l : Loc := ⟨x.w.heap.size, 0, cap, s, true, xs.length⟩
  have hnew : (x.w.drew.alloc (.cells ⟨cells⟩ et)).heap[x.w.heap.size]? = some (.cells ⟨cells⟩ et (0, 0)) := heap_new x.w.drew _
  have kept := newCx_kept h hb r (.sl s xs) l (fun _ => Nat.le_refl _)
  have hmul : xs.length * s ≤ cap * s := Nat.mul_le_mul_right _ hcap
  have h1 := SRel.fresh h hb r (.sl s xs) l (fun _ => Nat.le_refl _) (.inr ⟨rfl, rfl, ⟨rfl, hcap⟩, hw, ⟨_, et, hnew, by simp only [l, Nat.zero_add]; simp [hc], hone⟩, by
    rw [PElems.flat_iff]
    refine PCells.of (PRels.kept kept _ hxs) fun j c hj => ?_
    have hj' : cells[j]? = some c := by
      rw [List.getElem?_take] at hj
      split at hj
      · exact hj
      · cases hj
    exact CellsAt.of_heap (w := (newCx e σ x (x.w.drew.alloc (.cells ⟨cells⟩ et)) r (.sl s xs) l).w) hnew j c hj'⟩) hr
  refine ⟨_, newCx e σ x (x.w.drew.alloc (.cells ⟨cells⟩ et)) r (.sl s xs) l, h1.put hd (v := .row r 0 n) ?_, rfl, hK⟩
  simp only [VRel]
  exact .inr ⟨cap, by simp [newCx, updρ, l], by simp [newCx, updρ, l], by omega, by simp [newCx, updρ, l], by simp [newCx, updρ, l]; omega⟩

/-- A ROW THAT HAS NO BLOCK YET -/
theorem app_empty (h : SRel e σ x a) {d : Nat} (hd : d < e.n) {r s : Nat} {ad : Option Addr} {K : St → Prop} (hr : r < 200000) (hK : K ((σ.newRow r (.sl s [])).put d (.row r 0 0))) :
    ∃ σ' y, SRel e σ' y (a.put (some d) (.slice ad 0 0)) ∧ y.w = x.w ∧ K σ' := by
  let l : Loc := ⟨0, 0, 0, s, false, 0⟩
  have h1 := SRel.fresh h (Below.refl _ x.w) r (.sl s []) l (fun h => by cases h) (.inl ⟨rfl, rfl⟩) hr
  refine ⟨_, newCx e σ x x.w r (.sl s []) l, h1.put hd (v := .row r 0 0) ?_, rfl, hK⟩
  simp only [VRel]
  exact .inl ⟨trivial, fun hk => by simp [newCx, updρ, l] at hk, ad, rfl⟩
end
end Go.Vc
