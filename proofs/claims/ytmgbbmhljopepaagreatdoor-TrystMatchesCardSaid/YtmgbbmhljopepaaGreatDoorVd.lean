/- A part of the proofs of the seat YtmgbbmhljopepaaGreatDoor: the layer that turns the code of a function into what is to be shown (verification conditions), proved sound. -/
import Derived.Test.YtmgbbmhljopepaaGreatDoorVc
import Derived.OrdersHeld
import Derived.LoopN
namespace Go.Vc
open Go.RowKit
set_option linter.constructorNameAsVariable false
def IOp.soft : IOp → Bool
 | .alloc _ | .box _ | .lits _ _ | .own _ _ | .appn _ _ _ _ | .mks _ _ _ _ _ | .mkx _ _ _ _ | .call _ _ | .isnil _ _ | .mkm | .mkmr _ | .rngm _ | .rngs _ => true
 | _ => false
def IOp.hard : IOp → Bool
 | .st _ _ _ | .app _ _ _ _ | .appi _ _ _ _ | .clr _ _ _ | .capr _ | .appz _ _ _ _ _ | .cpy _ _ _ | .mset _ _ _ _ | .calls _ _ | .nxtm _ | .nxts _ => true
 | _ => false
def IOp.quiet : IOp → Bool
 | .q _ => true
 | _ => false
section
variable {P : Program} {e : Env} {σ : St} {x : Cx} {a : Act} {o : Oper} {owns : List Nat} {K : St → Prop}
theorem onesB_mem : ∀ {ps : List PV}, onesB ps = true → ∀ c ∈ ps, c.one = true
 | [], _, c, hc => by cases hc
 | p :: ps, h, c, hc => by
  simp only [onesB, Bool.and_eq_true] at h
  rcases List.mem_cons.1 hc with rfl | hc
  ·exact h.1
  ·exact onesB_mem h.2 c hc
theorem isInt_at (h : SRel e σ x a) {y : Operand} {z : Opd} (hz : Opd.of y = some z) (hc : z.cd σ = true) (hi : isInt (z.sv σ)) : ∃ k, a.eval y = .int k (intV (z.sv σ)) := by
 have := Opd.of_sv h hz hc
 unfold isInt at hi
 split at hi
 ·rename_i k n he
  rw [he] at this ⊢
  simp only [VRel, PRel] at this
  exact ⟨k, this⟩
 ·exact hi.elim
theorem zip_snd : ∀ (l : List (Nat × Operand)) (k : Nat), l.map (·.1) = List.range' k l.length → l = ((l.map (·.2)).zipIdx k).map fun q => (q.2, q.1)
 | [], _, _ => rfl
 | (i, y) :: l, k, h => by
  simp only [List.map_cons, List.length_cons, List.range'_succ, List.cons.injEq] at h
  simp only [List.map_cons, List.zipIdx_cons]
  rw [h.1]
  congr 1
  exact zip_snd l (k + 1) h.2
theorem lit_of {t et : TypeId} {n : Nat} {parts : Array (Nat × Operand)} (hop : o.op = .buildSlice t n parts) {i : TypeInfo} {zv : Value} {zs : List Opd} (ht : P.underlying t = some (.slice et)) (hi : P.info? et = some i) (hz : i.zero = some zv)
  (hzs : opdsOf (parts.toList.map (·.2)) = some zs) (hr : parts.toList.map (·.1) = List.range n) (hs : 0 < i.size) : LitOf P o zs i.size := by
 have hlen : parts.toList.length = n := by have := congrArg List.length hr; simpa using this
 refine ⟨t, et, i, zv, parts, parts.toList.map (·.2), ?_, ?_, hzs, ht, hi, hz, hs, rfl⟩
 ·rw [hop, List.length_map, hlen]
 ·exact zip_snd parts.toList 0 (by rw [hr, List.range_eq_range', hlen])
theorem of_soft [EP e P] {op : IOp} (hof : IOp.of P owns o = some op) (hsoft : op.soft = true) (hd : ∀ d, o.dst = some d → d < e.n) (h : SRel e σ x a) (hk : vcOp P σ o.dst op K) : LStep P e o a x.w K := by
 cases hop : o.op with
 | alloc t =>
  simp only [IOp.of, hop] at hof
  split at hof
  ·rename_i i hi
   split at hof
   ·rename_i zv hz
    injection hof with hof; subst hof
    simp only [vcOp] at hk
    split at hk
    ·rename_i d hdst
     exact l_alloc h d (hd d hdst) hdst hop hi hz (fun y => zavs_rel y _) hk
    ·exact hk.elim
   ·cases hof
  ·cases hof
 | box t y =>
  simp only [IOp.of, hop] at hof
  split at hof
  ·rename_i z hz
   injection hof with hof; subst hof
   simp only [vcOp] at hk
   split at hk
   ·rename_i d hdst
    exact l_box h d (hd d hdst) hdst hop hz hk.1 hk.2.1 hk.2.2
   ·exact hk.elim
  ·cases hof
 | buildSlice t n parts =>
  simp only [IOp.of, hop] at hof
  split at hof
  ·rename_i et ht
   split at hof
   ·rename_i i hi
    split at hof
    ·rename_i zv zs hz hzs
     split at hof
     ·rename_i hr
      injection hof with hof
      have hl := lit_of hop ht hi hz hzs hr.1 hr.2
      cases hb : isOwn owns o.dst
      ·rw [hb] at hof
       simp only [Bool.false_eq_true, if_false] at hof
       subst hof
       simp only [vcOp] at hk
       split at hk
       ·rename_i d hdst
        exact l_lits h d (hd d hdst) hdst hl hk.1.1 hk.1.2.1 hk.1.2.2.1 hk.1.2.2.2 hk.2
       ·exact hk.elim
      ·rw [hb] at hof
       simp only [if_true] at hof
       subst hof
       simp only [vcOp] at hk
       split at hk
       ·rename_i d hdst
        obtain ⟨⟨k1, k2, k3, k4, k5, ps, k6⟩, k7⟩ := hk
        have e1 : pvsOf (evs σ zs) = ps := by unfold pvsOf; rw [k6]
        rw [e1] at k7
        exact l_own h d (hd d hdst) hdst hl k1 k2 k3 k4 k5 k6 k7
       ·exact hk.elim
     ·cases hof
    ·cases hof
   ·cases hof
  ·cases hof
 | makeSlice t yl yc =>
  simp only [IOp.of, hop] at hof
  split at hof
  ·rename_i zl zc et hl hc ht
   split at hof
   ·rename_i i hi
    split at hof
    ·rename_i zv hz
     split at hof
     ·rename_i hcond
      split at hof
      ·rename_i hbx
       injection hof with hof; subst hof
       simp only [vcOp] at hk
       split at hk
       ·rename_i d hdst
        obtain ⟨⟨k1, k2, k3, k4, k5, k6, k7, k8⟩, k9⟩ := hk
        obtain ⟨kl, e1⟩ := isInt_at h hl k1 k3
        obtain ⟨kc, e2⟩ := isInt_at h hc k2 k4
        exact l_mkx h d (hd d hdst) hdst hop ht hi hz e1 e2 k5 k6 k7 k8 (isNilS_eq (by simp only [Bool.and_eq_true] at hbx; exact hbx.2.1)) (by simp only [Bool.and_eq_true, beq_iff_eq] at hbx; exact hbx.2.2) k9
       ·exact hk.elim
      ·injection hof with hof; subst hof
       simp only [vcOp] at hk
       split at hk
       ·rename_i d hdst
        obtain ⟨⟨k1, k2, k3, k4, k5, k6, k7, k8⟩, k9⟩ := hk
        obtain ⟨kl, e1⟩ := isInt_at h hl k1 k3
        obtain ⟨kc, e2⟩ := isInt_at h hc k2 k4
        exact l_mks h d (hd d hdst) hdst hop ht hi hz e1 e2 k5 k6 k7 k8 (fun w F => zelem_rel w F zv) (onesB_mem hcond.2.2) hcond.1 hcond.2.1 k9
       ·exact hk.elim
     ·cases hof
    ·cases hof
   ·cases hof
  ·cases hof
 | binOp bop t y z t' =>
  simp only [IOp.of, hop] at hof
  split at hof
  ·rename_i u v hu hv
   split at hof
   ·split at hof
    ·injection hof with hof; subst hof; simp [IOp.soft] at hsoft
    ·injection hof with hof; subst hof; simp [IOp.soft] at hsoft
    ·cases hof
   ·(split at hof <;> (injection hof with hof; subst hof; simp [IOp.soft] at hsoft))
   ·injection hof with hof; subst hof; simp [IOp.soft] at hsoft
   ·rename_i et ht
    have fin : ∀ neg, bop = (if neg then .neq else .eql) → v = .nil → op = .isnil u neg → LStep P e o a x.w K := by
     intro neg hb hvn hop'
     subst hb; subst hvn; subst hop'
     have hz : a.eval z = .slice none 0 0 := by
      cases z with
      | const c =>
       by_cases hn : c = .slice none 0 0
       ·rw [hn]; rfl
       ·have : Opd.of (.const c) = some (.c c) := by
         unfold Opd.of
         split <;> first | rfl | contradiction | (rename_i he; injection he with he; first | (exact absurd he hn) | (rw [he]))
        rw [this] at hv; injection hv with hv; cases hv
      | tmp k => simp [Opd.of] at hv
      | global g => simp [Opd.of] at hv
      | func f => simp [Opd.of] at hv
     simp only [vcOp] at hk
     split at hk
     ·rename_i d hdst
      obtain ⟨k1, k2⟩ := hk
      split at k2
      ·rename_i n hn
       refine l_isnil h d (hd d hdst) hdst hop ht (Opd.of_sv h hu k1) hz (n := n) ?_ k2
       unfold nilLen at hn
       split at hn
       ·rename_i ps he; injection hn with hn; exact .inl ⟨ps, he, hn⟩
       ·rename_i r off m he; injection hn with hn; subst hn; exact .inr (.inl ⟨r, off, he⟩)
       ·rename_i he; injection hn with hn; exact .inr (.inr ⟨he, hn.symm⟩)
       ·cases hn
      ·exact k2.elim
     ·exact hk.elim
    split at hof
    ·injection hof with hof; exact fin false rfl rfl hof.symm
    ·injection hof with hof; exact fin true rfl rfl hof.symm
    ·cases hof
   ·split at hof
    ·split at hof
     ·split at hof
      ·injection hof with hof; subst hof; simp [IOp.soft] at hsoft
      ·injection hof with hof; subst hof; simp [IOp.soft] at hsoft
      ·cases hof
     ·cases hof
    ·cases hof
   ·repeat' split at hof
    all_goals first | (cases hof; done) | (injection hof with hof; subst hof; simp [IOp.soft] at hsoft)
   ·cases hof
  ·cases hof
 | call c =>
  obtain ⟨callee, args, argTypes⟩ := c
  simp only [IOp.of, hop] at hof
  split at hof
  ·split at hof
   ·split at hof
    ·injection hof with hof; subst hof; simp [IOp.soft] at hsoft
    ·injection hof with hof; subst hof; simp [IOp.soft] at hsoft
    ·injection hof with hof; subst hof; simp [IOp.soft] at hsoft
    ·cases hof
   ·cases hof
  ·split at hof
   ·split at hof
    ·injection hof with hof; subst hof; simp [IOp.soft] at hsoft
    ·cases hof
   ·cases hof
  ·split at hof
   ·split at hof
    ·injection hof with hof; subst hof; simp [IOp.soft] at hsoft
    ·cases hof
   ·cases hof
  ·split at hof
   ·rename_i y z t t2 hargs htys
    have e1 : args = #[y, z] := Array.toList_inj.1 (by simpa using hargs)
    have e2 : argTypes = #[t, t2] := Array.toList_inj.1 (by simpa using htys)
    subst e1; subst e2
    split at hof
    ·rename_i u v et et2 hu hv ht ht2
     split at hof
     ·rename_i i hi
      split at hof
      ·rename_i zv hz
       split at hof
       ·injection hof with hof
        cases hsA : isSoftA owns o.dst
        case false => rw [hsA] at hof; cases hb : isOwn owns o.dst <;> simp [hb] at hof <;> subst hof <;> simp [IOp.soft] at hsoft
        case true =>
         rw [hsA] at hof
         simp only [if_true] at hof
         subst hof
         simp only [vcOp] at hk
         split at hk
         ·rename_i d hdst
          obtain ⟨⟨k1, k2, k3, _, g2, ps, g3, g4, g5, g6⟩, k4⟩ := hk
          have ru := Opd.of_sv h hu k1
          have rv := Opd.of_sv h hv k2
          rw [k3] at ru
          rw [g3] at k4
          simp only [Option.getD_some] at k4
          simp only [appLen, Nat.zero_add] at g5 g6
          refine l_appn h d (hd d hdst) hdst hop ht ht2 hi hz ru rv g3 g4 (fun r off m he => ?_) g5 g6 k4
          rw [he] at g2
          simp only [rowIs] at g2
          cases hq : stGet σ.st r with
          | none => rw [hq] at g2; exact g2.elim
          | some row =>
           rw [hq] at g2
           cases row with
           | sl s'' xs' => exact ⟨xs', by rw [show s'' = i.size from g2]⟩
           | _ => exact g2.elim
         ·exact hk.elim
       ·cases hof
      ·cases hof
     ·cases hof
    ·repeat' split at hof
     all_goals first | (cases hof; done) | (injection hof with hof; subst hof; simp [IOp.soft] at hsoft)
    ·cases hof
   ·cases hof
  ·repeat' split at hof
   all_goals first | (cases hof; done) | (injection hof with hof; subst hof; simp [IOp.soft] at hsoft)
  ·repeat' split at hof
   all_goals first | (cases hof; done) | (injection hof with hof; subst hof; simp [IOp.soft] at hsoft)
  ·repeat' split at hof
   all_goals first | (cases hof; done) | (injection hof with hof; subst hof; simp [IOp.soft] at hsoft)
  ·rename_i f
   split at hof
   ·rename_i z zs hz hzs
    injection hof with hof
    have hb : isOwn owns o.dst = false := by
     cases hb : isOwn owns o.dst
     ·rfl
     ·rw [hb] at hof; simp only [if_true] at hof; subst hof; simp [IOp.soft] at hsoft
    rw [hb] at hof
    simp only [Bool.false_eq_true, if_false] at hof
    subst hof
    simp only [vcOp] at hk
    split at hk
    ·rename_i d hdst
     obtain ⟨⟨k1, k2⟩, k3⟩ := hk
     split at k3
     ·rename_i g ps pure hca
      obtain ⟨v, rs, f1, f2, f3, f4⟩ := k3
      unfold callArgs at hca
      split at hca
      ·rename_i g' caps hg
       split at hca
       ·rename_i ps' hps
        injection hca with hca; injection hca with h1 h2; injection h2 with h2 h3
        subst h1; subst h2; subst h3
        rcases f4 with f4 | f4
        ·exact l_call h d (hd d hdst) hdst hop (Opd.of_sv h hz k1) hg hzs k2 hps f1 f2 f3 f4
        ·exact l_callz h d (hd d hdst) hdst hop (Opd.of_sv h hz k1) hg hzs k2 hps f1 f2 f3 _ f4
       ·cases hca
      ·cases hca
     ·exact k3.elim
    ·exact hk.elim
   ·cases hof
  ·cases hof
 | makeMap t rv =>
  cases rv with
  | some q =>
   simp only [IOp.of, hop] at hof
   split at hof
   ·rename_i z kt et hz ht
    injection hof with hof; subst hof
    simp only [vcOp] at hk
    split at hk
    ·rename_i d hdst
     obtain ⟨⟨k1, k2⟩, k3⟩ := hk
     obtain ⟨kk, hy⟩ := isInt_at h hz k1 k2
     exact l_mkmr h d (hd d hdst) hdst hop ht hy k3
    ·exact hk.elim
   ·cases hof
  | none =>
   simp only [IOp.of, hop, Option.some.injEq] at hof
   subst hof
   simp only [vcOp] at hk
   split at hk
   ·rename_i d hdst
    exact l_mkm h d (hd d hdst) hdst hop hk
   ·exact hk.elim
 | range t y =>
  simp only [IOp.of, hop] at hof
  split at hof
  ·rename_i z kt et hz ht
   injection hof with hof; subst hof
   simp only [vcOp] at hk
   split at hk
   ·rename_i d hdst
    obtain ⟨k1, k2⟩ := hk
    have ry := Opd.of_sv h hz k1
    unfold rngmGo at k2
    split at k2
    ·rename_i r he
     rw [he] at ry
     split at k2
     ·rename_i es hst
      exact l_rngm h d (hd d hdst) hdst hop ht hst ry k2.1 k2.2
     ·exact k2.elim
    ·exact k2.elim
   ·exact hk.elim
  ·rename_i z hz ht
   injection hof with hof; subst hof
   simp only [vcOp] at hk
   split at hk
   ·rename_i d hdst
    obtain ⟨k1, k2⟩ := hk
    have ry := Opd.of_sv h hz k1
    unfold rngsGo at k2
    split at k2
    ·rename_i s he
     rw [he] at ry
     exact l_rngs h d (hd d hdst) hdst hop ht ry k2
    ·exact k2.elim
   ·exact hk.elim
  ·cases hof
 | next y str =>
  simp only [IOp.of, hop] at hof
  split at hof
  ·injection hof with hof
   cases str <;> simp at hof <;> subst hof <;> simp [IOp.soft] at hsoft
  ·cases hof
 | _ =>
  exfalso
  simp only [IOp.of, hop] at hof
  repeat' split at hof
  all_goals first
   | contradiction
   | (injection hof with hof; subst hof; simp [IOp.soft] at hsoft; done)
   | (cases hof; done)
theorem stDel_twice : ∀ (l : List (Nat × Row)) (r : Nat), stDel (stDel l r) r = stDel l r
 | [], _ => rfl
 | (k, v) :: l, r => by
  simp only [stDel]
  by_cases h : k = r
  ·simp only [if_pos h, stDel_twice l r]
  ·simp only [if_neg h, stDel, stDel_twice l r]
theorem of_hard [EP e P] {op : IOp} (hof : IOp.of P owns o = some op) (hhard : op.hard = true) (hd : ∀ d, o.dst = some d → d < e.n) (h : SRel e σ x a) (hk : vcOp P σ o.dst op K) :
  ∀ Q, o.wp P a x.w (fun a' w' => ∃ σ' y, SRel e σ' y a' ∧ y.w = w' ∧ K σ') Q := by
 cases hop : o.op with
 | store t yp yv =>
  simp only [IOp.of, hop] at hof
  split at hof
  ·rename_i zp zv i hp hv hi
   ·injection hof with hof; subst hof
    simp only [vcOp] at hk
    split at hk
    ·rename_i hdst
     obtain ⟨⟨k1, k2, k3⟩, k4⟩ := hk
     have rp := Opd.of_sv h hp k1
     have rv := Opd.of_sv h hv k2
     unfold stOk at k3
     unfold stTo at k4
     split at k3
     ·rename_i r off he
      rw [he] at rp
      rw [he] at k4
      simp only at k4
      split at k3
      ·rename_i cs hr
       rw [hr] at k4
       exact l_st_box h hdst hop hi rp rv hr k3.1 k3.2.1 k3.2.2.1 k3.2.2.2 k4
      ·exact k3.elim
     ·rename_i r k off he
      rw [he] at rp
      rw [he] at k4
      simp only at k4
      split at k3
      ·rename_i s xs hr
       obtain ⟨hpos, g1, g2, ⟨ps, g3, g4⟩, g5, g6⟩ := k3
       rw [hr] at k4
       have e1 : pvsOf (zv.sv σ).cells = ps := by unfold pvsOf; rw [g3]
       simp only [e1] at k4
       exact l_st_sl h hdst hop hi rp rv hr g1 g2 hpos g3 (onesB_mem g4) g5 g6 k4
      ·rename_i cs hr
       obtain ⟨g1, g2, g3, g4, g5, g6⟩ := k3
       subst g5
       rw [hr] at k4
       exact l_st_bxs h hdst hop hi rp rv hr g1 g2 g3 g4 g6 k4
      ·exact k3.elim
     ·exact k3.elim
    ·exact hk.elim
  ·cases hof
 | mapUpdate t m k v =>
  simp only [IOp.of, hop] at hof
  split at hof
  ·rename_i a' b' c' str et ha hb hc hmap
   injection hof with hof; subst hof
   obtain ⟨kt, g1, g2⟩ := mapOf_parts hmap
   simp only [vcOp] at hk
   split at hk
   ·rename_i hdst
    obtain ⟨⟨k1, k2, k3⟩, k4⟩ := hk
    have ra := Opd.of_sv h ha k1
    have rb := Opd.of_sv h hb k2
    have rc := Opd.of_sv h hc k3
    unfold msetGo at k4
    split at k4
    ·rename_i r key val e1 e2 e3
     rw [e1] at ra; rw [e2] at rb; rw [e3] at rc
     split at k4
     ·rename_i es hst
      exact l_mset h hdst (.inl hop) g1 g2 hst ra rb rc k4.1 k4.2.1 k4.2.2
     ·exact k4.elim
    ·rename_i r key e1 e2 _
     rw [e1] at ra; rw [e2] at rb
     split at k4
     ·rename_i hst
      have hrow := h.st r _ (stGet_mem hst)
      simp only [Row.rel] at hrow
      obtain ⟨hok, ents, clock, hh, hlen, hents, hclk, hborn⟩ := hrow
      exact l_msetX (ks := []) (vs := []) h hdst (.inl hop) g1 g2 hst hok hh hlen rfl (fun i k v e hk => by simp at hk) hclk hborn ra rb rc k4.1 trivial rfl k4.2
     ·rename_i ks ws hst
      have hrow := h.st r _ (stGet_mem hst)
      simp only [Row.rel] at hrow
      obtain ⟨hok, ents, clock, hh, hlen, hlv, hents, hclk, hborn⟩ := hrow
      exact l_msetX h hdst (.inl hop) g1 g2 hst hok hh hlen hlv hents hclk hborn ra rb rc k4.1.1 k4.1.2 k4.2.1 k4.2.2
     ·exact k4.elim
    ·exact k4.elim
   ·exact hk.elim
  ·cases hof
 | insert t m k v =>
  simp only [IOp.of, hop] at hof
  split at hof
  ·rename_i a' b' c' str et ha hb hc hmap
   injection hof with hof; subst hof
   obtain ⟨kt, g1, g2⟩ := mapOf_parts hmap
   simp only [vcOp] at hk
   split at hk
   ·rename_i hdst
    obtain ⟨⟨k1, k2, k3⟩, k4⟩ := hk
    have ra := Opd.of_sv h ha k1
    have rb := Opd.of_sv h hb k2
    have rc := Opd.of_sv h hc k3
    unfold msetGo at k4
    split at k4
    ·rename_i r key val e1 e2 e3
     rw [e1] at ra; rw [e2] at rb; rw [e3] at rc
     split at k4
     ·rename_i es hst
      exact l_mset h hdst (.inr hop) g1 g2 hst ra rb rc k4.1 k4.2.1 k4.2.2
     ·exact k4.elim
    ·rename_i r key e1 e2 _
     rw [e1] at ra; rw [e2] at rb
     split at k4
     ·rename_i hst
      have hrow := h.st r _ (stGet_mem hst)
      simp only [Row.rel] at hrow
      obtain ⟨hok, ents, clock, hh, hlen, hents, hclk, hborn⟩ := hrow
      exact l_msetX (ks := []) (vs := []) h hdst (.inr hop) g1 g2 hst hok hh hlen rfl (fun i k v e hk => by simp at hk) hclk hborn ra rb rc k4.1 trivial rfl k4.2
     ·rename_i ks ws hst
      have hrow := h.st r _ (stGet_mem hst)
      simp only [Row.rel] at hrow
      obtain ⟨hok, ents, clock, hh, hlen, hlv, hents, hclk, hborn⟩ := hrow
      exact l_msetX h hdst (.inr hop) g1 g2 hst hok hh hlen hlv hents hclk hborn ra rb rc k4.1.1 k4.1.2 k4.2.1 k4.2.2
     ·exact k4.elim
    ·exact k4.elim
   ·exact hk.elim
  ·cases hof
 | call c =>
  obtain ⟨callee, args, argTypes⟩ := c
  simp only [IOp.of, hop] at hof
  split at hof
  ·split at hof
   ·split at hof
    ·injection hof with hof; subst hof; simp [IOp.hard] at hhard
    ·injection hof with hof; subst hof; simp [IOp.hard] at hhard
    ·injection hof with hof; subst hof; simp [IOp.hard] at hhard
    ·cases hof
   ·cases hof
  ·split at hof
   ·split at hof
    ·injection hof with hof; subst hof; simp [IOp.hard] at hhard
    ·cases hof
   ·cases hof
  ·split at hof
   ·split at hof
    ·injection hof with hof; subst hof; simp [IOp.hard] at hhard
    ·cases hof
   ·cases hof
  ·split at hof
   ·rename_i y z t t2 hargs htys
    have e1 : args = #[y, z] := Array.toList_inj.1 (by simpa using hargs)
    have e2 : argTypes = #[t, t2] := Array.toList_inj.1 (by simpa using htys)
    subst e1; subst e2
    split at hof
    ·rename_i u v et et2 hu hv ht ht2
     split at hof
     ·rename_i i hi
      split at hof
      ·rename_i zv hz
       split at hof
       ·rename_i hzs'
        obtain ⟨hzs, hzo'⟩ := hzs'
        have hzo : ∀ c ∈ zv.cells.toList, c.oneCell' = true := (zelem_rel x.w x.F zv).ones (onesB_mem hzo')
        injection hof with hof
        cases hsA : isSoftA owns o.dst
        case true => rw [hsA] at hof; simp only [if_true] at hof; subst hof; simp [IOp.hard] at hhard
        rw [hsA] at hof
        simp only [Bool.false_eq_true, if_false] at hof
        have rowIs_xs : ∀ {r s : Nat}, rowIs s (stGet σ.st r) → ∃ xs, stGet σ.st r = some (.sl s xs) := fun {r s} hr => by
         unfold rowIs at hr
         split at hr
         ·rename_i s' xs he; exact ⟨xs, by rw [he, hr]⟩
         ·exact hr.elim
        have main : ∀ {K : St → Prop} (d : Nat), o.dst = some d → VRel x (u.sv σ) (a.eval y) → VRel x (v.sv σ) (a.eval z) → appOk σ i.size i.bytes (u.sv σ) (v.sv σ) → K (appTo σ d i.size (u.sv σ) (v.sv σ)) →
          ∀ Q, o.wp P a x.w (fun a' w' => ∃ σ' y, SRel e σ' y a' ∧ y.w = w' ∧ K σ') Q := fun {K} d hdst ru rv ⟨g1, g2, ps, g3, g4, g5, g6⟩ k4 => by
         unfold appTo at k4
         rw [g3] at k4
         simp only [Option.getD_some] at k4
         have hrow : ∀ r off m, v.sv σ = .row r off m → ∃ xs, stGet σ.st r = some (.sl i.size xs) := fun r off m he => by
          rw [he] at g2
          exact rowIs_xs g2
         split at g1
         ·rename_i he
          rw [he] at k4 g5 g6 ru
          refine l_app h d (hd d hdst) hdst hop ht ht2 hi hz hzs hzo (r := d) (off := 0) (n := 0) (olds := []) ru rv g3 g4 hrow (.inl ⟨rfl, rfl, rfl⟩) g5 g6 (Nat.lt_of_lt_of_le (hd d hdst) (Nat.le_trans h.small (by omega))) ?_
          simpa only [appRow, appOld, appLen] using k4
         ·rename_i r off n he
          rw [he] at k4 g5 g6 ru
          obtain ⟨xs, hxs⟩ := rowIs_xs g1.1
          refine l_app h d (hd d hdst) hdst hop ht ht2 hi hz hzs hzo (r := r) (off := off) (n := n) (olds := (xs.drop off).take n) ru rv g3 g4 hrow (.inr ⟨rfl, xs, hxs, rfl⟩) g5 g6 g1.2 ?_
          simpa only [appRow, appOld, appLen, hxs, rowXs] using k4
         ·exact g1.elim
        have mainz : ∀ (d r : Nat), o.dst = some d → VRel x (u.sv σ) (a.eval y) → VRel x (v.sv σ) (a.eval z) → appOk σ i.size i.bytes (u.sv σ) (v.sv σ) → K ((appTo σ d i.size (u.sv σ) (v.sv σ)).frz1 r) →
          ∀ Q, o.wp P a x.w (fun a' w' => ∃ σ' y, SRel e σ' y a' ∧ y.w = w' ∧ K σ') Q := fun d r hdst ru rv g k4 Q => by
         refine Oper.wp_mono (fun a' w' ⟨σ', y, g1, g2, g3⟩ => ?_) (main (K := fun σ' => K (σ'.frz1 r)) d hdst ru rv g k4 Q)
         obtain ⟨z, q1, q2⟩ := g1.frz1 r
         exact ⟨_, z, q2, q1.trans g2, g3⟩
        cases hb : isOwn owns o.dst
        case true =>
         rw [hb] at hof
         simp only [if_true] at hof
         subst hof
         simp only [vcOp] at hk
         split at hk
         ·rename_i d hdst
          obtain ⟨⟨k1, k2⟩, k3⟩ := hk
          have ru := Opd.of_sv h hu k1
          have rv := Opd.of_sv h hv k2
          unfold appiGo at k3
          split at k3
          ·rename_i r off n he
           rw [he] at ru
           split at k3
           ·rename_i s' xs hr
            split at k3
            rotate_left
            ·rw [← he] at k3 ru
             exact mainz d r hdst ru rv k3.1 k3.2
            obtain ⟨rfl, g1, g2, ps, g3, g4, g5, g6⟩ := k3
            refine l_appi h d (hd d hdst) hdst hop ht ht2 hi ru rv g3 g4 (fun q off' m he' => ?_) hr (by omega) g5 g1 g6
            rw [he'] at g2
            simp only [rowIs] at g2
            cases hq : stGet σ.st q with
            | none => rw [hq] at g2; exact g2.elim
            | some row =>
             rw [hq] at g2
             cases row with
             | sl s'' xs' => exact ⟨xs', by rw [show s'' = i.size from g2]⟩
             | _ => exact g2.elim
           ·rename_i s' xs hr
            obtain ⟨rfl, g1, g2, ps, g3, g4, g5, g7, g8, g6⟩ := k3
            refine l_appf h d (hd d hdst) hdst hop ht ht2 hi hz hzs hzo ru rv g3 g4 (fun q off' m he' => ?_) hr g1 g5 g7 g8 g6
            rw [he'] at g2
            simp only [rowIs] at g2
            cases hq : stGet σ.st q with
            | none => rw [hq] at g2; exact g2.elim
            | some row =>
             rw [hq] at g2
             cases row with
             | sl s'' xs' => exact ⟨xs', by rw [show s'' = i.size from g2]⟩
             | _ => exact g2.elim
           ·exact k3.elim
          ·rename_i he
           rw [← he] at k3
           exact mainz d d hdst ru rv k3.1 k3.2
          ·exact k3.elim
         ·exact hk.elim
        rw [hb] at hof
        simp only [Bool.false_eq_true, if_false] at hof
        subst hof
        simp only [vcOp] at hk
        split at hk
        ·rename_i d hdst
         obtain ⟨⟨k1, k2, g⟩, k4⟩ := hk
         exact main d hdst (Opd.of_sv h hu k1) (Opd.of_sv h hv k2) g k4
        ·exact hk.elim
       ·cases hof
      ·cases hof
     ·cases hof
    ·rename_i u v et k2 hu hv ht ht2
     split at hof
     ·rename_i i hi
      split at hof
      ·rename_i zv hz
       split at hof
       ·rename_i hzs'
        obtain ⟨hzs, hz0, hzo'⟩ := hzs'
        have hzo : ∀ c ∈ zv.cells.toList, c.oneCell' = true := (zelem_rel x.w x.F zv).ones (onesB_mem hzo')
        injection hof with hof; subst hof
        simp only [vcOp] at hk
        split at hk
        ·rename_i d hdst
         obtain ⟨⟨k1, k2⟩, k3⟩ := hk
         have ru := Opd.of_sv h hu k1
         have rv := Opd.of_sv h hv k2
         unfold appzGo at k3
         split at k3
         ·rename_i r off n kk m he he2
          rw [he] at ru
          rw [he2] at rv
          split at k3
          ·rename_i s' xs hr
           obtain ⟨rfl, g0, g1, g5, g7, g8, g6⟩ := k3
           exact l_appz h d (hd d hdst) hdst hop ht ht2 hi hz hzs hzo hz0 (fun w F => zelem_rel w F zv) (onesB_mem hzo') ru (by simpa only [VRel, PRel] using rv) g0 hr g1 g5 g7 g8 g6
          ·exact k3.elim
         ·exact k3.elim
        ·exact hk.elim
       ·cases hof
      ·cases hof
     ·cases hof
    ·cases hof
   ·cases hof
  ·split at hof
   ·rename_i y t hargs htys
    have e1 : args = #[y] := Array.toList_inj.1 (by simpa using hargs)
    have e2 : argTypes = #[t] := Array.toList_inj.1 (by simpa using htys)
    subst e1; subst e2
    split at hof
    ·rename_i u et hu ht
     split at hof
     ·rename_i i hi
      split at hof
      ·rename_i zv hz
       split at hof
       ·rename_i hcond
        obtain ⟨hzs, hpos, hone⟩ := hcond
        injection hof with hof; subst hof
        simp only [vcOp] at hk
        split at hk
        ·rename_i hdst
         obtain ⟨k1, k2⟩ := hk
         have ru := Opd.of_sv h hu k1
         unfold clrGo at k2
         split at k2
         ·rename_i r off n he
          rw [he] at ru
          split at k2
          ·rename_i s' xs hr
           obtain ⟨rfl, g1, g2, g3⟩ := k2
           have hpz := zelem_rel x.w x.F zv
           exact l_clr h hdst hop ht hi hz ru hr g1 g2 hpz ⟨by have := hpz.length; rw [← this]; simpa using hzs, onesB_mem hone⟩ g3
          ·exact k2.elim
         ·exact k2.elim
        ·exact hk.elim
       ·cases hof
      ·cases hof
     ·cases hof
    ·cases hof
   ·cases hof
  ·split at hof
   ·rename_i y t hargs htys
    have e1 : args = #[y] := Array.toList_inj.1 (by simpa using hargs)
    have e2 : argTypes = #[t] := Array.toList_inj.1 (by simpa using htys)
    subst e1; subst e2
    split at hof
    ·rename_i u et hu ht
     injection hof with hof; subst hof
     simp only [vcOp] at hk
     split at hk
     ·rename_i d hdst
      obtain ⟨k1, k2⟩ := hk
      have ru := Opd.of_sv h hu k1
      unfold caprGo at k2
      split at k2
      ·rename_i r off n he
       rw [he] at ru
       split at k2
       ·rename_i s xs hr
        obtain ⟨rfl, g1, g2⟩ := k2
        exact l_cap h d (hd d hdst) hdst hop ht ru hr g1 g2
       ·exact k2.elim
      ·exact k2.elim
     ·exact hk.elim
    ·cases hof
   ·cases hof
  ·split at hof
   ·rename_i y z t t2 hargs htys
    have e1 : args = #[y, z] := Array.toList_inj.1 (by simpa using hargs)
    have e2 : argTypes = #[t, t2] := Array.toList_inj.1 (by simpa using htys)
    subst e1; subst e2
    split at hof
    ·rename_i u v et hu hv ht
     split at hof
     ·rename_i i hi
      injection hof with hof; subst hof
      simp only [vcOp] at hk
      split at hk
      ·rename_i d hdst
       obtain ⟨⟨k1, k2⟩, k3⟩ := hk
       have ru := Opd.of_sv h hu k1
       have rv := Opd.of_sv h hv k2
       have src : ∀ {ps : List PV} {N n : Nat}, (match v.sv σ with
         | .row q _ _ => rowS (stGet σ.st q) = some i.size
         | _ => True) → cpSrc σ (v.sv σ) = some ps → WfL i.size ps → 0 < N → Nat.min ps.length n = N →
         ∃ news, (∀ w', w'.heap = x.w.heap → (Builtin.firstCells i.size N (a.eval z)).run P w' = .ok news.toArray w') ∧ (∀ w', (Builtin.lenOf (a.eval z)).run P w' = .ok ps.length w') ∧ PRels x.w x.F (flat (ps.take N)) news := by
        intro ps N n g1 g2 g3 g4 g5
        refine cp_src h rv g2 g3 (fun q off m he => ?_) (by rw [← g5]; exact Nat.min_le_left _ _) g4
        rw [he] at g1
        exact g1
       unfold cpyGo at k3
       split at k3
       ·rename_i r off n he
        rw [he] at ru
        split at k3
        ·rename_i s' xs hr
         obtain ⟨rfl, g0, g1, ps, N, g2, g3, g4, g5, g6⟩ := k3
         obtain ⟨news, n1, n2, n3⟩ := src g1 g2 g3 g4 g5
         exact l_cpy h d (hd d hdst) hdst hop ht hi g5 ru n1 n2 (by rw [List.length_take, ← g5]; have := Nat.min_le_left ps.length n; exact Nat.min_eq_left this) n3 g3.take hr g0 g6
        ·rename_i s' xs hr
         obtain ⟨rfl, g0, g1, ps, N, g2, g3, g4, g5, g6⟩ := k3
         obtain ⟨news, n1, n2, n3⟩ := src g1 g2 g3 g4 g5
         refine l_cpy (h.weakF hr) d (hd d hdst) hdst hop ht hi g5 ru n1 n2 (by rw [List.length_take, ← g5]; have := Nat.min_le_left ps.length n; exact Nat.min_eq_left this) n3 g3.take (xs := xs) (by simp [stGet]) g0 ?_
         have e1 : stDel ((r, Row.sl i.size xs) :: stDel σ.st r) r = stDel σ.st r := by
          simp only [stDel, if_true]
          exact stDel_twice _ _
         rw [e1]
         exact g6
        ·exact k3.elim
       ·exact k3.elim
      ·exact hk.elim
     ·cases hof
    ·cases hof
   ·cases hof
  ·rename_i f
   split at hof
   ·rename_i z zs hz hzs
    injection hof with hof
    have hb : isOwn owns o.dst = true := by
     cases hb : isOwn owns o.dst
     ·rw [hb] at hof; simp only [Bool.false_eq_true, if_false] at hof; subst hof; simp [IOp.hard] at hhard
     ·rfl
    rw [hb] at hof
    simp only [if_true] at hof
    subst hof
    simp only [vcOp] at hk
    split at hk
    ·rename_i d hdst
     obtain ⟨⟨k1, k2⟩, k3⟩ := hk
     split at k3
     ·rename_i g caps hg
      rcases k3 with k3 | ⟨v, f1, f2⟩
      case inr => exact l_callx h d (hd d hdst) hdst hop (Opd.of_sv h hz k1) hg hzs k2 f1 f2
      obtain ⟨m, as, st, st', v, f1, f2, f3, f4, f5, f6, f7, f8⟩ := k3
      exact l_calls h d (hd d hdst) hdst hop (Opd.of_sv h hz k1) hg hzs k2 f1 f2 f3 f4 f5 f6 f7 f8
     ·split at k3
      ·rename_i g first hg
       obtain ⟨m, as, st, st', v, f1, f2, f3, f4, f5, f6, f7, f8⟩ := k3
       exact l_callsB h d (hd d hdst) hdst hop (Opd.of_sv h hz k1) hg hzs k2 f1 f2 f3 f4 f5 f6 f7 f8
      ·exact k3.elim
    ·exact hk.elim
   ·cases hof
  ·cases hof
 | next y str =>
  simp only [IOp.of, hop] at hof
  split at hof
  ·rename_i z hz
   injection hof with hof
   cases str
   ·simp only [Bool.false_eq_true, if_false] at hof
    subst hof
    simp only [vcOp] at hk
    split at hk
    ·rename_i d hdst
     obtain ⟨k1, k2⟩ := hk
     have ry := Opd.of_sv h hz k1
     unfold nxtmGo at k2
     split at k2
     ·rename_i r he
      rw [he] at ry
      split at k2
      ·rename_i m n rem cur hst
       split at k2
       ·rename_i es hsm
        exact l_nxtm h d (hd d hdst) hdst hop hst hsm k2.1 ry k2.2.1 k2.2.2
       ·exact k2.elim
      ·exact k2.elim
     ·exact k2.elim
    ·exact hk.elim
   ·simp only [if_true] at hof
    subst hof
    simp only [vcOp] at hk
    split at hk
    ·rename_i d hdst
     obtain ⟨k1, k2⟩ := hk
     have ry := Opd.of_sv h hz k1
     unfold nxtsGo at k2
     split at k2
     ·rename_i r he
      rw [he] at ry
      split at k2
      ·rename_i s pos hst
       exact l_nxts h d (hd d hdst) hdst hop hst ry k2.1 k2.2
      ·exact k2.elim
     ·exact k2.elim
    ·exact hk.elim
  ·cases hof
 | _ =>
  exfalso
  simp only [IOp.of, hop] at hof
  repeat' split at hof
  all_goals first
   | contradiction
   | (injection hof with hof; subst hof; simp [IOp.hard] at hhard; done)
   | (injection hof with hof; cases hb : isOwn owns o.dst <;> simp [hb] at hof <;> subst hof <;> simp [IOp.hard] at hhard; done)
   | (cases hof; done)
end
end Go.Vc

namespace Go.Vc
open Go.RowKit
set_option linter.constructorNameAsVariable false
def gOf (ops : Array Oper) : Option (Nat × Bool) → Option (Option (Nat × Bool))
 | none => some none
 | some (j, b) => match ops[j]? with
  | some oj => match oj.dst with
   | some t => some (some (t, b))
   | none => none
  | none => none
def dstOk (n : Nat) : Option Nat → Bool
 | none => true
 | some d => decide (d < n)
def instOf (P : Program) (owns : List Nat) (n : Nat) (ops : Array Oper) (o : Oper) : Option Inst :=
 match IOp.of P owns o, gOf ops o.guard with
 | some op, some g => if dstOk n o.dst then some ⟨o.dst, g, op⟩ else none
 | _, _ => none
section
variable {P : Program} {e : Env} {σ : St} {x : Cx} {a : Act} {o : Oper} {owns : List Nat} {K : St → Prop} {ops : Array Oper}
theorem instOf_parts {i : Inst} (h : instOf P owns e.n ops o = some i) : IOp.of P owns o = some i.op ∧ gOf ops o.guard = some i.g ∧ i.d = o.dst ∧ ∀ d, o.dst = some d → d < e.n := by
 unfold instOf at h
 split at h
 ·rename_i op g h1 h2
  split at h
  ·rename_i hd
   injection h with h; subst h
   refine ⟨h1, h2, rfl, fun d hdst => ?_⟩
   rw [hdst] at hd
   simpa [dstOk] using hd
  ·cases h
 ·cases h
theorem get_known (h : SRel e σ x a) {t : Nat} (hk : frGet σ.fr t ≠ .un) : ∃ cv, a.tmps[t]? = some cv ∧ VRel x (frGet σ.fr t) cv := by
 rcases frGet_mem (l := σ.fr) (k := t) with h1 | h1
 ·exact absurd h1 hk
 ·exact h.fr _ _ h1
def asB : Value → Option Bool
 | .bool b => some b
 | _ => none
theorem wanted_none (hg : o.guard = none) (y : Nat → Option Bool) : Region.wanted o y = true := by simp [Region.wanted, hg]
theorem wanted_gv (h : SRel e σ x a) {t : Nat} {b : Bool} (hg : gOf ops o.guard = some (some (t, b))) (hok : (frGet σ.fr t).gok) : Region.wanted o (yielded ops a.tmps) = (frGet σ.fr t).gv b := by
 cases hgd : o.guard with
 | none => rw [hgd] at hg; simp [gOf] at hg
 | some jb =>
  obtain ⟨j, b'⟩ := jb
  rw [hgd] at hg
  simp only [gOf] at hg
  split at hg
  ·rename_i oj hj
   split at hg
   ·rename_i t' ht
    injection hg with hg; injection hg with hg; injection hg with h1 h2
    subst h1; subst h2
    have hne : frGet σ.fr t' ≠ .un := fun hu => by rw [hu] at hok; exact hok
    obtain ⟨cv, h1, h2⟩ := get_known h hne
    have hy : yielded ops a.tmps j = asB cv := by
     unfold yielded
     simp only [hj, Option.bind_some, ht, h1]
     cases cv <;> rfl
    unfold Region.wanted
    rw [hgd]
    simp only [hy]
    unfold AV.gok at hok
    split at hok
    ·rename_i c he
     rw [he] at h2
     simp only [VRel, PRel] at h2
     subst h2
     simp only [he, AV.gv]
     cases c <;> cases b' <;> rfl
    ·rename_i c' v he
     rw [he] at h2
     simp only [VRel] at h2
     simp only [he, AV.gv]
     cases c' with
     | false => rw [h2.2 rfl]; simp [undef, asB]
     | true =>
      have hv := h2.1 rfl
      have hb : v.isB := hok.resolve_left (by simp)
      unfold AV.isB at hb
      split at hb
      ·rename_i c
       simp only [VRel, PRel] at hv
       rw [hv]
       cases c <;> cases b' <;> rfl
      ·exact hb.elim
    ·exact hok.elim
   ·cases hg
  ·cases hg
theorem SRel.whn {d : Nat} {v : AV} {c : Bool} (h : SRel e (σ.put d v) x a) (hc : c = true) : SRel e (σ.put d (.whn c v)) x a :=
 {h with
  fr := fun k u hm => by
   simp only [St.put, frPut] at hm
   rcases List.mem_cons.1 hm with hm | hm
   ·injection hm with h1 h2
    subst h1; subst h2
    obtain ⟨cv, g1, g2⟩ := h.fr k v (by simp [St.put, frPut])
    exact ⟨cv, g1, by simp only [VRel]; exact ⟨fun _ => g2, fun hf => by rw [hc] at hf; cases hf⟩⟩
   ·exact h.fr k u (by simp only [St.put, frPut]; exact List.mem_cons_of_mem _ hm) }
theorem SRel.skip (h : SRel e σ x a) {d : Nat} (hd : d < e.n) {v : AV} {c : Bool} (hc : c = false) : SRel e (σ.put d (.whn c v)) x (a.put (some d) undef) :=
 h.put hd (by unfold VRel; exact ⟨fun ht => (by rw [hc] at ht; cases ht), fun _ => rfl⟩)
theorem guard_none {g : Option (Nat × Bool)} (h2 : gOf ops g = some none) : g = none := by
 cases g with
 | none => rfl
 | some jb =>
  obtain ⟨j, b⟩ := jb
  simp only [gOf] at h2
  repeat' split at h2
  all_goals cases h2
theorem inst_quiet {i : Inst} {is : List Inst} (hi : instOf P owns e.n ops o = some i) (hq : i.op.quiet = true) (h : SRel e σ x a) (hk : vcOps P (i :: is) σ K) :
  ∃ cv σ', YieldsIf P ops (Agr x.w) o cv a ∧ SRel e σ' x (a.put o.dst cv) ∧ vcOps P is σ' K := by
 obtain ⟨h1, h2, h3, h4⟩ := instOf_parts hi
 obtain ⟨d, g, op⟩ := i
 simp only at h1 h2 h3 hq
 subst h3
 cases op with
 | q q =>
  cases g with
  | none =>
   simp only [vcOps, vcOp] at hk
   split at hk
   ·rename_i d hdst
    obtain ⟨cv, k1, k2⟩ := of_q h1 h hk.1
    have hg : o.guard = none := guard_none h2
    rw [hdst]
    exact ⟨cv, _, .inl ⟨wanted_none hg _, fun w hw => k2 w hw⟩, h.put (h4 d hdst) k1, hk.2⟩
   ·exact hk.elim
  | some tb =>
   obtain ⟨t, b⟩ := tb
   simp only [vcOps, vcGd] at hk
   split at hk
   ·rename_i d hdst
    obtain ⟨g1, g2, g3⟩ := hk
    have hw := wanted_gv h h2 g1
    rw [hdst]
    cases hb : (frGet σ.fr t).gv b
    ·rw [hb] at hw g3
     exact ⟨undef, _, .inr ⟨hw, rfl⟩, h.skip (h4 d hdst) rfl, g3⟩
    ·rw [hb] at hw g3
     obtain ⟨cv, k1, k2⟩ := of_q h1 h (g2 hb)
     exact ⟨cv, _, .inl ⟨hw, fun w hw => k2 w hw⟩, (h.put (h4 d hdst) k1).whn rfl, g3⟩
   ·exact hk.elim
 | _ => simp [IOp.quiet] at hq
def Behind (P : Program) (e : Env) (is : List Inst) (K : St → Prop) (a : Act) (w : World) : Prop := ∃ σ' y, SRel e σ' y a ∧ y.w = w ∧ vcOps P is σ' K
theorem inst_soft [EP e P] {i : Inst} {is : List Inst} (hi : instOf P owns e.n ops o = some i) (hs : i.op.soft = true) (h : SRel e σ x a) (hk : vcOps P (i :: is) σ K) (Q : Exit → Act → World → Prop) :
  if Region.wanted o (yielded ops a.tmps) then o.wp P a x.w (fun a' w' => Agr x.w w' ∧ Behind P e is K a' w') Q else Agr x.w x.w ∧ Behind P e is K (a.put o.dst undef) x.w := by
 obtain ⟨h1, h2, h3, h4⟩ := instOf_parts hi
 obtain ⟨d, g, op⟩ := i
 simp only at h1 h2 h3 hs
 subst h3
 cases g with
 | none =>
  rw [if_pos (wanted_none (guard_none h2) _)]
  simp only [vcOps] at hk
  exact Oper.wp_mono (fun a' w' ⟨σ', y, g1, g2, g3, g4⟩ => ⟨g4, σ', y, g1, g2, g3⟩) (of_soft h1 hs h4 h hk Q)
 | some tb =>
  obtain ⟨t, b⟩ := tb
  simp only [vcOps] at hk
  cases op with
  | lits xs s =>
   simp only [vcGd] at hk
   split at hk
   ·rename_i d hdst
    obtain ⟨g1, g2, g3⟩ := hk
    have hw := wanted_gv h h2 g1
    cases hb : (frGet σ.fr t).gv b
    ·rw [hw, hb, if_neg (by simp), hdst]
     rw [hb] at g3
     exact ⟨Agr.refl _, _, x, h.skip (h4 d hdst) rfl, rfl, g3⟩
    ·rw [hw, hb, if_pos rfl]
     rw [hb] at g3
     have hv : vcOp P σ o.dst (.lits xs s) (fun σ' => σ' = σ.put d (mkLit (evs σ xs))) := by
      simp only [vcOp, hdst]
      exact ⟨g2 hb, trivial⟩
     exact Oper.wp_mono (fun a' w' ⟨σ', y, k1, k2, k3, k4⟩ => ⟨k4, _, y, by rw [k3] at k1; exact k1.whn rfl, k2, g3⟩) (of_soft h1 rfl h4 h hv Q)
   ·exact hk.elim
  | call f args =>
   simp only [vcGd] at hk
   split at hk
   ·rename_i d hdst
    obtain ⟨g1, g2, g3⟩ := hk
    have hw := wanted_gv h h2 g1
    split at g3
    ·rename_i gg ps pure hca
     obtain ⟨p, f1, f2⟩ := g3
     cases hb : (frGet σ.fr t).gv b
     ·rw [hw, hb, if_neg (by simp), hdst]
      rw [hb] at f2
      exact ⟨Agr.refl _, _, x, h.skip (h4 d hdst) rfl, rfl, f2⟩
     ·rw [hw, hb, if_pos rfl]
      rw [hb] at f2
      have hv : vcOp P σ o.dst (.call f args) (fun σ' => σ' = σ.put d (.pv p)) := by
       simp only [vcOp, hdst, hca]
       exact ⟨g2 hb, .pv p, [], (f1 hb).1, (f1 hb).2.imp id (fun hf => ⟨hf, trivial⟩), trivial, .inl rfl⟩
      exact Oper.wp_mono (fun a' w' ⟨σ', y, k1, k2, k3, k4⟩ => ⟨k4, _, y, by rw [k3] at k1; exact k1.whn rfl, k2, f2⟩) (of_soft h1 rfl h4 h hv Q)
    ·exact g3.elim
   ·exact hk.elim
  | q q => simp [IOp.soft] at hs
  | _ =>
   simp only [vcGd] at hk
   obtain ⟨g1, g2, g3⟩ := hk
   rw [wanted_gv h h2 g1, g2, if_pos rfl]
   exact Oper.wp_mono (fun a' w' ⟨σ', y, g1, g2, g3, g4⟩ => ⟨g4, σ', y, g1, g2, g3⟩) (of_soft h1 hs h4 h g3 Q)
theorem inst_hard [EP e P] {i : Inst} {is : List Inst} (hi : instOf P owns e.n ops o = some i) (hh : i.op.hard = true) (h : SRel e σ x a) (hk : vcOps P (i :: is) σ K) (Q : Exit → Act → World → Prop) :
  Region.wanted o (yielded ops a.tmps) = true ∧ o.wp P a x.w (Behind P e is K) Q := by
 obtain ⟨h1, h2, h3, h4⟩ := instOf_parts hi
 obtain ⟨d, g, op⟩ := i
 simp only at h1 h2 h3 hh
 subst h3
 cases g with
 | none =>
  simp only [vcOps] at hk
  exact ⟨wanted_none (guard_none h2) _, of_hard h1 hh h4 h hk Q⟩
 | some tb =>
  obtain ⟨t, b⟩ := tb
  simp only [vcOps] at hk
  cases op with
  | q _ => simp [IOp.hard] at hh
  | lits _ _ => simp [IOp.hard] at hh
  | call _ _ => simp [IOp.hard] at hh
  | _ =>
   simp only [vcGd] at hk
   obtain ⟨g1, g2, g3⟩ := hk
   exact ⟨by rw [wanted_gv h h2 g1, g2], of_hard h1 hh h4 h g3 Q⟩
theorem kinds (op : IOp) : op.quiet = true ∨ op.soft = true ∨ op.hard = true := by cases op <;> simp [IOp.quiet, IOp.soft, IOp.hard]
theorem inst_any [EP e P] {i : Inst} {is : List Inst} (hi : instOf P owns e.n ops o = some i) (h : SRel e σ x a) (hk : vcOps P (i :: is) σ K) (Q : Exit → Act → World → Prop) :
  if Region.wanted o (yielded ops a.tmps) then o.wp P a x.w (Behind P e is K) Q else Behind P e is K (a.put o.dst undef) x.w := by
 rcases kinds i.op with hq | hs | hh
 ·obtain ⟨cv, σ', hy, h1, h2⟩ := inst_quiet hi hq h hk
  rcases hy with ⟨hw, hr⟩ | ⟨hw, hv⟩
  ·rw [hw, if_pos rfl]
   exact wp_value (hr x.w (Agr.refl _)) ⟨σ', x, h1, rfl, h2⟩
  ·rw [hw, if_neg (by simp)]
   subst hv
   exact ⟨σ', x, h1, rfl, h2⟩
 ·have := inst_soft hi hs h hk Q
  split at this
  ·rename_i hw; rw [if_pos hw]; exact Oper.wp_mono (fun _ _ hb => hb.2) this
  ·rename_i hw; rw [if_neg hw]; exact this.2
 ·obtain ⟨hw, h1⟩ := inst_hard hi hh h hk Q
  rw [hw, if_pos rfl]; exact h1
def instsOf (P : Program) (owns : List Nat) (n : Nat) (ops : Array Oper) : List Oper → Option (List Inst)
 | [] => some []
 | o :: os => match instOf P owns n ops o, instsOf P owns n ops os with
  | some i, some is => some (i :: is)
  | _, _ => none
theorem list_sound [EP e P] {Q : Exit → Act → World → Prop} (hQ : ∀ a w σ y, SRel e σ y a → y.w = w → K σ → Q .normal a w) : ∀ (os : List Oper) (is : List Inst) (σ : St) (x : Cx) (a : Act), instsOf P owns e.n ops os = some is → SRel e σ x a →
  vcOps P is σ K → wpList P ops Q os a x.w
 | [], is, σ, x, a, hi, h, hk => by
  simp only [instsOf, Option.some.injEq] at hi; subst hi
  exact hQ a x.w σ x h rfl hk
 | o :: os, is, σ, x, a, hi, h, hk => by
  simp only [instsOf] at hi
  split at hi
  ·rename_i i is' h1 h2
   injection hi with hi; subst hi
   have := inst_any h1 h hk Q
   unfold wpList
   split
   ·rename_i hw
    rw [if_pos hw] at this
    exact .inl (Oper.wp_mono (fun a' w' ⟨σ', y, g1, g2, g3⟩ => by rw [← g2]; exact list_sound hQ os is' σ' y a' h2 g1 g3) this)
   ·rename_i hw
    rw [if_neg hw] at this
    obtain ⟨σ', y, g1, g2, g3⟩ := this
    rw [← g2]
    exact list_sound hQ os is' σ' y _ h2 g1 g3
  ·cases hi
end
end Go.Vc

namespace Go.Vc
open Go.RowKit
section
variable {P : Program} {ops : Array Oper} {Q : Exit → Act → World → Prop} {calm : Nat → Bool}
def wpAnyK (P : Program) (ops : Array Oper) (Q : Exit → Act → World → Prop) (calm : Nat → Bool) : Nat → Array Bool → Act → World → Prop
 | 0, listed, a, w => Region.ready .any ops listed = [] ∧ Q .normal a w
 | fuel + 1, listed, a, w =>
  (Region.ready .any ops listed = [] → Q .normal a w) ∧
  ∀ i ∈ Region.ready .any ops listed, wpOp P ops Q i (fun a' w' => (calm i = true → Agr w w') ∧ wpAnyK P ops Q calm fuel (listed.setIfInBounds i true) a' w') a w
theorem wpAny_of_K : ∀ (fuel : Nat) (listed : Array Bool) (a : Act) (w : World), wpAnyK P ops Q calm fuel listed a w → wpAny P .any ops Q fuel listed a w
 | 0, _, _, _, h => h
 | fuel + 1, _, _, _, h => ⟨h.1, fun i hi => wpOp_mono (fun a' w' h' => wpAny_of_K fuel _ a' w' h'.2) (h.2 i hi)⟩
def wpAnyS (P : Program) (ops : Array Oper) (Q : Exit → Act → World → Prop) (calm : Nat → Bool) (S : World → Prop) : Nat → Array Bool → Act → World → Prop
 | 0, listed, a, w => Region.ready .any ops listed = [] ∧ Q .normal a w
 | fuel + 1, listed, a, w =>
  (Region.ready .any ops listed = [] → Q .normal a w) ∧
  ∀ i ∈ Region.ready .any ops listed, wpOp P ops Q i (fun a' w' => (calm i = true → Agr w w') ∧ S w' ∧ wpAnyS P ops Q calm S fuel (listed.setIfInBounds i true) a' w') a w
theorem wpAnyK_of_S {S : World → Prop} : ∀ (fuel : Nat) (listed : Array Bool) (a : Act) (w : World), wpAnyS P ops Q calm S fuel listed a w → wpAnyK P ops Q calm fuel listed a w
 | 0, _, _, _, h => h
 | fuel + 1, _, _, _, h => ⟨h.1, fun i hi => wpOp_mono (fun a' w' h' => ⟨h'.1, wpAnyK_of_S fuel _ a' w' h'.2.2⟩) (h.2 i hi)⟩
theorem wpAnyS_mono {S T : World → Prop} (hs : ∀ w, S w → T w) : ∀ (fuel : Nat) (listed : Array Bool) (a : Act) (w : World), wpAnyS P ops Q calm S fuel listed a w → wpAnyS P ops Q calm T fuel listed a w
 | 0, _, _, _, h => h
 | fuel + 1, _, _, _, h => ⟨h.1, fun i hi => wpOp_mono (fun a' w' h' => ⟨h'.1, hs _ h'.2.1, wpAnyS_mono hs fuel _ a' w' h'.2.2⟩) (h.2 i hi)⟩
theorem wpAnyS_first {S T : World → Prop} {i : Nat} {oi : Oper} {v : Value} {D : Nat → Bool} (hi : ops[i]? = some oi) (hsel : ∀ (j : Nat) (o : Oper) cs b, ops[j]? = some o → o.op ≠ .select cs b)
  (hQ : ∀ c a w, ¬ Q (.panic c) a w)
  (hD : ∀ d, D d = true → d ≠ i → ∀ od, ops[d]? = some od → ∃ e ∈ od.after, Region.binds .any e = true ∧ D e.on = true) :
  ∀ (fuel : Nat) (listed : Array Bool) (a : Act) (w : World),
   (∀ d, D d = true → listed.getD d false = false) → D i = true →
   (∀ j oj, ops[j]? = some oj → D j = false → listed.getD j true = false → (∀ w w', (calm j = true → Agr w w') → S w' → T w → T w') ∧ oi.apart ops oj = true) →
   i ∈ Region.ready .any ops listed → S w → T w → YieldsIf P ops T oi v a →
   wpAnyS P ops Q calm S fuel (listed.setIfInBounds i true) (a.put oi.dst v) w → wpAnyS P ops Q calm S (fuel + 1) listed a w := by
 have took : ∀ (fuel : Nat) (listed : Array Bool) (a : Act) (w : World), S w → T w → YieldsIf P ops T oi v a → wpAnyS P ops Q calm S fuel (listed.setIfInBounds i true) (a.put oi.dst v) w →
   wpOp P ops Q i (fun a' w' => (calm i = true → Agr w w') ∧ S w' ∧ wpAnyS P ops Q calm S fuel (listed.setIfInBounds i true) a' w') a w := fun fuel listed a w hs ht hy H =>
  hy.wpOp hi ht ⟨fun _ => Agr.refl w, hs, H⟩
 intro fuel
 induction fuel with
 | zero =>
  intro listed a w _ _ hfree hr hs ht hy H
  refine ⟨fun h => (by rw [h] at hr; cases hr), fun j hj => ?_⟩
  by_cases hji : j = i
  ·subst hji; exact took 0 listed a w hs ht hy H
  ·have := ready_mono hj hji
   rw [H.1] at this
   cases this
 | succ fuel ih =>
  intro listed a w hdis hDi hfree hr hs ht hy H
  refine ⟨fun h => (by rw [h] at hr; cases hr), fun j hj => ?_⟩
  by_cases hji : j = i
  ·subst hji; exact took (fuel + 1) listed a w hs ht hy H
  ·have h1 := H.2 j (ready_mono hj hji)
   obtain ⟨hjun, oj, hoj, hall⟩ := mem_ready.1 hj
   have hjD : D j = false := by
    cases hDj : D j
    ·rfl
    ·obtain ⟨e, he, hb, hDe⟩ := hD j hDj hji oj hoj
     have h2 := hall e he hb
     rw [hdis _ hDe] at h2
     cases h2
   obtain ⟨hstay, hap⟩ := hfree j oj hoj hjD hjun
   have h2 := wpOp_putIf hoj hap (fun cs b => hsel i oi cs b hi) (fun cs b => hsel j oj cs b hoj) (fun c a w hp => (hQ _ _ _ hp).elim) hy h1
   refine wpOp_mono (fun a' w' h3 => ⟨h3.2.1, h3.2.2.1, ?_⟩) h2
   refine ih (listed.setIfInBounds j true) a' w' (fun d hd => ?_) hDi (fun k ok hk hkD hun => ?_) (ready_mono hr (Ne.symm hji)) h3.2.2.1 (hstay w w' h3.2.1 h3.2.2.1 ht) h3.1 ?_
   ·have hjd : j ≠ d := fun h => by rw [h] at hjD; rw [hjD] at hd; cases hd
    rw [getD_set_ne false hjd]
    exact hdis d hd
   ·refine hfree k ok hk hkD ?_
    by_cases hjk : j = k
    ·subst hjk; exact hjun
    ·rw [getD_set_ne true hjk] at hun; exact hun
   ·rw [Array.setIfInBounds_comm _ _ hji]
    exact h3.2.2.2
def Env.at (e : Env) (σ : St) (x : Cx) : Env := { e with w0 := x.w, L := Own σ.st x.ρ, ρ0 := x.ρ }
instance {e : Env} {σ : St} {x : Cx} [EP e P] : EP (e.at σ x) P := ⟨EP.eq (e := e)⟩
theorem Own.old {e : Env} {σ : St} {x : Cx} {a : Act} (h : SRel e σ x a) {b : Nat} (ho : Own σ.st x.ρ b) : e.w0.heap.size ≤ b ∨ e.L b := by
 obtain ⟨r, row, h1, h2, h3⟩ := ho
 rw [← h3]; exact h.own r row h1 h2
theorem SRel.at {e : Env} [EP e P] {σ : St} {x : Cx} {a : Act} (h : SRel e σ x a) : SRel (e.at σ x) σ x a :=
 {h with
  own := fun r row h1 h2 => .inr ⟨r, row, h1, h2, rfl⟩
  f0 := fun b hb => ⟨Nat.lt_of_lt_of_le (h.f0 b hb).1 h.below.size, fun ho => by
   rcases Own.old h ho with h1 | h1
   ·exact absurd (h.f0 b hb).1 (by omega)
   ·exact (h.f0 b hb).2 h1⟩
  below := BelowL.refl _ _
  fix := fun _ _ => rfl
  tabs := by
   have h1 := h.now (P := P)
   have h2 : e.P = P := EP.eq
   show Tabs e.P x.w (fun b => e.F0 b ∨ Own σ.st x.ρ b)
   rw [h2]
   exact h1.on (fun _ _ _ => rfl) (Nat.le_refl _) fun b _ hb => (h.F b).2 hb }
theorem SRel.back {e : Env} {σ τ : St} {x y : Cx} {a a' : Act} (h : SRel e σ x a) (k : SRel (e.at σ x) τ y a') : SRel e τ y a' :=
 {k with
  own := fun r row h1 h2 => by
   rcases k.own r row h1 h2 with h3 | h3
   ·exact .inl (Nat.le_trans h.below.size h3)
   ·exact Own.old h h3
  f0 := h.f0
  below := ⟨k.below.os.trans h.below.os, k.below.tape.trans h.below.tape, k.below.output.trans h.below.output, Nat.le_trans h.below.size k.below.size,
   fun b hb hl => (k.below.block b (Nat.lt_of_lt_of_le hb h.below.size) fun ho => by
    rcases Own.old h ho with h1 | h1
    ·omega
    ·exact hl h1).trans (h.below.block b hb hl), Nat.le_trans h.below.drawn k.below.drawn⟩
  fix := fun r hr => (k.fix r hr).trans (h.fix r hr)
  tabs := h.tabs }
def bitsWait (i m : Nat) : Nat → List Oper → Bool
 | _, [] => true
 | j, o :: os => (!m.testBit j || j == i || o.after.toList.any (fun e => Region.binds .any e && m.testBit e.on)) && bitsWait i m (j + 1) os
def bitsRest (ops : Array Oper) (oi : Oper) (m c : Nat) : Nat → List Oper → List Bool → Bool
 | j, o :: os, l :: ls => (m.testBit j && !l || (!m.testBit j && (l || (c.testBit j && oi.apart ops o)))) && bitsRest ops oi m c (j + 1) os ls
 | _, [], [] => true
 | _, _, _ => false
theorem bitsWait_spec {i m : Nat} : ∀ {l : List Oper} {k : Nat}, bitsWait i m k l = true → ∀ d od, l[d]? = some od → m.testBit (k + d) = true → k + d ≠ i → ∃ e ∈ od.after, Region.binds .any e = true ∧ m.testBit e.on = true
 | [], _, _, d, od, h, _, _ => by simp at h
 | o :: os, k, h, 0, od, hd, hm, hne => by
  simp only [List.getElem?_cons_zero, Option.some.injEq] at hd
  subst hd
  simp only [bitsWait, Bool.and_eq_true, Bool.or_eq_true, Bool.not_eq_true', beq_iff_eq, Nat.add_zero] at h hm hne
  rcases h.1 with (h1 | h1) | h1
  ·rw [hm] at h1; cases h1
  ·exact absurd h1 hne
  ·obtain ⟨e, he, h2⟩ := List.any_eq_true.1 h1
   simp only [Bool.and_eq_true] at h2
   exact ⟨e, by simpa using he, h2⟩
 | o :: os, k, h, d + 1, od, hd, hm, hne => by
  simp only [bitsWait, Bool.and_eq_true] at h
  have h1 : k + 1 + d = k + (d + 1) := by omega
  exact bitsWait_spec h.2 d od (by simpa using hd) (by rw [h1]; exact hm) (by rw [h1]; exact hne)
theorem bitsRest_spec {oi : Oper} {m c : Nat} : ∀ {l : List Oper} {ls : List Bool} {k : Nat}, bitsRest ops oi m c k l ls = true → ∀ d od, l[d]? = some od →
  (m.testBit (k + d) = true ∧ ls[d]? = some false) ∨ (m.testBit (k + d) = false ∧ ∃ b, ls[d]? = some b ∧ (b = false → c.testBit (k + d) = true ∧ oi.apart ops od = true))
 | [], _, _, _, d, od, h => by simp at h
 | o :: os, [], _, h, _, _, _ => by simp [bitsRest] at h
 | o :: os, b :: ls, k, h, 0, od, hd => by
  simp only [List.getElem?_cons_zero, Option.some.injEq] at hd
  subst hd
  simp only [bitsRest, Bool.and_eq_true, Bool.or_eq_true, Bool.not_eq_true'] at h
  simp only [List.getElem?_cons_zero, Nat.add_zero]
  rcases h.1 with ⟨h1, h2⟩ | ⟨h1, h2⟩
  ·exact .inl ⟨h1, by rw [h2]⟩
  ·refine .inr ⟨h1, b, rfl, fun hb => ?_⟩
   rcases h2 with h2 | h2
   ·rw [hb] at h2; cases h2
   ·exact h2
 | o :: os, b :: ls, k, h, d + 1, od, hd => by
  simp only [bitsRest, Bool.and_eq_true] at h
  have h1 : k + 1 + d = k + (d + 1) := by omega
  have := bitsRest_spec h.2 d od (by simpa using hd)
  rw [h1] at this
  simpa using this
theorem bitsRest_dis {oi : Oper} {m c : Nat} {listed : Array Bool} (h : bitsRest ops oi m c 0 ops.toList listed.toList = true) (d : Nat) (hd : m.testBit d = true) : listed.getD d false = false := by
 rcases Nat.lt_or_ge d ops.size with hlt | hge
 ·have hod' : ops.toList[d]? = some ops[d] := by simp [hlt]
  rcases bitsRest_spec h d _ hod' with ⟨_, g⟩ | ⟨g, _⟩
  ·have g' : listed[d]? = some false := by simpa using g
   simp [Array.getD_eq_getD_getElem?, g']
  ·rw [Nat.zero_add] at g; rw [g] at hd; cases hd
 ·have hlen : listed.size = ops.size := by
   have : ∀ (l : List Oper) (ls : List Bool) (k : Nat), bitsRest ops oi m c k l ls = true → ls.length = l.length := by
    intro l
    induction l with
    | nil => intro ls k hb; cases ls with
     | nil => rfl
     | cons _ _ => simp [bitsRest] at hb
    | cons _ _ ih2 => intro ls k hb; cases ls with
     | nil => simp [bitsRest] at hb
     | cons _ _ =>
      simp only [bitsRest, Bool.and_eq_true] at hb
      simp [ih2 _ _ hb.2]
   simpa using this _ _ _ h
  have : listed[d]? = none := Array.getElem?_eq_none (by omega)
  simp [Array.getD_eq_getD_getElem?, this]
theorem bitsRest_free {oi : Oper} {m c : Nat} {listed : Array Bool} (h : bitsRest ops oi m c 0 ops.toList listed.toList = true) (j : Nat) (oj : Oper) (hoj : ops[j]? = some oj) (hj : m.testBit j = false) (hun : listed.getD j true = false) :
  c.testBit j = true ∧ oi.apart ops oj = true := by
 have hoj' : ops.toList[j]? = some oj := by simpa using hoj
 rcases bitsRest_spec h j _ hoj' with ⟨g, _⟩ | ⟨_, b, g1, g2⟩
 ·rw [Nat.zero_add] at g; rw [g] at hj; cases hj
 ·have g' : listed[j]? = some b := by simpa using g1
  have hb : b = false := by simpa [Array.getD_eq_getD_getElem?, g'] using hun
  have := g2 hb
  rwa [Nat.zero_add] at this
def planStep (ops : Array Oper) (listed : Array Bool) (c i m : Nat) (o : Oper) (quiet hard : Bool) : Bool :=
 if m == 0 then Region.ready .any ops listed == [i] && (!hard || !c.testBit i)
 else quiet && m.testBit i && (Region.ready .any ops listed).contains i && bitsWait i m 0 ops.toList && bitsRest ops o m c 0 ops.toList listed.toList
def planStepC (ops : Array Oper) (listed : Array Bool) (i m : Nat) (o : Oper) : Bool :=
 m.testBit i && (Region.ready .any ops listed).contains i && bitsWait i m 0 ops.toList && bitsRest ops o m (2 ^ ops.size - 1) 0 ops.toList listed.toList
def toC : Inst → Option Inst
 | ⟨d, g, .q (.ld x n agg)⟩ => some ⟨d, g, .q (.ldc x n agg)⟩
 | ⟨d, g, .q (.mv x)⟩ => some ⟨d, g, .q (.mv x)⟩
 | _ => none
def plan (P : Program) (owns : List Nat) (n : Nat) (ops : Array Oper) (c : Nat) : List (Nat × Nat) → Array Bool → Option (List Inst)
 | [], listed => if (Region.ready .any ops listed).isEmpty then some [] else none
 | (i, m) :: r, listed => match ops[i]? with
  | some o => match instOf P owns n ops o with
   | some inst => if planStep ops listed c i m o inst.op.quiet inst.op.hard then match plan P owns n ops c r (listed.setIfInBounds i true) with
     | some is => some (inst :: is)
     | none => none
    else if planStepC ops listed i m o then match toC inst, plan P owns n ops c r (listed.setIfInBounds i true) with
     | some ci, some is => some (ci :: is)
     | _, _ => none
    else none
   | none => none
  | none => none
theorem of_ldc {owns : List Nat} {o : Oper} {z : Opd} {n : Nat} {agg : Bool} {e : Env} {σ : St} {x : Cx} {a : Act} (hof : IOp.of P owns o = some (.q (.ld z n agg))) (h : SRel e σ x a) (hp : (Go.Vc.Q.ldc z n agg).pre σ) :
  ∃ cv, VRel x ((Go.Vc.Q.ldc z n agg).val σ) cv ∧ ∀ w', Kept x ⟨w', x.F, x.ρ⟩ → (execOp a.eval o).run P w' = .ok (.value cv) w' := by
 obtain ⟨hcd, hp⟩ := hp
 cases hop : o.op with
 | load t y =>
  simp only [IOp.of, hop] at hof
  split at hof
  ·rename_i z' d i hz ht hi
   injection hof with hof; injection hof with hof; injection hof with h1 h2 h3
   subst h1; subst h2; subst h3
   have hy := Opd.of_sv h hz hcd
   simp only [Go.Vc.Q.val]
   simp only at hp
   generalize z'.sv σ = v at hp hy
   have pure : ∀ (cs : List PV) (b o' off : Nat), a.eval y = .pointer (some ⟨b, o' + off, none⟩) → ¬ x.F b → PCells x.w x.F cs b o' → off + i.size ≤ cs.length → (aggOf P t = true ∨ i.size = 1) →
     ∃ cv, VRel x (.pv (ccut cs off i.size (aggOf P t))) cv ∧ ∀ w', Kept x ⟨w', x.F, x.ρ⟩ → (execOp a.eval o).run P w' = .ok (.value cv) w' := by
    intro cs b o' off he hF hc hl hag
    obtain ⟨vs, h2, h3, h4⟩ := hc.cut off i.size hl
    refine ⟨if aggOf P t then .agg ⟨vs⟩ else vs.getD 0 undef, ?_, fun w' k => ?_⟩
    ·unfold ccut
     cases ha : aggOf P t
     ·rcases hag with h1 | h1
      ·rw [ha] at h1; cases h1
      ·rw [h1] at h3 h2
       have hlt : off < cs.length := by omega
       have e : (cs.drop off).take 1 = [cs.getD off default] := by
        rw [List.drop_eq_getElem_cons hlt, List.take_succ_cons, List.take_zero]; simp [List.getD_eq_getElem?_getD, hlt]
       rw [e] at h3
       simp only [PRels] at h3
       obtain ⟨v0, r, rfl, h5, _⟩ := h3
       simpa [VRel, h1] using h5
     ·simp only [if_true, VRel]
      exact h3.agg
    ·have h5 : CellsAt w' b (o' + off) vs := fun j c hc => k.cell hF (h4 j c hc)
     simp only [execOp, hop, he]
     simp only [Sem.run_bind, run_loadVar ht hi b (o' + off) vs h2 hag h5, Result.andThen_ok, Sem.run_pure]
   unfold ldcP at hp
   split at hp
   ·rename_i cs off
    simp only [VRel] at hy
    obtain ⟨b, o', he, hb, hF, hc⟩ := hy
    exact pure _ _ _ off he hF hc hp.1 hp.2
   ·rename_i cs
    simp only [VRel, PRel] at hy
    obtain ⟨b, o', he, hb, hF, hc⟩ := hy
    exact pure _ _ _ 0 he hF hc (by simpa using hp.1) hp.2
   ·exact hp.elim
  ·cases hof
 | _ =>
  exfalso
  simp only [IOp.of, hop] at hof
  repeat' split at hof
  all_goals first | contradiction | (cases hof; done) | (simp at hof; done)
theorem below_kept {e : Env} {σ : St} {x : Cx} {a : Act} (h : SRel e σ x a) {w' : World} (k : BelowL (Own σ.st x.ρ) x.w w') : Kept x ⟨w', x.F, x.ρ⟩ :=
 ⟨k.size, fun b hF hb => k.block b hb fun ho => hF ((h.F b).2 (.inr ho)), fun _ _ hb => hb⟩
theorem of_mvc {owns : List Nat} {o : Oper} {z : Opd} {e : Env} {σ : St} {x : Cx} {a : Act} (hof : IOp.of P owns o = some (.q (.mv z))) (h : SRel e σ x a) (hp : (Go.Vc.Q.mv z).pre σ) :
  ∃ cv, VRel x ((Go.Vc.Q.mv z).val σ) cv ∧ ∀ w', Kept x ⟨w', x.F, x.ρ⟩ → (execOp a.eval o).run P w' = .ok (.value cv) w' := by
 obtain ⟨hcd, hp⟩ := hp
 cases hop : o.op with
 | move y =>
  simp only [IOp.of, hop] at hof
  split at hof
  ·rename_i z' hz
   injection hof with hof; injection hof with hof; injection hof with h1
   subst h1
   exact ⟨_, Opd.of_sv h hz hcd, fun w' _ => by simp [execOp, hop]⟩
  ·cases hof
 | assign y =>
  simp only [IOp.of, hop] at hof
  split at hof
  ·rename_i z' hz
   injection hof with hof; injection hof with hof; injection hof with h1
   subst h1
   exact ⟨_, Opd.of_sv h hz hcd, fun w' _ => by simp [execOp, hop]⟩
  ·cases hof
 | _ =>
  exfalso
  simp only [IOp.of, hop] at hof
  repeat' split at hof
  all_goals first | contradiction | (cases hof; done) | (simp at hof; done)
theorem inst_core {owns : List Nat} {K : St → Prop} {o : Oper} {d : Option Nat} {g : Option (Nat × Bool)} {q q' : Go.Vc.Q} {is : List Inst} {e : Env} {σ : St} {x : Cx} {a : Act} (hi : instOf P owns e.n ops o = some ⟨d, g, .q q⟩)
  (core : IOp.of P owns o = some (.q q) → q'.pre σ → ∃ cv, VRel x (q'.val σ) cv ∧ ∀ w', Kept x ⟨w', x.F, x.ρ⟩ → (execOp a.eval o).run P w' = .ok (.value cv) w')
  (h : SRel e σ x a) (hk : vcOps P (⟨d, g, .q q'⟩ :: is) σ K) :
  ∃ cv σ', YieldsIf P ops (BelowL (Own σ.st x.ρ) x.w) o cv a ∧ SRel e σ' x (a.put o.dst cv) ∧ vcOps P is σ' K := by
 obtain ⟨h1, h2, h3, h4⟩ := instOf_parts hi
 simp only at h1 h2 h3
 subst h3
 cases g with
 | none =>
  simp only [vcOps, vcOp] at hk
  split at hk
  ·rename_i d hdst
   obtain ⟨cv, k1, k2⟩ := core h1 hk.1
   have hg : o.guard = none := guard_none h2
   rw [hdst]
   exact ⟨cv, _, .inl ⟨wanted_none hg _, fun w hw => k2 w (below_kept h hw)⟩, h.put (h4 d hdst) k1, hk.2⟩
  ·exact hk.elim
 | some tb =>
  obtain ⟨t, b⟩ := tb
  simp only [vcOps, vcGd] at hk
  split at hk
  ·rename_i d hdst
   obtain ⟨g1, g2, g3⟩ := hk
   have hw := wanted_gv h h2 g1
   rw [hdst]
   cases hb : (frGet σ.fr t).gv b
   ·rw [hb] at hw g3
    exact ⟨undef, _, .inr ⟨hw, rfl⟩, h.skip (h4 d hdst) rfl, g3⟩
   ·rw [hb] at hw g3
    obtain ⟨cv, k1, k2⟩ := core h1 (g2 hb)
    exact ⟨cv, _, .inl ⟨hw, fun w hw => k2 w (below_kept h hw)⟩, (h.put (h4 d hdst) k1).whn rfl, g3⟩
  ·exact hk.elim
theorem inst_ldc {owns : List Nat} {K : St → Prop} {o : Oper} {i j : Inst} {is : List Inst} {e : Env} {σ : St} {x : Cx} {a : Act} (hi : instOf P owns e.n ops o = some i) (hj : toC i = some j) (h : SRel e σ x a) (hk : vcOps P (j :: is) σ K) :
  ∃ cv σ', YieldsIf P ops (BelowL (Own σ.st x.ρ) x.w) o cv a ∧ SRel e σ' x (a.put o.dst cv) ∧ vcOps P is σ' K := by
 unfold toC at hj
 split at hj
 ·injection hj with hj; subst hj
  exact inst_core hi (fun hof hp => of_ldc hof h hp) h hk
 ·injection hj with hj; subst hj
  exact inst_core hi (fun hof hp => of_mvc hof h hp) h hk
 ·cases hj
theorem plan_sound {owns : List Nat} {K : St → Prop} {c : Nat} (hsel : Region.noSelect ops = true) (hQ : ∀ c a w, ¬ Q (.panic c) a w) :
  ∀ (steps : List (Nat × Nat)) (is : List Inst) (listed : Array Bool) (e : Env) (_ : EP e P) (S : World → Prop) (σ : St) (x : Cx) (a : Act),
  (∀ a w σ y, SRel e σ y a → y.w = w → K σ → Q .normal a w) → (∀ σ y a, SRel e σ y a → S y.w) →
  plan P owns e.n ops c steps listed = some is → SRel e σ x a → vcOps P is σ K → wpAnyS P ops Q c.testBit S steps.length listed a x.w
 | [], is, listed, e, hE, S, σ, x, a, hN, hS, hp, h, hk => by
  simp only [plan] at hp
  split at hp
  ·rename_i hr
   injection hp with hp; subst hp
   exact ⟨List.isEmpty_iff.1 hr, hN a x.w σ x h rfl hk⟩
  ·cases hp
 | (i, m) :: r, is, listed, e, hE, S, σ, x, a, hN, hS, hp, h, hk => by
  simp only [plan] at hp
  split at hp
  ·rename_i o ho
   split at hp
   ·rename_i inst hinst
    split at hp
    ·rename_i hstep
     split at hp
     ·rename_i is' his
      injection hp with hp; subst hp
      have ih : ∀ a' w', Behind P e is' K a' w' → S w' ∧ wpAnyS P ops Q c.testBit S r.length (listed.setIfInBounds i true) a' w' := fun a' w' ⟨σ', y, g1, g2, g3⟩ => by
       rw [← g2]
       exact ⟨hS _ _ _ g1, plan_sound hsel hQ r is' _ e hE S σ' y a' hN hS his g1 g3⟩
      unfold planStep at hstep
      split at hstep
      ·
       simp only [Bool.and_eq_true, Bool.or_eq_true, Bool.not_eq_true', beq_iff_eq] at hstep
       obtain ⟨hr, hc⟩ := hstep
       refine ⟨fun h0 => (by rw [h0] at hr; cases hr), fun j hj => ?_⟩
       rw [hr] at hj
       have hji : j = i := by simpa using hj
       subst hji
       unfold wpOp
       simp only [ho]
       have key : if Region.wanted o (yielded ops a.tmps) then o.wp P a x.w (fun a' w' => (c.testBit j = true → Agr x.w w') ∧ Behind P e is' K a' w') Q
         else (c.testBit j = true → Agr x.w x.w) ∧ Behind P e is' K (a.put o.dst undef) x.w := by
        rcases kinds inst.op with hq | hs | hh
        ·obtain ⟨cv, σ', hy, h1, h2⟩ := inst_quiet hinst hq h hk
         rcases hy with ⟨hw, hr⟩ | ⟨hw, hv⟩
         ·rw [hw, if_pos rfl]
          exact wp_value (hr x.w (Agr.refl _)) ⟨fun _ => Agr.refl _, σ', x, h1, rfl, h2⟩
         ·rw [hw, if_neg (by simp)]
          subst hv
          exact ⟨fun _ => Agr.refl _, σ', x, h1, rfl, h2⟩
        ·have := inst_soft hinst hs h hk Q
         split at this
         ·rename_i hw; rw [if_pos hw]; exact Oper.wp_mono (fun _ _ hb => ⟨fun _ => hb.1, hb.2⟩) this
         ·rename_i hw; rw [if_neg hw]; exact ⟨fun _ => this.1, this.2⟩
        ·obtain ⟨hw, h1⟩ := inst_hard hinst hh h hk Q
         have hcf : c.testBit j = false := by
          rcases hc with hc | hc
          ·rw [hh] at hc; cases hc
          ·exact hc
         rw [hw, if_pos rfl]
         exact Oper.wp_mono (fun _ _ hb => ⟨fun ht => (by rw [hcf] at ht; cases ht), hb⟩) h1
       split
       ·rename_i hw
        rw [if_pos hw] at key
        exact .inl (Oper.wp_mono (fun a' w' hb => ⟨hb.1, ih a' w' hb.2⟩) key)
       ·rename_i hw
        rw [if_neg hw] at key
        exact ⟨key.1, ih _ _ key.2⟩
      ·simp only [Bool.and_eq_true] at hstep
       obtain ⟨⟨⟨⟨hq, hmi⟩, hr⟩, hwait⟩, hrest⟩ := hstep
       obtain ⟨cv, σ', hy, h1, h2⟩ := inst_quiet hinst hq h hk
       exact wpAnyS_first (T := Agr x.w) (D := m.testBit) ho (Region.noSelect_spec hsel) hQ (fun d hd hne od hod => bitsWait_spec hwait d od (by simpa using hod) (by simpa using hd) (by simpa using hne)) r.length listed a x.w
        (bitsRest_dis hrest) hmi (fun j oj hoj hj hun => ⟨fun w w' hc _ ht => ht.trans (hc (bitsRest_free hrest j oj hoj hj hun).1), (bitsRest_free hrest j oj hoj hj hun).2⟩) (by simpa using hr) (hS _ _ _ h) (Agr.refl _) hy
        (ih _ _ ⟨σ', x, h1, rfl, h2⟩).2
     ·cases hp
    ·split at hp
     ·rename_i hstep
      split at hp
      ·rename_i ci is' hci his
       injection hp with hp; subst hp
       simp only [planStepC, Bool.and_eq_true] at hstep
       obtain ⟨⟨⟨hmi, hr⟩, hwait⟩, hrest⟩ := hstep
       have h0 : SRel (e.at σ x) σ x a := SRel.at h
       obtain ⟨cv, σ', hy, h1, h2⟩ := inst_ldc (e := e.at σ x) hinst hci h0 hk
       refine wpAnyS_mono (S := fun w => S w ∧ BelowL (Own σ.st x.ρ) x.w w) (fun w h => h.1) _ _ _ _ ?_
       exact wpAnyS_first (T := BelowL (Own σ.st x.ρ) x.w) (D := m.testBit) ho (Region.noSelect_spec hsel) hQ (fun d hd hne od hod => bitsWait_spec hwait d od (by simpa using hod) (by simpa using hd) (by simpa using hne)) r.length listed a x.w
        (bitsRest_dis hrest) hmi (fun j oj hoj hj hun => ⟨fun w w' _ hs _ => hs.2, (bitsRest_free hrest j oj hoj hj hun).2⟩) (by simpa using hr) ⟨hS _ _ _ h, BelowL.refl _ _⟩ (BelowL.refl _ _) hy
        (plan_sound hsel hQ r is' _ (e.at σ x) inferInstance _ σ' x _ (fun a w σ y k => hN a w σ y (SRel.back h k)) (fun σ y a k => ⟨hS _ _ _ (SRel.back h k), k.below⟩) his h1 h2)
      ·cases hp
     ·cases hp
   ·cases hp
  ·cases hp
end
end Go.Vc

namespace Go.Vc
open Go.RowKit
def frSome : List (Nat × AV) → Nat → Option AV
 | [], _ => none
 | (k', v) :: r, k => if k' = k then some v else frSome r k
def frKeep (l : List (Nat × AV)) : List Nat → List (Nat × AV)
 | [] => []
 | t :: ts => match frSome l t with
  | some v => (t, v) :: frKeep l ts
  | none => frKeep l ts
def stKeep (l : List (Nat × Row)) : List Nat → List (Nat × Row)
 | [] => []
 | t :: ts => if ts.contains t then stKeep l ts else match stGet l t with
  | some v => (t, v) :: stKeep l ts
  | none => stKeep l ts
def St.norm (σ : St) (keep rows : List Nat) : St := ⟨frKeep σ.fr keep, stKeep σ.st rows⟩
theorem frSome_mem : ∀ {l : List (Nat × AV)} {k : Nat} {v : AV}, frSome l k = some v → (k, v) ∈ l
 | [], _, _, h => by simp [frSome] at h
 | (k', v') :: r, k, v, h => by
  simp only [frSome] at h
  split at h
  ·rename_i hk; injection h with h; subst h; subst hk; simp
  ·exact List.mem_cons_of_mem _ (frSome_mem h)
theorem frKeep_mem {l : List (Nat × AV)} : ∀ {ts : List Nat} {k : Nat} {v : AV}, (k, v) ∈ frKeep l ts → (k, v) ∈ l
 | [], _, _, h => by simp [frKeep] at h
 | t :: ts, k, v, h => by
  simp only [frKeep] at h
  split at h
  ·rename_i u hu
   rcases List.mem_cons.1 h with h | h
   ·injection h with h1 h2; subst h1; subst h2; exact frSome_mem hu
   ·exact frKeep_mem h
  ·exact frKeep_mem h
theorem stKeep_mem {l : List (Nat × Row)} : ∀ {ts : List Nat} {k : Nat} {v : Row}, (k, v) ∈ stKeep l ts → (k, v) ∈ l ∧ k ∈ ts
 | [], _, _, h => by simp [stKeep] at h
 | t :: ts, k, v, h => by
  simp only [stKeep] at h
  split at h
  ·have := stKeep_mem h; exact ⟨this.1, List.mem_cons_of_mem _ this.2⟩
  ·split at h
   ·rename_i u hu
    rcases List.mem_cons.1 h with h | h
    ·injection h with h1 h2; subst h1; subst h2; exact ⟨stGet_mem hu, by simp⟩
    ·have := stKeep_mem h; exact ⟨this.1, List.mem_cons_of_mem _ this.2⟩
   ·have := stKeep_mem h; exact ⟨this.1, List.mem_cons_of_mem _ this.2⟩
theorem stKeep_keys {l : List (Nat × Row)} : ∀ {ts : List Nat}, ((stKeep l ts).map (·.1)).Nodup
 | [] => by simp [stKeep]
 | t :: ts => by
  simp only [stKeep]
  split
  ·exact stKeep_keys
  ·rename_i hn
   split
   ·simp only [List.map_cons, List.nodup_cons]
    refine ⟨fun hm => ?_, stKeep_keys⟩
    obtain ⟨⟨q, row⟩, h1, h2⟩ := List.mem_map.1 hm
    have h2' : q = t := h2
    subst h2'
    exact hn (by simpa using (stKeep_mem h1).2)
   ·exact stKeep_keys
theorem Row.kept {x y : Cx} (k : Kept x y) (hρ : y.ρ = x.ρ) {l : Loc} (hb : l.ok = true → y.w.heap[l.blk]? = x.w.heap[l.blk]?) {row : Row} (h : row.rel x l) : row.rel y l := by
 have := Row.clip_rel (y := y) k (D := fun _ => false) (fun _ _ => by rw [hρ]) hb h
 cases row <;> simp only [Row.clip, clips_none, Bool.false_eq_true, if_false] at this <;> exact this
theorem SRel.norm {e : Env} {σ : St} {x : Cx} {a : Act} (h : SRel e σ x a) (keep rows : List Nat) :
  SRel e (σ.norm keep rows) ⟨x.w, fun b => e.F0 b ∨ Own (σ.norm keep rows).st x.ρ b, x.ρ⟩ a := by
 have k : Kept x ⟨x.w, fun b => e.F0 b ∨ Own (σ.norm keep rows).st x.ρ b, x.ρ⟩ := ⟨Nat.le_refl _, fun _ _ _ => rfl, fun b _ hb => (h.F b).2 (hb.imp id fun ⟨r, row, h1, h2⟩ => ⟨r, row, (stKeep_mem h1).1, h2⟩)⟩
 exact {
  defers := h.defers
  size := h.size
  fr := fun t v hm => let ⟨cv, h1, h2⟩ := h.fr t v (frKeep_mem hm); ⟨cv, h1, h2.kept k rfl⟩
  st := fun r row hm => Row.kept k rfl (fun _ => rfl) (h.st r row (stKeep_mem hm).1)
  keys := stKeep_keys
  inj := fun r row r' row' h1 h2 => h.inj r row r' row' (stKeep_mem h1).1 (stKeep_mem h2).1
  F := fun b => Iff.rfl
  own := fun r row hm => h.own r row (stKeep_mem hm).1
  f0 := h.f0
  tabs := h.tabs
  below := h.below
  fix := h.fix
  small := h.small }
def St.virt1 (σ : St) (t r s : Nat) : St := match frSome σ.fr t with
 | some .e0 => (match stGet σ.st r with
  | none => if r < 200000 then (σ.newRow r (.sl s [])).put t (.row r 0 0) else σ
  | some _ => σ)
 | _ => σ
def St.nil1 (σ : St) (t : Nat) : St := match frSome σ.fr t with
 | some .e0 => σ.put t (.pv (.lst []))
 | _ => σ
def St.virts (σ : St) : List (Nat × Nat × Nat) → St
 | [] => σ
 | (t, r, s) :: vs => (if s = 0 then (if t = r then σ.frz1 r else σ.nil1 t) else σ.virt1 t r s).virts vs
theorem SRel.setv {e : Env} {σ : St} {x : Cx} {a : Act} (h : SRel e σ x a) {t : Nat} {v : AV} {cv : Value} (ht : a.tmps[t]? = some cv) (hv : VRel x v cv) : SRel e (σ.put t v) x a :=
 {h with
  fr := fun k u hm => by
   simp only [St.put, frPut] at hm
   rcases List.mem_cons.1 hm with hm | hm
   ·injection hm with h1 h2
    subst h1; subst h2
    exact ⟨cv, ht, hv⟩
   ·exact h.fr k u (frDel_mem hm).1 }
theorem SRel.virt1 {e : Env} {σ : St} {x : Cx} {a : Act} (h : SRel e σ x a) (t r s : Nat) : ∃ y, y.w = x.w ∧ SRel e (σ.virt1 t r s) y a := by
 unfold St.virt1
 split
 ·rename_i he
  split
  ·split
   case isFalse => exact ⟨x, rfl, h⟩
   rename_i hr2
   have hm := frSome_mem he
   obtain ⟨cv, h1, h2⟩ := h.fr t _ hm
   simp only [VRel] at h2
   have h3 := h.fresh (w' := x.w) (Below.refl _ _) r (.sl s []) ⟨0, 0, 0, s, false, 0⟩ (fun hf => by cases hf) (.inl ⟨rfl, rfl⟩) hr2
   refine ⟨newCx e σ x x.w r (.sl s []) ⟨0, 0, 0, s, false, 0⟩, rfl, h3.setv h1 ?_⟩
   unfold VRel
   exact .inl ⟨rfl, fun hk => by simp [newCx, updρ] at hk, h2⟩
  ·exact ⟨x, rfl, h⟩
 ·exact ⟨x, rfl, h⟩
theorem SRel.nil1 {e : Env} {σ : St} {x : Cx} {a : Act} (h : SRel e σ x a) (t : Nat) : SRel e (σ.nil1 t) x a := by
 unfold St.nil1
 split
 ·rename_i he
  obtain ⟨cv, h1, h2⟩ := h.fr t _ (frSome_mem he)
  refine h.setv h1 ?_
  simp only [VRel] at h2
  obtain ⟨a, rfl⟩ := h2
  simp only [VRel, PRel]
  exact ⟨a, 0, 0, rfl, rfl, Nat.le_refl _, fun hn => absurd hn (by omega)⟩
 ·exact h
theorem SRel.virts {e : Env} {a : Act} : ∀ (vs : List (Nat × Nat × Nat)) {σ : St} {x : Cx}, SRel e σ x a → ∃ y, y.w = x.w ∧ SRel e (σ.virts vs) y a
 | [], _, x, h => ⟨x, rfl, h⟩
 | (t, r, s) :: vs, σ, x, h => by
  unfold St.virts
  split
  ·split
   ·obtain ⟨y, h1, h2⟩ := h.frz1 r
    obtain ⟨z, h3, h4⟩ := SRel.virts vs h2
    exact ⟨z, h3.trans h1, h4⟩
   ·exact SRel.virts vs (h.nil1 t)
  ·obtain ⟨y, h1, h2⟩ := h.virt1 t r s
   obtain ⟨z, h3, h4⟩ := SRel.virts vs h2
   exact ⟨z, h3.trans h1, h4⟩
end Go.Vc

namespace Go.Vc
open Go.RowKit
set_option linter.constructorNameAsVariable false
def inL : List Nat → Nat → Bool
 | [], _ => false
 | a :: l, q => a == q || inL l q
theorem inL_iff : ∀ {l : List Nat} {q : Nat}, inL l q = true ↔ q ∈ l
 | [], q => by simp [inL]
 | a :: l, q => by simp only [inL, Bool.or_eq_true, beq_iff_eq, List.mem_cons, inL_iff (l := l)]; constructor <;> rintro (h | h) <;> simp [h]
theorem inL_no {l : List Nat} {q : Nat} : inL l q = false ↔ q ∉ l := by
 rw [← inL_iff]; simp
structure Eff where
 v : AV
 nr : Option (Nat × Row)
def St.app (σ : St) (d : Nat) (E : Eff) : St := match E.nr with
 | none => σ.put d E.v
 | some (r, row) => (σ.newRow r row).put d E.v
def effAfter (d : Nat) (v : AV) : List (Nat × List PV) → Eff
 | [] => ⟨v.ren 0, none⟩
 | (s, xs) :: _ => ⟨v.ren (rowName d), some (rowName d, .sl s xs)⟩
def effP (P : Program) (A : St) (d : Nat) (g : Option (Nat × Bool)) (op : IOp) (E : Eff) : Prop := match g, op with
 | none, .q q => q.pre A ∧ E = ⟨q.val A, none⟩
 | some (t, b), .q q => (frGet A.fr t).gok ∧ ∃ v, ((frGet A.fr t).gv b = true → q.pre A ∧ v = q.val A) ∧ E = ⟨.whn ((frGet A.fr t).gv b) v, none⟩
 | none, .alloc z => E = ⟨.ptr d 0, some (d, .box (AV.clips (only d) z))⟩
 | none, .box x => x.cd A = true ∧ okc (x.sv A) = true ∧ E = ⟨.ptr d 0, some (d, .box (AV.clips (only d) (x.sv A).cells))⟩
 | none, .lits xs s => (cds A xs = true ∧ allOk (evs A xs) = true ∧ allW s (evs A xs) ∧ xs.length * s ≤ 16777216) ∧ E = ⟨mkLit (evs A xs), none⟩
 | none, .mks l c s bytes z => (l.cd A = true ∧ c.cd A = true ∧ isInt (l.sv A) ∧ isInt (c.sv A) ∧ 0 ≤ intV (l.sv A) ∧ intV (l.sv A) ≤ intV (c.sv A) ∧ (bytes : Int) * intV (c.sv A) ≤ 281474976710656 ∧ intV (c.sv A) ≤ 9223372036854775807) ∧ E = ⟨.row d 0 (intV (l.sv A)).toNat, some (d, .sl s (List.replicate (intV (l.sv A)).toNat z))⟩
 | none, .call f args => (f.cd A = true ∧ cds A args = true) ∧ ∃ h ps pure v rs, callArgs A f args = some (h, ps, pure) ∧ Fn P h ps v rs ∧ (pure = true ∨ (v.flat = true ∧ flatRows rs)) ∧ okRows v rs ∧ E = effAfter d v rs
 | some (t, b), .call f args => (frGet A.fr t).gok ∧ ((frGet A.fr t).gv b = true → f.cd A = true ∧ cds A args = true) ∧
   ∃ h ps pure p, callArgs A f args = some (h, ps, pure) ∧ ((frGet A.fr t).gv b = true → Fn P h ps (.pv p) [] ∧ (pure = true ∨ p.flat = true)) ∧ E = ⟨.whn ((frGet A.fr t).gv b) (.pv p), none⟩
 | _, _ => False
def ownOf (d : Nat) : IOp → Nat
 | .call _ _ => rowName d
 | _ => d
def makesRow : IOp → Bool
 | .alloc _ | .box _ | .call _ _ | .mks _ _ _ _ _ => true
 | _ => false
section
variable {P : Program} {A B σ : St} {d : Nat} {g : Option (Nat × Bool)} {op : IOp} {E : Eff}
theorem effAfter_own {v : AV} {rs : List (Nat × List PV)} {r : Nat} {row : Row} (h : (effAfter d v rs).nr = some (r, row)) : r = rowName d := by
 cases rs with
 | nil => simp [effAfter] at h
 | cons a l => obtain ⟨s, xs⟩ := a; simp [effAfter] at h; exact h.1.symm
theorem eff_own (h : effP P A d g op E) {r : Nat} {row : Row} (hn : E.nr = some (r, row)) : r = ownOf d op ∧ makesRow op = true := by
 unfold effP at h
 split at h
 ·rw [h.2] at hn; cases hn
 ·obtain ⟨_, _, _, e⟩ := h
  rw [e] at hn; cases hn
 ·rw [h] at hn; injection hn with hn; injection hn with hn; exact ⟨hn.symm, rfl⟩
 ·rw [h.2.2] at hn; injection hn with hn; injection hn with hn; exact ⟨hn.symm, rfl⟩
 ·rw [h.2] at hn; cases hn
 ·rw [h.2] at hn; injection hn with hn; injection hn with hn; exact ⟨hn.symm, rfl⟩
 ·obtain ⟨_, _, _, _, _, _, _, _, _, _, e⟩ := h
  rw [e] at hn
  exact ⟨effAfter_own hn, rfl⟩
 ·obtain ⟨_, _, _, _, _, _, _, _, e⟩ := h
  rw [e] at hn; cases hn
 ·exact h.elim
theorem eff_kind (h : effP P A d g op E) : op.quiet = true ∨ op.soft = true := by
 unfold effP at h
 split at h
 ·exact .inl rfl
 ·exact .inl rfl
 ·exact .inr rfl
 ·exact .inr rfl
 ·exact .inr rfl
 ·exact .inr rfl
 ·exact .inr rfl
 ·exact .inr rfl
 ·exact h.elim
theorem after_app {v : AV} {rs : List (Nat × List PV)} : σ.after d v rs = σ.app d (effAfter d v rs) := by
 cases rs with
 | nil => rfl
 | cons a l => obtain ⟨s, xs⟩ := a; rfl
theorem SRel.whnf {e : Env} {x : Cx} {a : Act} {u v : AV} (h : SRel e (σ.put d (.whn false u)) x a) : SRel e (σ.put d (.whn false v)) x a :=
 {h with
  fr := fun k w hm => by
   simp only [St.put, frPut] at hm
   rcases List.mem_cons.1 hm with hm | hm
   ·injection hm with h1 h2
    subst h1; subst h2
    obtain ⟨cv, k1, k2⟩ := h.fr k (.whn false u) (by simp only [St.put, frPut]; exact List.mem_cons_self)
    exact ⟨cv, k1, by simp only [VRel] at k2 ⊢; exact ⟨fun hf => (by cases hf), k2.2⟩⟩
   ·exact h.fr k w (by simp only [St.put, frPut]; exact List.mem_cons_of_mem _ hm) }
theorem eff_vc (h : effP P σ d g op E) : vcOps P [⟨some d, g, op⟩] σ (fun σ' => ∀ e y a, SRel e σ' y a → SRel e (σ.app d E) y a) := by
 unfold effP at h
 split at h
 ·obtain ⟨h1, rfl⟩ := h
  exact ⟨h1, fun e y a hs => hs⟩
 ·rename_i t b q
  obtain ⟨h1, v, h2, rfl⟩ := h
  refine ⟨h1, fun hb => (h2 hb).1, fun e y a hs => ?_⟩
  cases hb : (frGet σ.fr t).gv b with
  | false =>
   rw [hb] at hs
   simp only [St.app]
   exact hs.whnf
  | true =>
   rw [(h2 hb).2]
   rw [hb] at hs
   exact hs
 ·subst h; exact fun e y a hs => hs
 ·obtain ⟨h1, h2, rfl⟩ := h
  exact ⟨h1, h2, fun e y a hs => hs⟩
 ·obtain ⟨h1, rfl⟩ := h
  exact ⟨h1, fun e y a hs => hs⟩
 ·obtain ⟨h1, rfl⟩ := h
  exact ⟨h1, fun e y a hs => hs⟩
 ·obtain ⟨h1, gg, ps, pure, v, rs, h2, h3, h4, h5, rfl⟩ := h
  simp only [vcOps, vcOp, h2]
  refine ⟨h1, v, rs, h3, h4, h5, .inl fun e y a hs => ?_⟩
  rw [← after_app]; exact hs
 ·obtain ⟨h1, h2, gg, ps, pure, p, h3, h4, rfl⟩ := h
  simp only [vcOps, vcGd, h3]
  exact ⟨h1, h2, p, h4, fun e y a hs => hs⟩
 ·exact h.elim
def Opd.use : Opd → List Nat
 | .t n => [n]
 | _ => []
def Q.opds : Q → List Opd
 | .mv x | .sob x | .not x | .ext x _ | .fa x _ | .ld x _ _ | .ldc x _ _ | .fld x _ _ _ | .len x _ | .conv _ x | .cvw _ x | .nch x | .mlen x | .ent x => [x]
 | .shf _ x y | .bin _ x y | .beq _ x y | .ia x y _ | .iaa x y _ _ | .idx x y | .idxa x y _ | .seq _ _ x y | .mm _ x y | .mget x y _ _ _ => [x, y]
 | .pick c a b => [c, a, b]
 | .slc x lo hi _ _ => x :: optL lo ++ optL hi
 | .mk _ parts => parts.map (·.2.2)
 | .clo _ caps => caps
 | .bnd _ caps => caps
 | .chk x lo hi mx => [x, lo, hi, mx]
 | .slcx x lo hi _ => x :: optL lo ++ optL hi
def IOp.opds : IOp → List Opd
 | .q qq => qq.opds
 | .box x => [x]
 | .lits xs _ => xs
 | .mks l c _ _ _ => [l, c]
 | .call f args => f :: args
 | _ => []
def guardUse : Option (Nat × Bool) → List Nat
 | some (t, _) => [t]
 | none => []
def usesIn (U : List Nat) (g : Option (Nat × Bool)) (op : IOp) : Bool := (guardUse g).all (inL U) && op.opds.all fun x => x.use.all (inL U)
structure Ext (U : List Nat) (A B : St) : Prop where
 fr : ∀ t ∈ U, frGet A.fr t = frGet B.fr t
 st : ∀ r row, stGet A.st r = some row → stGet B.st r = some row
theorem Opd.ev_ext {U : List Nat} (h : Ext U A B) {x : Opd} (hx : x.use.all (inL U) = true) : x.ev A = x.ev B := by
 cases x with
 | t n =>
  simp only [Opd.use, List.all_cons, List.all_nil, Bool.and_true] at hx
  exact h.fr n (inL_iff.1 hx)
 | _ => rfl
theorem evs_eq : ∀ {xs : List Opd}, (∀ x ∈ xs, x.ev A = x.ev B) → evs A xs = evs B xs ∧ cds A xs = cds B xs
 | [], _ => ⟨rfl, rfl⟩
 | x :: xs, h => by
  have h1 := h x (by simp)
  have h2 := evs_eq (xs := xs) fun y hy => h y (List.mem_cons_of_mem _ hy)
  simp only [evs, cds, Opd.sv, Opd.cd, h1, h2.1, h2.2, and_self]
theorem mkV_eq : ∀ {l : List (Nat × Nat × Opd)} {cs : List AV}, (∀ x ∈ l.map (·.2.2), x.ev A = x.ev B) → mkV A l cs = mkV B l cs
 | [], _, _ => rfl
 | (o, n, x) :: l, cs, h => by
  have h1 := h x (by simp)
  simp only [mkV, Opd.sv, h1]
  exact mkV_eq fun y hy => h y (by simp only [List.map_cons]; exact List.mem_cons_of_mem _ hy)
theorem mkP_eq {m : Nat} : ∀ {l : List (Nat × Nat × Opd)}, (∀ x ∈ l.map (·.2.2), x.ev A = x.ev B) → mkP A m l → mkP B m l
 | [], _, h => h
 | (o, n, x) :: l, h, hk => by
  have h1 := h x (by simp)
  simp only [mkP, Opd.sv, h1] at hk ⊢
  exact ⟨hk.1, hk.2.1, hk.2.2.1, mkP_eq (fun y hy => h y (by simp only [List.map_cons]; exact List.mem_cons_of_mem _ hy)) hk.2.2.2⟩
theorem pre_ext {U : List Nat} (h : Ext U A B) {q : Q} (hq : ∀ x ∈ q.opds, x.ev A = x.ev B) (hp : q.pre A) : q.pre B ∧ q.val A = q.val B := by
 obtain ⟨hc, hp⟩ := hp
 have one : ∀ {r row}, stGet A.st r = some row → stGet B.st r = some row := fun hr => h.st _ _ hr
 cases q with
 | mv x | not x | ext x _ | fa x _ | ldc x _ _ | fld x _ _ _ | len x _ | conv _ x | cvw _ x | nch x =>
  have h1 := hq x (by simp [Q.opds])
  simp only [Q.pre, Q.cd, Q.val, Opd.sv, Opd.cd, h1] at hc hp ⊢
  exact ⟨⟨hc, hp⟩, trivial⟩
 | shf _ x y | bin _ x y | beq _ x y | iaa x y _ _ | idx x y | idxa x y _ | seq _ _ x y | mm _ x y =>
  have h1 := hq x (by simp [Q.opds])
  have h2 := hq y (by simp [Q.opds])
  simp only [Q.pre, Q.cd, Q.val, Opd.sv, Opd.cd, h1, h2] at hc hp ⊢
  exact ⟨⟨hc, hp⟩, trivial⟩
 | pick c x y =>
  have h1 := hq x (by simp [Q.opds])
  have h2 := hq y (by simp [Q.opds])
  have h3 := hq c (by simp [Q.opds])
  simp only [Q.pre, Q.cd, Q.val, Opd.sv, Opd.cd, h1, h2, h3] at hc hp ⊢
  exact ⟨⟨hc, hp⟩, trivial⟩
 | chk x lo hi mx =>
  have h1 := hq x (by simp [Q.opds])
  have h2 := hq lo (by simp [Q.opds])
  have h3 := hq hi (by simp [Q.opds])
  have h4 := hq mx (by simp [Q.opds])
  simp only [Q.pre, Q.cd, Q.val, Opd.sv, Opd.cd, cds, h1, h2, h3, h4] at hc hp ⊢
  exact ⟨⟨hc, hp⟩, trivial⟩
 | bnd f caps =>
  have := evs_eq (A := A) (B := B) (xs := caps) fun x hx => hq x hx
  simp only [Q.pre, Q.cd, Q.val, this.1, this.2] at hc hp ⊢
  exact ⟨⟨hc, hp⟩, trivial⟩
 | clo f caps =>
  have := evs_eq (A := A) (B := B) (xs := caps) fun x hx => hq x hx
  simp only [Q.pre, Q.cd, Q.val, this.1, this.2] at hc hp ⊢
  exact ⟨⟨hc, hp⟩, trivial⟩
 | mk z parts =>
  have h1 := evs_eq (A := A) (B := B) (xs := parts.map (·.2.2)) fun x hx => hq x (by simpa [Q.opds] using hx)
  have h2 := mkV_eq (A := A) (B := B) (l := parts) (cs := z) fun x hx => hq x (by simpa [Q.opds] using hx)
  simp only [Q.pre, Q.cd, Q.val, h1.2, h2] at hc hp ⊢
  exact ⟨⟨hc, mkP_eq (fun x hx => hq x (by simpa [Q.opds] using hx)) hp⟩, trivial⟩
 | sob x =>
  have h1 := hq x (by simp [Q.opds])
  simp only [Q.pre, Q.cd, Q.val, Opd.sv, Opd.cd, h1] at hc hp ⊢
  generalize (x.ev B).un1 = v at hp
  have key : strP (rowV B v) ∧ strV (rowV A v) = strV (rowV B v) := by
   cases v with
   | row r off n =>
    simp only [rowV] at hp ⊢
    cases hr : stGet A.st r with
    | none => simp only [hr, strP] at hp
    | some row => simp only [one hr]; simp only [hr] at hp ⊢; exact ⟨hp, trivial⟩
   | _ => exact ⟨hp, rfl⟩
  exact ⟨⟨hc, key.1⟩, key.2⟩
 | ia x i s =>
  have h1 := hq x (by simp [Q.opds])
  have h2 := hq i (by simp [Q.opds])
  simp only [Q.pre, Q.cd, Q.val, Opd.sv, Opd.cd, h1, h2] at hc hp ⊢
  refine ⟨⟨hc, ?_⟩, trivial⟩
  unfold iaP at hp ⊢
  split at hp
  ·exact hp
  ·refine ⟨hp.1, hp.2.1, ?_⟩
   rename_i r off m k n e1 e2
   have h3 := hp.2.2
   cases hr : stGet A.st r with
   | none => rw [hr] at h3; cases h3
   | some row => rw [hr] at h3; rw [one hr]; exact h3
  ·exact hp.elim
 | ld x n agg =>
  have h1 := hq x (by simp [Q.opds])
  simp only [Q.pre, Q.cd, Q.val, Opd.sv, Opd.cd, h1] at hc hp ⊢
  generalize (x.ev B).un1 = v at hp
  have key : ldP B n agg v ∧ ldV A n agg v = ldV B n agg v := by
   cases v with
   | ptr r o =>
    simp only [ldP] at hp
    simp only [ldP, ldV]
    cases hr : stGet A.st r with
    | none => rw [hr] at hp; exact hp.elim
    | some row => rw [hr] at hp; rw [one hr]; exact ⟨hp, rfl⟩
   | rptr r i o =>
    simp only [ldP] at hp
    simp only [ldP, ldV]
    cases hr : stGet A.st r with
    | none => rw [hr] at hp; exact hp.elim
    | some row => rw [hr] at hp; rw [one hr]; exact ⟨hp, rfl⟩
   | pv p => cases p <;> exact ⟨hp, rfl⟩
   | _ => exact ⟨hp, rfl⟩
  exact ⟨⟨hc, key.1⟩, key.2⟩
 | slc x lo hi s str =>
  have h0 := hq x (by simp [Q.opds])
  have hl : ∀ y ∈ optL lo, y.ev A = y.ev B := fun y hy => hq y (by simp [Q.opds, hy])
  have hh : ∀ y ∈ optL hi, y.ev A = y.ev B := fun y hy => hq y (by simp [Q.opds, hy])
  have h1 := evs_eq (A := A) (B := B) (xs := x :: optL lo ++ optL hi) fun y hy => hq y hy
  have e1 : loOf A lo = loOf B lo := by
   cases lo with
   | none => rfl
   | some y => simp only [loOf, Opd.sv, hl y (by simp [optL])]
  have e2 : ∀ n, hiOf A n hi = hiOf B n hi := fun n => by
   cases hi with
   | none => rfl
   | some y => simp only [hiOf, Opd.sv, hh y (by simp [optL])]
  have e3 : bndP A lo = bndP B lo := by
   cases lo with
   | none => rfl
   | some y => simp only [bndP, Opd.sv, hl y (by simp [optL])]
  have e4 : bndP A hi = bndP B hi := by
   cases hi with
   | none => rfl
   | some y => simp only [bndP, Opd.sv, hh y (by simp [optL])]
  simp only [Q.pre, Q.cd, Q.val, h1.2, e1, e2, e3, e4, Opd.sv, h0] at hc hp ⊢
  refine ⟨⟨hc, hp.1, hp.2.1, ?_⟩, trivial⟩
  have h5 := hp.2.2
  unfold slcP at h5 ⊢
  split at h5
  ·exact h5
  ·exact h5
  ·refine ⟨h5.1, h5.2.1, h5.2.2.1, h5.2.2.2.1, ?_⟩
   rename_i r off m e
   have h3 := h5.2.2.2.2
   cases hr : stGet A.st r with
   | none => rw [hr] at h3; cases h3
   | some row => rw [hr] at h3; rw [one hr]; exact h3
  ·exact h5
  ·exact h5.elim
 | slcx x lo hi s =>
  have h0 := hq x (by simp [Q.opds])
  have hl : ∀ y ∈ optL lo, y.ev A = y.ev B := fun y hy => hq y (by simp [Q.opds, hy])
  have hh : ∀ y ∈ optL hi, y.ev A = y.ev B := fun y hy => hq y (by simp [Q.opds, hy])
  have h1 := evs_eq (A := A) (B := B) (xs := x :: optL lo ++ optL hi) fun y hy => hq y hy
  have e1 : loOf A lo = loOf B lo := by
   cases lo with
   | none => rfl
   | some y => simp only [loOf, Opd.sv, hl y (by simp [optL])]
  have e2 : ∀ n, hiOf A n hi = hiOf B n hi := fun n => by
   cases hi with
   | none => rfl
   | some y => simp only [hiOf, Opd.sv, hh y (by simp [optL])]
  have e3 : bndP A lo = bndP B lo := by
   cases lo with
   | none => rfl
   | some y => simp only [bndP, Opd.sv, hl y (by simp [optL])]
  have e4 : bndP A hi = bndP B hi := by
   cases hi with
   | none => rfl
   | some y => simp only [bndP, Opd.sv, hh y (by simp [optL])]
  simp only [Q.pre, Q.cd, Q.val, h1.2, e1, e2, e3, e4, Opd.sv, h0] at hc hp ⊢
  refine ⟨⟨hc, hp.1, hp.2.1, ?_⟩, trivial⟩
  have h5 := hp.2.2
  unfold slcxP at h5 ⊢
  split at h5
  ·split at h5
   ·rename_i hr
    rw [one hr]; exact h5
   ·rename_i hr
    rw [one hr]; exact h5
   ·exact h5.elim
  ·exact h5.elim
 | mget m k comma kk zero =>
  have h1 := hq m (by simp [Q.opds])
  have h2 := hq k (by simp [Q.opds])
  simp only [Q.pre, Q.cd, Q.val, Opd.sv, Opd.cd, h1, h2] at hc hp ⊢
  generalize (m.ev B).un1 = v at hp
  generalize (k.ev B).un1 = u at hp
  have key : mgetP B kk v u ∧ mgetV A comma zero v u = mgetV B comma zero v u := by
   unfold mgetP at hp
   split at hp
   ·rename_i r p
    simp only [mgetP, mgetV]
    cases hr : stGet A.st r with
    | none => rw [hr] at hp; exact hp.elim
    | some row => rw [hr] at hp; rw [one hr]; exact ⟨hp, rfl⟩
   ·exact hp.elim
  exact ⟨⟨hc, key.1⟩, key.2⟩
 | mlen m =>
  have h1 := hq m (by simp [Q.opds])
  simp only [Q.pre, Q.cd, Q.val, Opd.sv, Opd.cd, h1] at hc hp ⊢
  generalize (m.ev B).un1 = v at hp
  have key : mlenP B v ∧ mlenV A v = mlenV B v := by
   unfold mlenP at hp
   split at hp
   ·rename_i r
    simp only [mlenP, mlenV]
    cases hr : stGet A.st r with
    | none => rw [hr] at hp; exact hp.elim
    | some row => rw [hr] at hp; rw [one hr]; exact ⟨hp, rfl⟩
   ·exact hp.elim
  exact ⟨⟨hc, key.1⟩, key.2⟩
 | ent m =>
  have h1 := hq m (by simp [Q.opds])
  simp only [Q.pre, Q.cd, Q.val, Opd.sv, Opd.cd, h1] at hc hp ⊢
  generalize (m.ev B).un1 = v at hp
  have key : entP B v ∧ entV A v = entV B v := by
   unfold entP at hp
   split at hp
   ·rename_i r
    simp only [entP, entV]
    cases hr : stGet A.st r with
    | none => rw [hr] at hp; exact hp.elim
    | some row =>
     rw [hr] at hp; rw [one hr]
     cases row with
     | mit m n rem cur =>
      cases cur with
      | none => exact hp.elim
      | some i =>
       simp only at hp ⊢
       cases hm : stGet A.st m with
       | none => rw [hm] at hp; exact hp.elim
       | some row => rw [hm] at hp; rw [one hm]; exact ⟨hp, rfl⟩
     | _ => exact hp.elim
   ·exact hp.elim
  exact ⟨⟨hc, key.1⟩, key.2⟩
theorem snapL_ext {f h : AV → Option PV} (hf : ∀ v p, f v = some p → h v = some p) : ∀ {l : List AV} {ps : List PV}, snapL f l = some ps → snapL h l = some ps
 | [], ps, hs => hs
 | v :: l, ps, hs => by
  simp only [snapL] at hs ⊢
  split at hs
  ·rename_i p qs h1 h2
   rw [hf _ _ h1, snapL_ext hf h2]; exact hs
  ·cases hs
theorem snap_ext {s t : List (Nat × Row)} (h : ∀ r row, stGet s r = some row → stGet t r = some row) : ∀ (k : Nat) (v : AV) (p : PV), snap s k v = some p → snap t k v = some p
 | 0, _, _, hs => by cases hs
 | k + 1, v, p, hs => by
  have ih := snap_ext h k
  have ihL := fun {l : List AV} {ps : List PV} (hh : snapL (snap s k) l = some ps) => snapL_ext ih hh
  cases v with
  | agg cs | tup cs | fn _ cs =>
   simp only [snap] at hs ⊢
   split at hs
   ·rename_i ps h1; rw [ihL h1]; exact hs
   ·cases hs
  | row r off n =>
   simp only [snap] at hs ⊢
   cases hr : stGet s r with
   | none => rw [hr] at hs; cases hs
   | some row => rw [hr] at hs; rw [h _ _ hr]; exact hs
  | ptr r off =>
   cases off with
   | zero =>
    simp only [snap] at hs ⊢
    cases hr : stGet s r with
    | none => rw [hr] at hs; cases hs
    | some row =>
     rw [hr] at hs; rw [h _ _ hr]
     cases row with
     | box cs =>
      simp only at hs ⊢
      split at hs
      ·rename_i ps h1; rw [ihL h1]; exact hs
      ·cases hs
     | _ => cases hs
   | succ n => simp only [snap] at hs; cases hs
  | cptr cs off => cases off <;> exact hs
  | _ => exact hs
theorem callArgs_ext {U : List Nat} (h : Ext U A B) {f : Opd} {args : List Opd} (hf : f.ev A = f.ev B) (ha : ∀ x ∈ args, x.ev A = x.ev B) {r : FuncId × List PV × Bool} (hc : callArgs A f args = some r) : callArgs B f args = some r := by
 have h1 := (evs_eq ha).1
 simp only [callArgs, Opd.sv, hf, h1] at hc ⊢
 split at hc
 ·rename_i gg caps hg
  split at hc
  ·rename_i ps hs
   rw [snapL_ext (snap_ext h.st 4) hs]; exact hc
  ·cases hc
 ·cases hc
theorem effP_ext {U : List Nat} (h : Ext U A B) (hu : usesIn U g op = true) (he : effP P A d g op E) : effP P B d g op E := by
 simp only [usesIn, Bool.and_eq_true, List.all_eq_true] at hu
 have ho : ∀ x ∈ op.opds, x.ev A = x.ev B := fun x hx => Opd.ev_ext h (List.all_eq_true.2 (hu.2 x hx))
 unfold effP at he
 split at he
 ·rename_i q
  obtain ⟨h1, rfl⟩ := he
  obtain ⟨h2, h3⟩ := pre_ext h (q := q) (fun x hx => ho x hx) h1
  rw [h3]; exact ⟨h2, rfl⟩
 ·rename_i t b q
  have hg : frGet A.fr t = frGet B.fr t := h.fr t (inL_iff.1 (hu.1 t (by simp [guardUse])))
  rw [hg] at he
  obtain ⟨h1, v, h2, rfl⟩ := he
  refine ⟨h1, v, fun hb => ?_, rfl⟩
  obtain ⟨h3, h4⟩ := pre_ext h (q := q) (fun x hx => ho x hx) (h2 hb).1
  exact ⟨h3, (h2 hb).2.trans h4⟩
 ·exact he
 ·rename_i x
  have h1 := ho x (by simp [IOp.opds])
  simp only [effP, Opd.sv, Opd.cd, h1] at he ⊢
  exact he
 ·rename_i xs s
  have h1 := evs_eq (A := A) (B := B) (xs := xs) fun x hx => ho x hx
  simp only [effP, h1.1, h1.2] at he ⊢
  exact he
 ·rename_i l c s bytes z
  have h1 := ho l (by simp [IOp.opds])
  have h2 := ho c (by simp [IOp.opds])
  simp only [effP, Opd.sv, Opd.cd, h1, h2] at he ⊢
  exact he
 ·rename_i f args
  have h1 := evs_eq (A := A) (B := B) (xs := args) fun x hx => ho x (by simp [IOp.opds, hx])
  have h2 := ho f (by simp [IOp.opds])
  obtain ⟨h3, gg, ps, pure, v, rs, h4, h5, h6, h7, h8⟩ := he
  simp only [Opd.cd, h2, h1.2] at h3
  exact ⟨h3, gg, ps, pure, v, rs, callArgs_ext h h2 (fun x hx => ho x (by simp [IOp.opds, hx])) h4, h5, h6, h7, h8⟩
 ·rename_i t b f args
  have hg : frGet A.fr t = frGet B.fr t := h.fr t (inL_iff.1 (hu.1 t (by simp [guardUse])))
  have h1 := evs_eq (A := A) (B := B) (xs := args) fun x hx => ho x (by simp [IOp.opds, hx])
  have h2 := ho f (by simp [IOp.opds])
  rw [hg] at he
  obtain ⟨h0, h3, gg, ps, pure, p, h4, h5, h6⟩ := he
  simp only [Opd.cd, h2, h1.2] at h3
  exact ⟨h0, h3, gg, ps, pure, p, callArgs_ext h h2 (fun x hx => ho x (by simp [IOp.opds, hx])) h4, h5, h6⟩
 ·exact he.elim
end
end Go.Vc

namespace Go.Vc
open Go.RowKit
set_option linter.unusedSimpArgs false
set_option linter.constructorNameAsVariable false
def GI.own (i : GI) : Nat := ownOf i.d i.op
def GI.out (N : List Nat) (i : GI) : Nat → Bool := fun q => inL N q && (!inL i.R q && !(i.own == q))
def addRow (D : Nat → Bool) (st : List (Nat × Row)) : Option (Nat × Row) → List (Nat × Row)
 | none => st
 | some (r, row) => (r, row.clip D) :: stDel st r
def St.add (σ : St) (d : Nat) (D : Nat → Bool) (E : Eff) : St := ⟨frPut σ.fr d (E.v.clip D), addRow D σ.st E.nr⟩
def vcG (P : Program) (N : List Nat) : List GI → St → (St → Prop) → Prop
 | [], σ, K => K σ
 | i :: L, σ, K => ∃ E, effP P (σ.norm i.U i.R) i.d i.g i.op E ∧ vcG P N L (σ.add i.d (i.out N) E) K
structure Same (σ τ : St) : Prop where
 fr : ∀ t, frSome σ.fr t = frSome τ.fr t
 st : ∀ r, stGet σ.st r = stGet τ.st r
theorem Same.rfl' {σ : St} : Same σ σ := ⟨fun _ => rfl, fun _ => rfl⟩
theorem frKeep_eq {l m : List (Nat × AV)} : ∀ {U : List Nat}, (∀ t ∈ U, frSome l t = frSome m t) → frKeep l U = frKeep m U
 | [], _ => rfl
 | t :: U, h => by
  have ih := frKeep_eq (U := U) fun t ht => h t (List.mem_cons_of_mem _ ht)
  simp only [frKeep, h t (by simp), ih]
theorem stKeep_eq {l m : List (Nat × Row)} : ∀ {U : List Nat}, (∀ t ∈ U, stGet l t = stGet m t) → stKeep l U = stKeep m U
 | [], _ => rfl
 | t :: U, h => by
  have ih := stKeep_eq (U := U) fun t ht => h t (List.mem_cons_of_mem _ ht)
  simp only [stKeep, h t (by simp), ih]
theorem Same.norm {σ τ : St} (h : Same σ τ) (U R : List Nat) : σ.norm U R = τ.norm U R := by
 unfold St.norm
 rw [frKeep_eq fun t _ => h.fr t, stKeep_eq fun r _ => h.st r]
theorem frSome_put {l : List (Nat × AV)} {d t : Nat} {v : AV} : frSome (frPut l d v) t = if d = t then some v else frSome l t := by
 simp only [frPut, frSome]
 split
 ·rfl
 ·rename_i hn
  induction l with
  | nil => rfl
  | cons a l ih =>
   obtain ⟨k, u⟩ := a
   simp only [frDel]
   split
   ·rename_i hk
    have : ¬ k = t := fun e => hn (by rw [← hk, e])
    simp only [frSome, if_neg this]
    exact ih
   ·simp only [frSome]
    split
    ·rfl
    ·exact ih
theorem stGet_del {l : List (Nat × Row)} {r q : Nat} (h : r ≠ q) : stGet (stDel l r) q = stGet l q := by
 induction l with
 | nil => rfl
 | cons a l ih =>
  obtain ⟨k, u⟩ := a
  simp only [stDel]
  split
  ·rename_i hk
   have : ¬ k = q := fun e => h (by rw [← hk, e])
   simp only [stGet, if_neg this]
   exact ih
  ·simp only [stGet]
   split
   ·rfl
   ·exact ih
theorem stGet_add {D : Nat → Bool} {l : List (Nat × Row)} {o : Option (Nat × Row)} {q : Nat} : stGet (addRow D l o) q = match o with
  | none => stGet l q
  | some (r, row) => if r = q then some (row.clip D) else stGet l q := by
 cases o with
 | none => rfl
 | some a =>
  obtain ⟨r, row⟩ := a
  simp only [addRow, stGet]
  split
  ·rfl
  ·rename_i h; exact stGet_del h
theorem Same.add {σ τ : St} (h : Same σ τ) (d : Nat) (D : Nat → Bool) (E : Eff) : Same (σ.add d D E) (τ.add d D E) := by
 refine ⟨fun t => ?_, fun r => ?_⟩
 ·simp only [St.add, frSome_put, h.fr]
 ·simp only [St.add, stGet_add]
  split
  ·exact h.st r
  ·simp only [h.st]
theorem add_swap {σ : St} {d d' : Nat} {D D' : Nat → Bool} {E E' : Eff} (hd : d ≠ d') (hr : ∀ r row r' row', E.nr = some (r, row) → E'.nr = some (r', row') → r ≠ r') :
  Same ((σ.add d D E).add d' D' E') ((σ.add d' D' E').add d D E) := by
 refine ⟨fun t => ?_, fun q => ?_⟩
 ·simp only [St.add, frSome_put]
  by_cases h1 : d = t
  ·subst h1
   rw [if_pos rfl, if_neg (Ne.symm hd), if_pos rfl]
  ·by_cases h2 : d' = t
   ·subst h2; simp [hd]
   ·simp [h1, h2]
 ·simp only [St.add, stGet_add]
  cases he : E.nr with
  | none => rfl
  | some a =>
   obtain ⟨r, row⟩ := a
   cases he' : E'.nr with
   | none => rfl
   | some b =>
    obtain ⟨r', row'⟩ := b
    have hne := hr r row r' row' he he'
    simp only
    by_cases h1 : r = q
    ·subst h1; rw [if_pos rfl, if_neg (Ne.symm hne), if_pos rfl]
    ·by_cases h2 : r' = q
     ·subst h2; simp [hne]
     ·simp [h1, h2]
theorem vcG_same {P : Program} {N : List Nat} {K : St → Prop} (hK : ∀ σ τ, Same σ τ → K σ → K τ) : ∀ {L : List GI} {σ τ : St}, Same σ τ → vcG P N L σ K → vcG P N L τ K
 | [], _, _, h, hk => hK _ _ h hk
 | i :: L, σ, τ, h, hk => by
  obtain ⟨E, h1, h2⟩ := hk
  exact ⟨E, by rw [← h.norm]; exact h1, vcG_same hK (h.add _ _ _) h2⟩
structure Indep (i j : GI) : Prop where
 d : i.d ≠ j.d
 own : i.own ≠ j.own
 u : j.d ∉ i.U
 u' : i.d ∉ j.U
 r : j.own ∉ i.R
 r' : i.own ∉ j.R
theorem norm_add {σ : St} {d : Nat} {D : Nat → Bool} {E : Eff} {U R : List Nat} (hd : d ∉ U) (hr : ∀ r row, E.nr = some (r, row) → r ∉ R) : (σ.add d D E).norm U R = σ.norm U R := by
 have h1 : frKeep (σ.add d D E).fr U = frKeep σ.fr U := frKeep_eq fun t ht => by
  simp only [St.add, frSome_put]
  rw [if_neg fun e => hd (by rw [e]; exact ht)]
 have h2 : stKeep (σ.add d D E).st R = stKeep σ.st R := stKeep_eq fun r hr' => by
  simp only [St.add, stGet_add]
  split
  ·rfl
  ·rename_i r0 row he
   rw [if_neg fun e => hr r0 row he (by rw [e]; exact hr')]
 unfold St.norm
 rw [h1, h2]
theorem vcG_swap {P : Program} {N : List Nat} {K : St → Prop} (hK : ∀ σ τ, Same σ τ → K σ → K τ) {i j : GI} {L : List GI} {σ : St} (h : Indep i j) (hk : vcG P N (i :: j :: L) σ K) : vcG P N (j :: i :: L) σ K := by
 obtain ⟨E, h1, E', h2, h3⟩ := hk
 have o1 : ∀ r row, E.nr = some (r, row) → r = i.own := fun r row hn => (eff_own h1 hn).1
 rw [norm_add h.u' fun r row hn => by rw [o1 r row hn]; exact h.r'] at h2
 have o2 : ∀ r row, E'.nr = some (r, row) → r = j.own := fun r row hn => (eff_own h2 hn).1
 refine ⟨E', h2, E, ?_, vcG_same hK (add_swap h.d fun r row r' row' a b => by rw [o1 r row a, o2 r' row' b]; exact h.own) h3⟩
 rw [norm_add h.u fun r row hn => by rw [o2 r row hn]; exact h.r]
 exact h1
theorem vcG_front {P : Program} {N : List Nat} {K : St → Prop} (hK : ∀ σ τ, Same σ τ → K σ → K τ) {j : GI} : ∀ {L1 L2 : List GI} {σ : St}, (∀ i ∈ L1, Indep i j) → vcG P N (L1 ++ j :: L2) σ K → vcG P N (j :: (L1 ++ L2)) σ K
 | [], _, _, _, hk => hk
 | i :: L1, L2, σ, h, hk => by
  refine vcG_swap hK (h i (by simp)) ?_
  obtain ⟨E, h1, h2⟩ := hk
  exact ⟨E, h1, vcG_front hK (fun k hk => h k (List.mem_cons_of_mem _ hk)) h2⟩
mutual
theorem clip_clip {D D' : Nat → Bool} (h : ∀ q, D' q = true → D q = true) : ∀ v : AV, (v.clip D).clip D' = v.clip D
 | .un | .pv _ | .e0 | .eptr _ _ _ | .cptr _ _ => by simp only [AV.clip]
 | .agg cs | .tup cs | .lit cs | .fn _ cs | .bnd _ cs => by simp only [AV.clip, clips_clips h cs]
 | .row r _ _ | .ptr r _ | .rptr r _ _ | .mp r | .it r => by
  simp only [AV.clip]
  cases hD : D r
  ·have : D' r = false := by
    cases hD' : D' r
    ·rfl
    ·rw [h r hD'] at hD; cases hD
   simp only [Bool.false_eq_true, if_false, AV.clip, this]
  ·simp only [if_true, AV.clip]
 | .whn _ v => by simp only [AV.clip, clip_clip h v]
theorem clips_clips {D D' : Nat → Bool} (h : ∀ q, D' q = true → D q = true) : ∀ l : List AV, AV.clips D' (AV.clips D l) = AV.clips D l
 | [] => rfl
 | v :: l => by simp only [AV.clips, clip_clip h v, clips_clips h l]
end
theorem rclip_clip {D D' : Nat → Bool} (h : ∀ q, D' q = true → D q = true) (row : Row) : (row.clip D).clip D' = row.clip D := by
 cases row with
 | mit m n rem cur =>
  simp only [Row.clip]
  cases hD : D m
  ·have : D' m = false := by
    cases hD' : D' m
    ·rfl
    ·rw [h m hD'] at hD; cases hD
   simp only [Bool.false_eq_true, if_false, Row.clip, this]
  ·simp only [if_true, Row.clip]
 | _ => simp only [Row.clip, clips_clips h]
structure NoRef (r : Nat) (σ : St) : Prop where
 fr : ∀ k v, (k, v) ∈ σ.fr → v.clip (only r) = v
 st : ∀ q row, (q, row) ∈ σ.st → q ≠ r ∧ row.clip (only r) = row
theorem frClip_id {D : Nat → Bool} : ∀ {l : List (Nat × AV)}, (∀ k v, (k, v) ∈ l → v.clip D = v) → frClip D l = l
 | [], _ => rfl
 | (k, v) :: l, h => by simp only [frClip, h k v (by simp), frClip_id fun k v hm => h k v (List.mem_cons_of_mem _ hm)]
theorem stClip_id {D : Nat → Bool} : ∀ {l : List (Nat × Row)}, (∀ k v, (k, v) ∈ l → v.clip D = v) → stClip D l = l
 | [], _ => rfl
 | (k, v) :: l, h => by simp only [stClip, h k v (by simp), stClip_id fun k v hm => h k v (List.mem_cons_of_mem _ hm)]
theorem stDel_id {r : Nat} : ∀ {l : List (Nat × Row)}, (∀ k v, (k, v) ∈ l → k ≠ r) → stDel l r = l
 | [], _ => rfl
 | (k, v) :: l, h => by simp only [stDel, if_neg (h k v (by simp)), stDel_id fun k v hm => h k v (List.mem_cons_of_mem _ hm)]
theorem NoRef.new {r : Nat} {σ : St} (h : NoRef r σ) (row : Row) : σ.newRow r row = ⟨σ.fr, (r, row) :: σ.st⟩ := by
 unfold St.newRow
 rw [frClip_id h.fr, stDel_id fun k v hm => (h.st k v hm).1, stClip_id fun k v hm => (h.st k v hm).2]
theorem Kept.rfl' {x : Cx} : Kept x x := ⟨Nat.le_refl _, fun _ _ _ => rfl, fun _ _ h => h⟩
theorem SRel.weak {e : Env} {σ τ : St} {x : Cx} {a : Act} (h : SRel e σ x a) (hfr : ∀ k v, (k, v) ∈ τ.fr → ∃ u D, (k, u) ∈ σ.fr ∧ v = u.clip D) (hst : ∀ r row, (r, row) ∈ τ.st → ∃ u D, (r, u) ∈ σ.st ∧ row = u.clip D)
  (hk : τ.st.map (·.1) = σ.st.map (·.1)) : SRel e τ x a :=
 have hm : ∀ r row, (r, row) ∈ τ.st → ∃ row', (r, row') ∈ σ.st := fun r row hm => let ⟨u, _, h1, _⟩ := hst r row hm; ⟨u, h1⟩
 {defers := h.defers
  size := h.size
  fr := fun k v hm => by
   obtain ⟨u, D, h1, rfl⟩ := hfr k v hm
   obtain ⟨cv, h2, h3⟩ := h.fr k u h1
   exact ⟨cv, h2, VRel.clip Kept.rfl' (fun _ _ => rfl) u h3⟩
  st := fun r row hm => by
   obtain ⟨u, D, h1, rfl⟩ := hst r row hm
   exact Row.clip_rel Kept.rfl' (fun _ _ => rfl) (fun _ => rfl) (h.st r u h1)
  keys := by rw [hk]; exact h.keys
  inj := fun r row r' row' h1 h2 => let ⟨u, k1⟩ := hm r row h1; let ⟨u', k2⟩ := hm r' row' h2; h.inj r u r' u' k1 k2
  F := fun b => by
   rw [h.F b]
   have key : ∀ {s t : List (Nat × Row)}, s.map (·.1) = t.map (·.1) → Own s x.ρ b → Own t x.ρ b := by
    intro s t hst ⟨r, row, h1, h2⟩
    have : r ∈ t.map (·.1) := by rw [← hst]; exact List.mem_map.2 ⟨_, h1, rfl⟩
    obtain ⟨⟨r', row'⟩, h3, rfl⟩ := List.mem_map.1 this
    exact ⟨_, row', h3, h2⟩
   constructor
   ·exact Or.imp id (key hk.symm)
   ·exact Or.imp id (key hk)
  own := fun r row h1 hok => let ⟨u, k1⟩ := hm r row h1; h.own r u k1 hok
  f0 := h.f0
  tabs := h.tabs
  below := h.below
  fix := h.fix
  small := h.small }
theorem clip_none' (v : AV) : v = v.clip (fun _ => false) := (clip_none v).symm
theorem rclip_none (row : Row) : row = row.clip (fun _ => false) := by
 cases row <;> simp only [Row.clip, clips_none, Bool.false_eq_true, if_false]
theorem SRel.add {e : Env} {σ : St} {x : Cx} {a : Act} {d : Nat} {D : Nat → Bool} {E : Eff} (h : SRel e (σ.app d E) x a) (hn : ∀ r row, E.nr = some (r, row) → NoRef r σ) : SRel e (σ.add d D E) x a := by
 cases he : E.nr with
 | none =>
  simp only [St.app, he] at h
  refine h.weak (fun k v hm => ?_) (fun r row hm => ?_) ?_
  ·simp only [St.add, frPut] at hm
   rcases List.mem_cons.1 hm with hm | hm
   ·injection hm with h1 h2
    subst h1; subst h2
    exact ⟨E.v, D, by simp only [St.put, frPut]; exact List.mem_cons_self, rfl⟩
   ·exact ⟨v, fun _ => false, by simp only [St.put, frPut]; exact List.mem_cons_of_mem _ hm, clip_none' v⟩
  ·simp only [St.add, he, addRow] at hm
   exact ⟨row, fun _ => false, hm, rclip_none row⟩
  ·simp only [St.add, he, addRow, St.put]
 | some q =>
  obtain ⟨r, row⟩ := q
  have hr := hn r row he
  simp only [St.app, he, hr.new] at h
  have hdel : stDel σ.st r = σ.st := stDel_id fun k v hm => (hr.st k v hm).1
  refine h.weak (fun k v hm => ?_) (fun q row' hm => ?_) ?_
  ·simp only [St.add, frPut] at hm
   rcases List.mem_cons.1 hm with hm | hm
   ·injection hm with h1 h2
    subst h1; subst h2
    exact ⟨E.v, D, by simp only [St.put, frPut]; exact List.mem_cons_self, rfl⟩
   ·exact ⟨v, fun _ => false, by simp only [St.put, frPut]; exact List.mem_cons_of_mem _ hm, clip_none' v⟩
  ·simp only [St.add, he, addRow, hdel] at hm
   rcases List.mem_cons.1 hm with hm | hm
   ·injection hm with h1 h2
    subst h1; subst h2
    exact ⟨row, D, by simp only [St.put]; exact List.mem_cons_self, rfl⟩
   ·exact ⟨row', fun _ => false, by simp only [St.put]; exact List.mem_cons_of_mem _ hm, rclip_none row'⟩
  ·simp only [St.add, he, addRow, hdel, St.put, List.map_cons]
theorem NoRef.add {q : Nat} {σ : St} {d : Nat} {D : Nat → Bool} {E : Eff} (h : NoRef q σ) (hD : D q = true) (hq : ∀ r row, E.nr = some (r, row) → r ≠ q) : NoRef q (σ.add d D E) := by
 have hD' : ∀ p, only q p = true → D p = true := fun p hp => by
  simp only [only, beq_iff_eq] at hp
  rw [hp]; exact hD
 refine ⟨fun k v hm => ?_, fun p row hm => ?_⟩
 ·simp only [St.add, frPut] at hm
  rcases List.mem_cons.1 hm with hm | hm
  ·injection hm with h1 h2
   subst h2
   exact clip_clip hD' _
  ·exact h.fr k v (frDel_mem hm).1
 ·simp only [St.add] at hm
  cases he : E.nr with
  | none => rw [he] at hm; exact h.st p row hm
  | some b =>
   obtain ⟨r, row0⟩ := b
   rw [he] at hm
   simp only [addRow] at hm
   rcases List.mem_cons.1 hm with hm | hm
   ·injection hm with h1 h2
    subst h1; subst h2
    exact ⟨hq _ row0 he, rclip_clip hD' _⟩
   ·exact h.st p row (stDel_mem hm).1
def stOut (N : List Nat) : List (Nat × Row) → List (Nat × Row)
 | [] => []
 | (r, row) :: l => if inL N r then stOut N l else (r, row.clip (inL N)) :: stOut N l
def St.strip (σ : St) (N : List Nat) : St := ⟨frClip (inL N) σ.fr, stOut N σ.st⟩
theorem stOut_mem {N : List Nat} : ∀ {l : List (Nat × Row)} {r : Nat} {row : Row}, (r, row) ∈ stOut N l → inL N r = false ∧ ∃ u, (r, u) ∈ l ∧ row = u.clip (inL N)
 | [], _, _, h => by cases h
 | (q, u) :: l, r, row, h => by
  simp only [stOut] at h
  split at h
  ·obtain ⟨h1, u', h2, h3⟩ := stOut_mem h
   exact ⟨h1, u', List.mem_cons_of_mem _ h2, h3⟩
  ·rename_i hq
   rcases List.mem_cons.1 h with h | h
   ·injection h with h1 h2
    subst h1
    exact ⟨by simpa using hq, u, by simp, h2⟩
   ·obtain ⟨h1, u', h2, h3⟩ := stOut_mem h
    exact ⟨h1, u', List.mem_cons_of_mem _ h2, h3⟩
theorem stOut_keys {N : List Nat} : ∀ {l : List (Nat × Row)}, (l.map (·.1)).Nodup → ((stOut N l).map (·.1)).Nodup
 | [], _ => by simp [stOut]
 | (q, u) :: l, h => by
  simp only [List.map_cons, List.nodup_cons] at h
  simp only [stOut]
  split
  ·exact stOut_keys h.2
  ·simp only [List.map_cons, List.nodup_cons]
   refine ⟨fun hm => ?_, stOut_keys h.2⟩
   obtain ⟨⟨q', row⟩, h1, h2⟩ := List.mem_map.1 hm
   have h2' : q' = q := h2
   subst h2'
   obtain ⟨_, u', h3, _⟩ := stOut_mem h1
   exact h.1 (List.mem_map.2 ⟨_, h3, rfl⟩)
theorem SRel.strip {e : Env} {σ : St} {x : Cx} {a : Act} (h : SRel e σ x a) (N : List Nat) : ∃ y, y.w = x.w ∧ SRel e (σ.strip N) y a := by
 have k : Kept x ⟨x.w, fun b => e.F0 b ∨ Own (σ.strip N).st x.ρ b, x.ρ⟩ := ⟨Nat.le_refl _, fun _ _ _ => rfl, fun b _ hb => (h.F b).2 (hb.imp id fun ⟨r, row, h1, h2⟩ => let ⟨_, u, h3, _⟩ := stOut_mem h1; ⟨r, u, h3, h2⟩)⟩
 have hm : ∀ r row, (r, row) ∈ (σ.strip N).st → ∃ row', (r, row') ∈ σ.st := fun r row hm => let ⟨_, u, h1, _⟩ := stOut_mem hm; ⟨u, h1⟩
 exact ⟨⟨x.w, fun b => e.F0 b ∨ Own (σ.strip N).st x.ρ b, x.ρ⟩, rfl, {
  defers := h.defers
  size := h.size
  fr := fun t v hm => by
   obtain ⟨u, h1, rfl⟩ := frClip_mem hm
   obtain ⟨cv, h2, h3⟩ := h.fr t u h1
   exact ⟨cv, h2, VRel.clip k (fun _ _ => rfl) u h3⟩
  st := fun r row hm => by
   obtain ⟨_, u, h1, rfl⟩ := stOut_mem hm
   exact Row.clip_rel k (fun _ _ => rfl) (fun _ => rfl) (h.st r u h1)
  keys := stOut_keys h.keys
  inj := fun r row r' row' h1 h2 => let ⟨u, k1⟩ := hm r row h1; let ⟨u', k2⟩ := hm r' row' h2; h.inj r u r' u' k1 k2
  F := fun b => Iff.rfl
  own := fun r row h1 hok => let ⟨u, k1⟩ := hm r row h1; h.own r u k1 hok
  f0 := h.f0
  tabs := h.tabs
  below := h.below
  fix := h.fix
  small := h.small }⟩
theorem strip_noref {σ : St} {N : List Nat} {r : Nat} (h : inL N r = true) : NoRef r (σ.strip N) := by
 have hD : ∀ p, only r p = true → inL N p = true := fun p hp => by
  simp only [only, beq_iff_eq] at hp
  rw [hp]; exact h
 refine ⟨fun k v hm => ?_, fun q row hm => ?_⟩
 ·obtain ⟨u, _, rfl⟩ := frClip_mem hm
  exact clip_clip hD u
 ·obtain ⟨h1, u, _, rfl⟩ := stOut_mem hm
  refine ⟨fun e => ?_, rclip_clip hD u⟩
  rw [e, h] at h1; cases h1
end Go.Vc

namespace Go.Vc
open Go.RowKit
set_option linter.constructorNameAsVariable false
def marks (sz : Nat) (l : List Nat) : Array Bool := ⟨(List.range sz).map (inL l)⟩
theorem marks_size {sz : Nat} {l : List Nat} : (marks sz l).size = sz := by simp [marks]
theorem marks_get {sz : Nat} {l : List Nat} {i : Nat} (d : Bool) (h : i < sz) : (marks sz l).getD i d = inL l i := by
 simp [marks, Array.getD_eq_getD_getElem?, h]
theorem marks_out {sz : Nat} {l : List Nat} {i : Nat} (d : Bool) (h : ¬ i < sz) : (marks sz l).getD i d = d := by
 simp [marks, Array.getD_eq_getD_getElem?, h]
def giOf (P : Program) (owns : List Nat) (n : Nat) (ops : Array Oper) (N : List Nat) (x : Nat × List Nat × List Nat) : Option (Nat × GI) := match ops[x.1]? with
 | some o => match instOf P owns n ops o with
  | some ⟨some d, g, op⟩ => if usesIn x.2.1 g op && (!makesRow op || inL N (ownOf d op)) then some (x.1, ⟨d, g, op, x.2.1, x.2.2⟩) else none
  | _ => none
 | none => none
def gisOf (P : Program) (owns : List Nat) (n : Nat) (ops : Array Oper) (N : List Nat) : List (Nat × List Nat × List Nat) → Option (List (Nat × GI))
 | [] => some []
 | x :: l => match giOf P owns n ops N x, gisOf P owns n ops N l with
  | some a, some r => some (a :: r)
  | _, _ => none
def waitsOn (ops : Array Oper) (D : List Nat) (k : Nat) : Bool := match ops[k]? with
 | some o => o.after.toList.any fun e => Region.binds .any e && inL D e.on
 | none => false
def descG (ops : Array Oper) : List Nat → List Nat → List Nat
 | [], D => D
 | k :: r, D => if waitsOn ops D k then descG ops r (k :: D) else descG ops r D
def notIn (l D : List Nat) : List Nat := l.filter fun x => !inL D x
def pairOk (ops : Array Oper) (ids : List Nat) (a b : Nat × GI) : Bool :=
 !(a.2.d == b.2.d) && !(a.2.own == b.2.own) && !inL a.2.U b.2.d && !inL a.2.R b.2.own &&
  ((!inL b.2.U a.2.d && !inL b.2.R a.2.own) || (!(a.1 == b.1) && inL (descG ops ids [a.1]) b.1))
def pairsOk (ops : Array Oper) (ids : List Nat) : List (Nat × GI) → Bool
 | [] => true
 | a :: l => l.all (pairOk ops ids a) && pairsOk ops ids l
def prefOk (ops : Array Oper) : List Nat → List Nat → Bool
 | _, [] => true
 | pre, i :: l => inL (Region.ready .any ops (marks ops.size pre)) i && prefOk ops (i :: pre) l
def loneOk (ops : Array Oper) (ids : List Nat) : Bool := ids.all fun h => (Region.ready .any ops (marks ops.size (notIn ids (descG ops ids [h])))).all (inL ids)
def groupOf (P : Program) (owns : List Nat) (n : Nat) (ops : Array Oper) (N : List Nat) (l : List (Nat × List Nat × List Nat)) : Option (List (Nat × GI)) := match gisOf P owns n ops N l with
 | some G => if prefOk ops [] (l.map (·.1)) && loneOk ops (l.map (·.1)) && pairsOk ops (l.map (·.1)) G then some G else none
 | none => none
section
variable {P : Program} {owns : List Nat} {ops : Array Oper} {N : List Nat} {e : Env} {Q : Exit → Act → World → Prop} {calm : Nat → Bool} {K : St → Prop}
structure GOk (P : Program) (owns : List Nat) (n : Nat) (ops : Array Oper) (N : List Nat) (p : Nat × GI) : Prop where
 is : ∃ o, ops[p.1]? = some o ∧ instOf P owns n ops o = some ⟨some p.2.d, p.2.g, p.2.op⟩
 uses : usesIn p.2.U p.2.g p.2.op = true
 row : makesRow p.2.op = true → inL N p.2.own = true
theorem gisOf_ok {n : Nat} : ∀ {l : List (Nat × List Nat × List Nat)} {G : List (Nat × GI)}, gisOf P owns n ops N l = some G → G.map (·.1) = l.map (·.1) ∧ ∀ p ∈ G, GOk P owns n ops N p
 | [], G, h => by simp only [gisOf, Option.some.injEq] at h; subst h; exact ⟨rfl, fun p hp => by cases hp⟩
 | x :: l, G, h => by
  simp only [gisOf] at h
  split at h
  ·rename_i a r h1 h2
   injection h with h; subst h
   obtain ⟨h3, h4⟩ := gisOf_ok h2
   unfold giOf at h1
   split at h1
   ·rename_i o ho
    split at h1
    ·rename_i d g op hi
     split at h1
     ·rename_i hc
      simp only [Bool.and_eq_true, Bool.or_eq_true, Bool.not_eq_true'] at hc
      injection h1 with h1; subst h1
      refine ⟨by simp [h3], fun p hp => ?_⟩
      rcases List.mem_cons.1 hp with rfl | hp
      ·exact ⟨⟨o, ho, hi⟩, hc.1, fun hm => hc.2.resolve_left fun hf => (by rw [hm] at hf; cases hf)⟩
      ·exact h4 p hp
     ·cases h1
    ·cases h1
   ·cases h1
  ·cases h
theorem ready_sub {l l' : Array Bool} {j : Nat} (h : j ∈ Region.ready .any ops l) (hs : ∀ i, l.getD i false = true → l'.getD i false = true) (hj : l'.getD j true = false) : j ∈ Region.ready .any ops l' := by
 rw [mem_ready] at h ⊢
 obtain ⟨_, o, ho, h⟩ := h
 exact ⟨hj, o, ho, fun e he hb => hs _ (h e he hb)⟩
theorem ready_lt {l : Array Bool} {j : Nat} (h : j ∈ Region.ready .any ops l) : j < ops.size := by
 rw [mem_ready] at h
 obtain ⟨_, o, ho, _⟩ := h
 exact (Array.getElem?_eq_some_iff.1 ho).1
structure Left (ops : Array Oper) (ids : List Nat) (L : List Nat) (listed : Array Bool) : Prop where
 size : listed.size = ops.size
 at_ : ∀ i, i < ops.size → listed.getD i false = (inL ids i && !inL L i)
 down : ∀ k o, ops[k]? = some o → listed.getD k false = true → ∀ e ∈ o.after, Region.binds .any e = true → listed.getD e.on false = true
theorem waitsOn_un {listed : Array Bool} {D : List Nat} {k : Nat} (hd : ∀ o, ops[k]? = some o → listed.getD k false = true → ∀ e ∈ o.after, Region.binds .any e = true → listed.getD e.on false = true)
  (hD : ∀ i ∈ D, listed.getD i false = false) (h : waitsOn ops D k = true) : listed.getD k false = false := by
 unfold waitsOn at h
 split at h
 ·rename_i o ho
  obtain ⟨e, he, h⟩ := List.any_eq_true.1 h
  simp only [Bool.and_eq_true] at h
  cases hl : listed.getD k false with
  | false => rfl
  | true =>
   have := hd o ho hl e (by simpa using he) h.1
   rw [hD _ (inL_iff.1 h.2)] at this
   cases this
 ·cases h
theorem desc_un {ids L : List Nat} {listed : Array Bool} (h : Left ops ids L listed) : ∀ {r D : List Nat}, (∀ i ∈ D, listed.getD i false = false) → ∀ i ∈ descG ops r D, listed.getD i false = false
 | [], D, hD => hD
 | k :: r, D, hD => by
  simp only [descG]
  split
  ·rename_i hw
   refine desc_un h fun i hi => ?_
   rcases List.mem_cons.1 hi with rfl | hi
   ·exact waitsOn_un (fun o ho => h.down _ o ho) hD hw
   ·exact hD i hi
  ·exact desc_un h hD
theorem desc_not {ids L : List Nat} {listed : Array Bool} (h : Left ops ids L listed) {j : Nat} (hj : j ∈ Region.ready .any ops listed) : ∀ {r D : List Nat}, (∀ i ∈ D, listed.getD i false = false) → j ∈ descG ops r D → j ∈ D
 | [], D, _, hm => hm
 | k :: r, D, hD, hm => by
  simp only [descG] at hm
  split at hm
  ·rename_i hw
   have hk := waitsOn_un (fun o ho => h.down _ o ho) hD hw
   have hkj : j ∈ k :: D := desc_not h hj (fun i hi => by
    rcases List.mem_cons.1 hi with rfl | hi
    ·exact hk
    ·exact hD i hi) hm
   rcases List.mem_cons.1 hkj with e | hkj
   ·exfalso
    subst e
    unfold waitsOn at hw
    split at hw
    ·rename_i o ho
     obtain ⟨e, he, h1⟩ := List.any_eq_true.1 hw
     simp only [Bool.and_eq_true] at h1
     obtain ⟨_, o', ho', hall⟩ := mem_ready.1 hj
     rw [ho] at ho'
     injection ho' with ho'
     subst ho'
     have := hall e (by simpa using he) h1.1
     rw [hD _ (inL_iff.1 h1.2)] at this
     cases this
    ·cases hw
   ·exact hkj
  ·exact desc_not h hj hD hm
theorem Left.lt {ids L : List Nat} {listed : Array Bool} (h : Left ops ids L listed) {i : Nat} (hi : listed.getD i false = true) : i < ops.size := by
 refine Classical.byContradiction fun hn => ?_
 have : listed[i]? = none := Array.getElem?_eq_none (by have := h.size; omega)
 simp [Array.getD_eq_getD_getElem?, this] at hi
theorem Left.un {ids L : List Nat} {listed : Array Bool} (h : Left ops ids L listed) {i : Nat} (hi : i < ops.size) : listed.getD i true = (inL ids i && !inL L i) := by
 rw [← h.at_ i hi]
 have hi' : i < listed.size := by rw [h.size]; exact hi
 have : listed[i]? = some listed[i] := Array.getElem?_eq_getElem hi'
 simp [Array.getD_eq_getD_getElem?, this]
theorem notIn_mem {l D : List Nat} {x : Nat} : x ∈ notIn l D ↔ x ∈ l ∧ x ∉ D := by
 simp [notIn, List.mem_filter, inL_no]
theorem first_in {G : List (Nat × GI)} {p : Nat → Prop} : (∃ q ∈ G, p q.1) → ∃ pre q post, G = pre ++ q :: post ∧ p q.1 ∧ ∀ r ∈ pre, ¬ p r.1 := by
 induction G with
 | nil => rintro ⟨q, hq, _⟩; cases hq
 | cons a G ih =>
  rintro ⟨q, hq, hp⟩
  by_cases ha : p a.1
  ·exact ⟨[], a, G, rfl, ha, fun r hr => by cases hr⟩
  ·rcases List.mem_cons.1 hq with rfl | hq
   ·exact absurd hp ha
   ·obtain ⟨pre, q', post, h1, h2, h3⟩ := ih ⟨q, hq, hp⟩
    refine ⟨a :: pre, q', post, by rw [h1]; rfl, h2, fun r hr => ?_⟩
    rcases List.mem_cons.1 hr with rfl | hr
    ·exact ha
    ·exact h3 r hr
theorem prefOk_at : ∀ {l pre pre2 post : List Nat} {i : Nat}, prefOk ops pre l = true → l = pre2 ++ i :: post → ∃ pre', (∀ x, x ∈ pre' ↔ x ∈ pre ∨ x ∈ pre2) ∧ i ∈ Region.ready .any ops (marks ops.size pre')
 | [], pre, pre2, post, i, _, e => by simp at e
 | a :: l, pre, [], post, i, h, e => by
  simp only [List.nil_append, List.cons.injEq] at e
  obtain ⟨rfl, rfl⟩ := e
  simp only [prefOk, Bool.and_eq_true] at h
  exact ⟨pre, fun x => by simp, inL_iff.1 h.1⟩
 | a :: l, pre, b :: pre2, post, i, h, e => by
  simp only [List.cons_append, List.cons.injEq] at e
  obtain ⟨rfl, e⟩ := e
  simp only [prefOk, Bool.and_eq_true] at h
  obtain ⟨pre', h1, h2⟩ := prefOk_at h.2 e
  refine ⟨pre', fun x => ?_, h2⟩
  rw [h1 x]
  simp only [List.mem_cons]
  constructor
  ·rintro ((h | h) | h)
   ·exact .inr (.inl h)
   ·exact .inl h
   ·exact .inr (.inr h)
  ·rintro (h | h | h)
   ·exact .inl (.inr h)
   ·exact .inl (.inl h)
   ·exact .inr h
theorem pairsOk_pw {ids : List Nat} : ∀ {G : List (Nat × GI)}, pairsOk ops ids G = true → G.Pairwise fun a b => pairOk ops ids a b = true
 | [], _ => List.Pairwise.nil
 | a :: l, h => by
  simp only [pairsOk, Bool.and_eq_true, List.all_eq_true] at h
  exact List.Pairwise.cons (fun b hb => h.1 b hb) (pairsOk_pw h.2)
theorem frSome_keep {l : List (Nat × AV)} {t : Nat} : ∀ {U : List Nat}, frSome (frKeep l U) t = if t ∈ U then frSome l t else none
 | [] => rfl
 | u :: U => by
  have ih := frSome_keep (l := l) (t := t) (U := U)
  simp only [frKeep]
  by_cases hu : u = t
  ·subst hu
   cases hs : frSome l u with
   | none =>
    simp only [ih, hs]
    simp
   | some v => simp [frSome]
  ·have hne : ¬ t = u := fun e => hu e.symm
   cases hs : frSome l u with
   | none => simp only [ih, List.mem_cons, hne, false_or]
   | some v => simp only [frSome, if_neg hu, ih, List.mem_cons, hne, false_or]
theorem frGet_some : ∀ {l : List (Nat × AV)} {t : Nat}, frGet l t = (frSome l t).getD .un
 | [], t => rfl
 | (k, v) :: l, t => by
  simp only [frGet, frSome]
  split
  ·rfl
  ·exact frGet_some
theorem stGet_keep {l : List (Nat × Row)} {r : Nat} {row : Row} : ∀ {R : List Nat}, stGet (stKeep l R) r = some row → stGet l r = some row
 | [], h => by simp [stKeep, stGet] at h
 | q :: R, h => by
  simp only [stKeep] at h
  split at h
  ·exact stGet_keep h
  ·split at h
   ·rename_i v hv
    simp only [stGet] at h
    split at h
    ·rename_i hq
     subst hq
     rw [hv]; exact h
    ·exact stGet_keep h
   ·exact stGet_keep h
theorem norm_ext (σ : St) (U R : List Nat) : Ext U (σ.norm U R) σ :=
 ⟨fun t ht => by simp only [St.norm, frGet_some, frSome_keep, if_pos ht], fun r row h => stGet_keep h⟩
theorem inst_calm [EP e P] {σ : St} {x : Cx} {a : Act} {o : Oper} {i : Inst} {is : List Inst} (hi : instOf P owns e.n ops o = some i) (hc : i.op.quiet = true ∨ i.op.soft = true) (h : SRel e σ x a) (hk : vcOps P (i :: is) σ K) :
  if Region.wanted o (yielded ops a.tmps) then o.wp P a x.w (fun a' w' => Agr x.w w' ∧ Behind P e is K a' w') Q else Agr x.w x.w ∧ Behind P e is K (a.put o.dst undef) x.w := by
 rcases hc with hq | hs
 ·obtain ⟨cv, σ', hy, h1, h2⟩ := inst_quiet hi hq h hk
  rcases hy with ⟨hw, hr⟩ | ⟨hw, hv⟩
  ·rw [hw, if_pos rfl]
   exact wp_value (hr x.w (Agr.refl _)) ⟨Agr.refl _, σ', x, h1, rfl, h2⟩
  ·rw [hw, if_neg (by simp)]
   subst hv
   exact ⟨Agr.refl _, σ', x, h1, rfl, h2⟩
 ·exact inst_soft hi hs h hk Q
theorem pair_indep {ids L : List Nat} {listed : Array Bool} (hl : Left ops ids L listed) {a b : Nat × GI} (h : pairOk ops ids a b = true) (hr : b.1 ∈ Region.ready .any ops listed) (ha : listed.getD a.1 false = false) : Indep a.2 b.2 := by
 simp only [pairOk, Bool.and_eq_true, Bool.or_eq_true, Bool.not_eq_true', beq_eq_false_iff_ne] at h
 obtain ⟨⟨⟨⟨h1, h2⟩, h3⟩, h4⟩, h5⟩ := h
 rcases h5 with ⟨h5, h6⟩ | ⟨h5, h6⟩
 ·exact ⟨h1, h2, inL_no.1 h3, inL_no.1 h5, inL_no.1 h4, inL_no.1 h6⟩
 ·have := desc_not hl hr (r := ids) (D := [a.1]) (fun i hi => by simp at hi; rw [hi]; exact ha) (inL_iff.1 h6)
  simp only [List.mem_cons, List.not_mem_nil, or_false] at this
  exact absurd this.symm h5
theorem grp_sound [EP e P] {G : List (Nat × GI)} {ids : List Nat} {rest : Nat} (hids : G.map (·.1) = ids) (hG : ∀ p ∈ G, GOk P owns e.n ops N p) (hpre : prefOk ops [] ids = true) (hlone : loneOk ops ids = true)
  (hpair : G.Pairwise fun a b => pairOk ops ids a b = true) (hK : ∀ σ τ, Same σ τ → K σ → K τ)
  (hrest : ∀ σ x a, SRel e σ x a → K σ → wpAnyK P ops Q calm rest (marks ops.size ids) a x.w) :
  ∀ (m : Nat) (L : List (Nat × GI)) (listed : Array Bool) (σ : St) (x : Cx) (a : Act), L.length = m → L.Sublist G → Left ops ids (L.map (·.1)) listed → SRel e σ x a →
   vcG P N (L.map (·.2)) σ K → (∀ p ∈ L, makesRow p.2.op = true → NoRef p.2.own σ) → wpAnyK P ops Q calm (m + rest) listed a x.w := by
 intro m
 induction m with
 | zero =>
  intro L listed σ x a hm hL hl h hk _
  have : L = [] := List.eq_nil_of_length_eq_zero hm
  subst this
  have hls : listed = marks ops.size ids := by
   refine Array.ext (by rw [hl.size, marks_size]) fun i h1 h2 => ?_
   have hi : i < ops.size := by rw [← hl.size]; exact h1
   have e1 := hl.at_ i hi
   have e2 := marks_get (l := ids) false hi
   simp only [List.map_nil, inL, Bool.not_false, Bool.and_true] at e1
   rw [Array.getD_eq_getD_getElem?, Array.getElem?_eq_getElem h1, Option.getD_some] at e1
   rw [Array.getD_eq_getD_getElem?, Array.getElem?_eq_getElem h2, Option.getD_some] at e2
   rw [e1, e2]
  rw [hls, Nat.zero_add]
  exact hrest σ x a h hk
 | succ m ih =>
  intro L listed σ x a hm hL hl h hk hn
  have hsub : ∀ p ∈ L, p ∈ G := fun p hp => hL.subset hp
  have hidL : ∀ i, i ∈ L.map (·.1) → i ∈ ids := fun i hi => by
   obtain ⟨p, hp, rfl⟩ := List.mem_map.1 hi
   rw [← hids]
   exact List.mem_map.2 ⟨p, hsub p hp, rfl⟩
  have hne : ∃ p, p ∈ L := by
   cases L with
   | nil => simp at hm
   | cons p _ => exact ⟨p, by simp⟩
  obtain ⟨p0, hp0⟩ := hne
  rw [show m + 1 + rest = (m + rest) + 1 by omega]
  refine ⟨fun h0 => ?_, fun j hj => ?_⟩
  ·exfalso
   obtain ⟨pre, q, post, h1, h2, h3⟩ := first_in (G := G) (p := fun i => i ∈ L.map (·.1)) ⟨p0, hsub p0 hp0, List.mem_map.2 ⟨p0, hp0, rfl⟩⟩
   have hid : ids = pre.map (·.1) ++ q.1 :: post.map (·.1) := by rw [← hids, h1]; simp
   obtain ⟨pre', h4, h5⟩ := prefOk_at hpre hid
   have hq := ready_lt h5
   have : q.1 ∈ Region.ready .any ops listed := by
    refine ready_sub h5 (fun i hi => ?_) ?_
    ·have hlt : i < ops.size := by
      refine Classical.byContradiction fun hlt => ?_
      rw [marks_out false hlt] at hi; cases hi
     rw [marks_get false hlt, inL_iff, h4] at hi
     rcases hi with hi | hi
     ·cases hi
     ·rw [hl.at_ i hlt, Bool.and_eq_true, inL_iff, Bool.not_eq_true', inL_no]
      refine ⟨by rw [hid]; exact List.mem_append_left _ hi, fun hin => ?_⟩
      obtain ⟨r, hr, e⟩ := List.mem_map.1 hi
      exact h3 r hr (by rw [e]; exact hin)
    ·rw [hl.un hq, Bool.and_eq_false_iff]
     right
     rw [Bool.not_eq_false', inL_iff]
     exact h2
   rw [h0] at this
   cases this
  ·have hjs := ready_lt hj
   have hjL : j ∈ L.map (·.1) := by
    refine Classical.byContradiction fun hjn => ?_
    have hh : p0.1 ∈ ids := hidL _ (List.mem_map.2 ⟨p0, hp0, rfl⟩)
    have hlo := List.all_eq_true.1 hlone _ hh
    have hun := (mem_ready.1 hj).1
    rw [hl.un hjs, inL_no.2 hjn, Bool.not_false, Bool.and_true] at hun
    have h0f : listed.getD p0.1 false = false := by
     obtain ⟨o, ho, _⟩ := (hG p0 (hsub p0 hp0)).is
     rw [hl.at_ _ (Array.getElem?_eq_some_iff.1 ho).1, Bool.and_eq_false_iff, Bool.not_eq_false', inL_iff]
     exact .inr (List.mem_map.2 ⟨p0, hp0, rfl⟩)
    have hde := desc_un hl (r := ids) (D := [p0.1]) (fun i hi => by simp at hi; rw [hi]; exact h0f)
    have hjr : j ∈ Region.ready .any ops (marks ops.size (notIn ids (descG ops ids [p0.1]))) := by
     refine ready_sub hj (fun i hi => ?_) ?_
     ·have hlt := hl.lt hi
      have hi' := hi
      rw [hl.at_ i hlt, Bool.and_eq_true, inL_iff, Bool.not_eq_true', inL_no] at hi
      rw [marks_get false hlt, inL_iff, notIn_mem]
      exact ⟨hi.1, fun hc => by rw [hde i hc] at hi'; cases hi'⟩
     ·rw [marks_get true hjs, inL_no, notIn_mem]
      exact fun hc => inL_no.1 hun hc.1
    have := List.all_eq_true.1 hlo j hjr
    rw [hun] at this
    cases this
   obtain ⟨pj, hpj, rfl⟩ := List.mem_map.1 hjL
   obtain ⟨L1, L2, rfl⟩ := List.append_of_mem hpj
   have hpw := List.Pairwise.sublist hL hpair
   rw [List.pairwise_append] at hpw
   obtain ⟨hpw1, hpw2, hpw3⟩ := hpw
   rw [List.pairwise_cons] at hpw2
   have hnd : ∀ p ∈ L1 ++ L2, p.1 ≠ pj.1 := by
    intro p hp e
    have key : ∀ {a b : Nat × GI}, pairOk ops ids a b = true → a ∈ G → b ∈ G → a.1 ≠ b.1 := by
     intro a b hab ha hb e
     obtain ⟨o, h1, h2⟩ := (hG a ha).is
     obtain ⟨o', h3, h4⟩ := (hG b hb).is
     rw [e, h3] at h1
     injection h1 with h1
     subst h1
     rw [h4] at h2
     injection h2 with h2
     injection h2 with h2
     injection h2 with h2
     simp only [pairOk, Bool.and_eq_true, Bool.not_eq_true', beq_eq_false_iff_ne] at hab
     exact hab.1.1.1.1 h2.symm
    rcases List.mem_append.1 hp with hp | hp
    ·exact key (hpw3 p hp pj (by simp)) (hsub p (by simp [hp])) (hsub pj (by simp)) e
    ·exact key (hpw2.1 p hp) (hsub pj (by simp)) (hsub p (by simp [hp])) e.symm
   have hind : ∀ p ∈ L1, Indep p.2 pj.2 := by
    intro p hp
    refine pair_indep hl (hpw3 p hp pj (by simp)) hj ?_
    obtain ⟨o, ho, _⟩ := (hG p (hsub p (by simp [hp]))).is
    rw [hl.at_ _ (Array.getElem?_eq_some_iff.1 ho).1, Bool.and_eq_false_iff, Bool.not_eq_false', inL_iff]
    exact .inr (List.mem_map.2 ⟨p, by simp [hp], rfl⟩)
   rw [List.map_append, List.map_cons] at hk
   have hk2 := vcG_front hK (fun i hi => by obtain ⟨p, hp, rfl⟩ := List.mem_map.1 hi; exact hind p hp) hk
   obtain ⟨E, h1, h2⟩ := hk2
   rw [← List.map_append] at h2
   have hg := hG pj (hsub pj (by simp))
   have h3 := effP_ext (norm_ext σ pj.2.U pj.2.R) hg.uses h1
   obtain ⟨o, ho, hinst⟩ := hg.is
   have hrow : ∀ r row, E.nr = some (r, row) → r = pj.2.own ∧ makesRow pj.2.op = true := fun r row hr => eff_own h3 hr
   have hno : ∀ r row, E.nr = some (r, row) → NoRef r σ := fun r row hr => by
    obtain ⟨rfl, hm⟩ := hrow r row hr
    exact hn pj (by simp) hm
   have hnew : ∀ p ∈ L1 ++ L2, makesRow p.2.op = true → NoRef p.2.own (σ.add pj.2.d (pj.2.out N) E) := by
    intro p hp hm
    have hpG : p ∈ L1 ++ pj :: L2 := by
     rcases List.mem_append.1 hp with hp | hp
     ·simp [hp]
     ·simp [hp]
    have hN := (hG p (hsub p hpG)).row hm
    have hff : pj.2.own ≠ p.2.own ∧ p.2.own ∉ pj.2.R := by
     rcases List.mem_append.1 hp with hp | hp
     ·exact ⟨Ne.symm (hind p hp).own, (hind p hp).r'⟩
     ·have := hpw2.1 p hp
      simp only [pairOk, Bool.and_eq_true, Bool.not_eq_true', beq_eq_false_iff_ne] at this
      exact ⟨this.1.1.1.2, inL_no.1 this.1.2⟩
    refine (hn p hpG hm).add ?_ fun r row hr => ?_
    ·simp only [GI.out, Bool.and_eq_true, Bool.not_eq_true', beq_eq_false_iff_ne]
     exact ⟨hN, inL_no.2 hff.2, hff.1⟩
    ·rw [(hrow r row hr).1]; exact hff.1
   have hleft : Left ops ids ((L1 ++ L2).map (·.1)) (listed.setIfInBounds pj.1 true) := by
    refine ⟨by simp [hl.size], fun i hi => ?_, fun k ok hok hk e he hb => ?_⟩
    rotate_left
    ·by_cases hkj : k = pj.1
     ·subst hkj
      obtain ⟨_, o', ho', hall⟩ := mem_ready.1 hj
      rw [hok] at ho'
      injection ho' with ho'
      subst ho'
      exact getD_set_true (hall e he hb)
     ·rw [getD_set_ne false (Ne.symm hkj)] at hk
      exact getD_set_true (hl.down k ok hok hk e he hb)
    by_cases hij : pj.1 = i
    ·subst hij
     have e1 : (listed.setIfInBounds pj.1 true).getD pj.1 false = true := by
      simp [Array.getD_eq_getD_getElem?, hl.size, hi]
     rw [e1]
     symm
     rw [Bool.and_eq_true, inL_iff, Bool.not_eq_true', inL_no]
     refine ⟨hidL _ (List.mem_map.2 ⟨pj, by simp, rfl⟩), fun hm => ?_⟩
     obtain ⟨p, hp, e⟩ := List.mem_map.1 hm
     exact hnd p hp e
    ·rw [getD_set_ne false hij, hl.at_ i hi]
     congr 1
     congr 1
     rw [Bool.eq_iff_iff, inL_iff, inL_iff]
     simp only [List.map_append, List.map_cons, List.mem_append, List.mem_cons]
     constructor
     ·rintro (h | h | h)
      ·exact .inl h
      ·exact absurd h.symm hij
      ·exact .inr h
     ·rintro (h | h)
      ·exact .inl h
      ·exact .inr (.inr h)
   have hLs : (L1 ++ L2).Sublist G := by
    refine List.Sublist.trans ?_ hL
    exact List.Sublist.append (List.Sublist.refl _) (List.sublist_cons_self _ _)
   have hlen : (L1 ++ L2).length = m := by
    simp only [List.length_append, List.length_cons] at hm ⊢
    omega
   have step : ∀ a' w', (Agr x.w w' ∧ Behind P e [] (fun σ' => ∀ e y a, SRel e σ' y a → SRel e (σ.app pj.2.d E) y a) a' w') → (calm pj.1 = true → Agr x.w w') ∧ wpAnyK P ops Q calm (m + rest) (listed.setIfInBounds pj.1 true) a' w' := by
    rintro a' w' ⟨g1, σ', y, g2, rfl, g3⟩
    exact ⟨fun _ => g1, ih _ _ _ y a' hlen hLs hleft ((g3 e y a' g2).add hno) h2 hnew⟩
   have hv := inst_calm (Q := Q) hinst (eff_kind h3) h (eff_vc h3)
   unfold wpOp
   simp only [ho]
   split
   ·rename_i hw
    rw [if_pos hw] at hv
    exact .inl (Oper.wp_mono step hv)
   ·rename_i hw
    rw [if_neg hw] at hv
    exact step _ _ hv
end
end Go.Vc

namespace Go.Vc
open Go.RowKit
def stepU (P : Program) (i : GI) (A : St) (k : Eff → Prop) : Prop := match i.g, i.op with
 | none, .q q => q.pre A ∧ k ⟨q.val A, none⟩
 | some (t, b), .q q => (frGet A.fr t).gok ∧ ((frGet A.fr t).gv b = true → q.pre A) ∧ k ⟨.whn ((frGet A.fr t).gv b) (q.val A), none⟩
 | none, .alloc z => k ⟨.ptr i.d 0, some (i.d, .box (AV.clips (only i.d) z))⟩
 | none, .box x => x.cd A = true ∧ okc (x.sv A) = true ∧ k ⟨.ptr i.d 0, some (i.d, .box (AV.clips (only i.d) (x.sv A).cells))⟩
 | none, .lits xs s => (cds A xs = true ∧ allOk (evs A xs) = true ∧ allW s (evs A xs) ∧ xs.length * s ≤ 16777216) ∧ k ⟨mkLit (evs A xs), none⟩
 | none, .mks l c s bytes z => (l.cd A = true ∧ c.cd A = true ∧ isInt (l.sv A) ∧ isInt (c.sv A) ∧ 0 ≤ intV (l.sv A) ∧ intV (l.sv A) ≤ intV (c.sv A) ∧ (bytes : Int) * intV (c.sv A) ≤ 281474976710656 ∧ intV (c.sv A) ≤ 9223372036854775807) ∧ k ⟨.row i.d 0 (intV (l.sv A)).toNat, some (i.d, .sl s (List.replicate (intV (l.sv A)).toNat z))⟩
 | none, .call f args => (f.cd A = true ∧ cds A args = true) ∧ match callArgs A f args with
  | some (g, ps, pure) => CallVC P g ps pure (fun v rs => k (effAfter i.d v rs))
  | none => False
 | some (t, b), .call f args => (frGet A.fr t).gok ∧ ((frGet A.fr t).gv b = true → f.cd A = true ∧ cds A args = true) ∧ match callArgs A f args with
  | some (h, ps, pure) => CallGd P ((frGet A.fr t).gv b) h ps pure (fun p => k ⟨.whn ((frGet A.fr t).gv b) (.pv p), none⟩)
  | none => False
 | _, _ => False
def vcU (P : Program) (N : List Nat) : List GI → St → (St → Prop) → Prop
 | [], σ, K => K σ
 | i :: L, σ, K => stepU P i (σ.norm i.U i.R) (fun E => vcU P N L (σ.add i.d (i.out N) E) K)
theorem stepU_eff {P : Program} {i : GI} {A : St} {k : Eff → Prop} (h : stepU P i A k) : ∃ E, effP P A i.d i.g i.op E ∧ k E := by
 obtain ⟨d, g, op, U, R⟩ := i
 unfold stepU at h
 simp only at h ⊢
 split at h
 ·exact ⟨_, ⟨h.1, rfl⟩, h.2⟩
 ·exact ⟨_, ⟨h.1, _, fun hb => ⟨h.2.1 hb, rfl⟩, rfl⟩, h.2.2⟩
 ·exact ⟨_, rfl, h⟩
 ·exact ⟨_, ⟨h.1, h.2.1, rfl⟩, h.2.2⟩
 ·exact ⟨_, ⟨h.1, rfl⟩, h.2⟩
 ·exact ⟨_, ⟨h.1, rfl⟩, h.2⟩
 ·obtain ⟨h1, h2⟩ := h
  split at h2
  ·rename_i gg ps pure hca
   obtain ⟨v, rs, h3, h4, h5, h6⟩ := h2
   exact ⟨_, ⟨h1, gg, ps, pure, v, rs, hca, h3, h4, h5, rfl⟩, h6⟩
  ·exact h2.elim
 ·obtain ⟨h0, h1, h2⟩ := h
  split at h2
  ·rename_i gg ps pure hca
   obtain ⟨p, h3, h4⟩ := h2
   exact ⟨_, ⟨h0, h1, gg, ps, pure, p, hca, h3, rfl⟩, h4⟩
  ·exact h2.elim
 ·exact h.elim
theorem vcU_vcG {P : Program} {N : List Nat} {K : St → Prop} : ∀ {L : List GI} {σ : St}, vcU P N L σ K → vcG P N L σ K
 | [], _, h => h
 | i :: L, σ, h => by
  obtain ⟨E, h1, h2⟩ := stepU_eff h
  exact ⟨E, h1, vcU_vcG h2⟩
structure RG where
 N : List Nat
 ops : List (Nat × List Nat × List Nat)
 keep : List Nat
 rows : List Nat
 deriving Inhabited
structure RD where
 keep : List Nat
 rows : List Nat
 steps : List (Nat × Nat)
 calm : Nat
 virt : List (Nat × Nat × Nat)
 grp : Option RG
 deriving Inhabited
def rdOf : List (Nat × RD) → Nat → RD
 | [], _ => default
 | (k, d) :: r, id => if k == id then d else rdOf r id
def ofCode (P : Program) (owns : List Nat) (n : Nat) (rd : List (Nat × RD)) : Code → Option MC
 | .skip => some .skip
 | .region id ops false => match instsOf P owns n ops ops.toList with
  | some is => some (.reg is (rdOf rd id).virt (rdOf rd id).keep (rdOf rd id).rows)
  | none => some .bad
 | .region id ops true => match (rdOf rd id).grp with
  | none => if Region.noSelect ops && (rdOf rd id).steps.length == ops.size then match plan P owns n ops (rdOf rd id).calm (rdOf rd id).steps (Array.replicate ops.size false) with
    | some is => some (.reg is (rdOf rd id).virt (rdOf rd id).keep (rdOf rd id).rows)
    | none => none
   else none
  | some G => if Region.noSelect ops && (rdOf rd id).steps.length + G.ops.length == ops.size then
    match groupOf P owns n ops G.N G.ops, plan P owns n ops (rdOf rd id).calm (rdOf rd id).steps (marks ops.size (G.ops.map (·.1))) with
    | some l, some is => some (.seq (.grp G.N (l.map (·.2)) G.keep G.rows) (.reg is (rdOf rd id).virt (rdOf rd id).keep (rdOf rd id).rows))
    | _, _ => none
   else none
 | .seq a b => match ofCode P owns n rd a, ofCode P owns n rd b with
  | some a, some b => some (.seq a b)
  | _, _ => none
 | .cond c a b => match Opd.of c, ofCode P owns n rd a, ofCode P owns n rd b with
  | some c, some a, some b => some (.cond c a b)
  | _, _, _ => none
 | .block id b => match ofCode P owns n rd b with
  | some b => some (.block id b)
  | none => none
 | .loop b => match ofCode P owns n rd b with
  | some b => some (.loop b)
  | none => none
 | .exit id => some (.exit id)
 | .ret => some .ret
 | _ => none
def thenK (next : St → Prop) (K : Exit → St → Prop) : Exit → St → Prop
 | .normal, σ => next σ
 | ex, σ => K ex σ
def blockK (id : Nat) (K : Exit → St → Prop) : Exit → St → Prop
 | .exit i, σ => if i = id then K .normal σ else K (.exit i) σ
 | ex, σ => K ex σ
def Weak (σ σ' : St) : Prop := ∀ (e : Env) (x : Cx) (a : Act), SRel e σ x a → ∃ y : Cx, y.w = x.w ∧ SRel e σ' y a
theorem Weak.refl (σ : St) : Weak σ σ := fun _ x _ h => ⟨x, rfl, h⟩
theorem Weak.trans {σ σ' σ'' : St} (h : Weak σ σ') (h2 : Weak σ' σ'') : Weak σ σ'' := fun e x a hs =>
 let ⟨y, h3, h4⟩ := h e x a hs
 let ⟨z, h5, h6⟩ := h2 e y a h4
 ⟨z, h5.trans h3, h6⟩
theorem Weak.norm (σ : St) (keep rows : List Nat) : Weak σ (σ.norm keep rows) := fun e x _ h => ⟨⟨x.w, fun b => e.F0 b ∨ Own (σ.norm keep rows).st x.ρ b, x.ρ⟩, rfl, h.norm keep rows⟩
def MC.vc (P : Program) : MC → (Exit → St → Prop) → St → Prop
 | .skip, K, σ => K .normal σ
 | .bad, _, _ => False
 | .reg l vs keep rows, K, σ => vcOps P l σ (fun σ' => K .normal ((σ'.virts vs).norm keep rows))
 | .grp N l keep rows, K, σ => vcU P N l (σ.strip N) (fun σ' => K .normal (σ'.norm keep rows))
 | .seq a b, K, σ => a.vc P (thenK (b.vc P K) K) σ
 | .cond c a b, K, σ => ∃ t, c.ev σ = vbool t ∧ (t = true → a.vc P K σ) ∧ (t = false → b.vc P K σ)
 | .block id b, K, σ => b.vc P (blockK id K) σ
 | .loop b, K, σ => ∃ (T : Type) (I : T → St) (W : St → T → Prop) (G : T → Prop) (μ : T → Nat) (t₀ : T), (∀ σ t, W σ t → Weak σ (I t)) ∧ W σ t₀ ∧ G t₀ ∧ ∀ t, G t → b.vc P (thenK (fun σ' => ∃ t', W σ' t' ∧ G t' ∧ μ t' < μ t) K) (I t)
 | .exit id, K, σ => K (.exit id) σ
 | .ret, K, σ => K .ret σ
def Qof (e : Env) (K : Exit → St → Prop) : Exit → Act → World → Prop
 | .normal, a, w => ∃ σ y, SRel e σ y a ∧ y.w = w ∧ K .normal σ
 | .exit id, a, w => ∃ σ y, SRel e σ y a ∧ y.w = w ∧ K (.exit id) σ
 | .ret, a, w => ∃ σ y, SRel e σ y a ∧ y.w = w ∧ K .ret σ
 | _, _, _ => False
theorem MC.sound {P : Program} {e : Env} [EP e P] {owns : List Nat} {rd : List (Nat × RD)} (hm : P.follows .mixedOrders = true) : ∀ (c : Code) (m : MC), ofCode P owns e.n rd c = some m → ∀ (K : Exit → St → Prop) (σ : St) (x : Cx) (a : Act),
  SRel e σ x a → m.vc P K σ → c.wp P (Qof e K) a x.w
 | .skip, m, hc, K, σ, x, a, h, hk => by
  simp only [ofCode, Option.some.injEq] at hc; subst hc
  exact wp_skip ⟨σ, x, h, rfl, hk⟩
 | .region id ops false, m, hc, K, σ, x, a, h, hk => by
  simp only [ofCode] at hc
  split at hc
  ·rename_i is his
   injection hc with hc; subst hc
   simp only [MC.vc] at hk
   exact wp_region_list (list_sound (fun a' w' σ' y g1 g2 g3 => let ⟨z, k1, k2⟩ := g1.virts (rdOf rd id).virt; ⟨_, _, k2.norm _ _, k1.trans g2, g3⟩) _ is σ x a his h hk)
  ·injection hc with hc; subst hc
   simp only [MC.vc] at hk
 | .region id ops true, m, hc, K, σ, x, a, h, hk => by
  simp only [ofCode] at hc
  split at hc
  ·split at hc
   ·rename_i hg
    simp only [Bool.and_eq_true, beq_iff_eq] at hg
    split at hc
    ·rename_i is his
     injection hc with hc; subst hc
     simp only [MC.vc] at hk
     have h' := h.ext (w' := { x.w with drawn := x.w.drawn + 1 }) ⟨rfl, rfl, rfl, Nat.le_refl _, fun _ _ => rfl, Nat.le_succ _⟩
     refine wp_region_any hm (wpAny_of_K _ _ _ _ (calm := ((rdOf rd id).calm).testBit) ?_)
     have := wpAnyK_of_S _ _ _ _ (plan_sound (Q := Qof e K) (K := fun σ' => K .normal ((σ'.virts (rdOf rd id).virt).norm (rdOf rd id).keep (rdOf rd id).rows)) hg.1 (fun c a w hq => hq) _ is _ e inferInstance (fun _ => True) σ _ a (fun a' w' σ' y g1 g2 g3 => let ⟨z, k1, k2⟩ := g1.virts (rdOf rd id).virt; ⟨_, _, k2.norm _ _, k1.trans g2, g3⟩) (fun _ _ _ _ => trivial) his h' hk)
     rw [hg.2] at this
     exact this
    ·cases hc
   ·cases hc
  ·rename_i G hG
   split at hc
   ·rename_i hg
    simp only [Bool.and_eq_true, beq_iff_eq] at hg
    split at hc
    ·rename_i l is hl his
     injection hc with hc; subst hc
     simp only [MC.vc, thenK] at hk
     have h' := h.ext (w' := { x.w with drawn := x.w.drawn + 1 }) ⟨rfl, rfl, rfl, Nat.le_refl _, fun _ _ => rfl, Nat.le_succ _⟩
     refine wp_region_any hm (wpAny_of_K _ _ _ _ (calm := ((rdOf rd id).calm).testBit) ?_)
     unfold groupOf at hl
     split at hl
     ·rename_i G0 hG0
      split at hl
      ·rename_i hck
       injection hl with hl; subst hl
       simp only [Bool.and_eq_true] at hck
       obtain ⟨hids, hok⟩ := gisOf_ok hG0
       obtain ⟨y, hyw, hs⟩ := h'.strip G.N
       have hlen : ops.size = G0.length + (rdOf rd id).steps.length := by
        have := congrArg List.length hids
        simp only [List.length_map] at this
        rw [this]
        have := hg.2
        omega
       rw [hlen]
       have := grp_sound (P := P) (owns := owns) (ops := ops) (N := G.N) (e := e) (Q := Qof e K) (calm := ((rdOf rd id).calm).testBit) (ids := G.ops.map (·.1)) (rest := (rdOf rd id).steps.length)
        (K := fun σ' => vcOps P is (σ'.norm G.keep G.rows) (fun σ'' => K .normal ((σ''.virts (rdOf rd id).virt).norm (rdOf rd id).keep (rdOf rd id).rows)))
        hids hok hck.1.1 hck.1.2 (pairsOk_pw hck.2) (fun σ1 τ1 hst hk1 => by rw [← hst.norm]; exact hk1)
        (fun σ1 x1 a1 hs1 hk1 => wpAnyK_of_S _ _ _ _ (plan_sound (Q := Qof e K) (K := fun σ' => K .normal ((σ'.virts (rdOf rd id).virt).norm (rdOf rd id).keep (rdOf rd id).rows)) hg.1 (fun c a w hq => hq)
         _ is _ e inferInstance (fun _ => True) (σ1.norm G.keep G.rows) ⟨x1.w, fun b => e.F0 b ∨ Own (σ1.norm G.keep G.rows).st x1.ρ b, x1.ρ⟩ a1 (fun a' w' σ' y g1 g2 g3 => let ⟨z, k1, k2⟩ := g1.virts (rdOf rd id).virt; ⟨_, _, k2.norm _ _, k1.trans g2, g3⟩) (fun _ _ _ _ => trivial) his (hs1.norm G.keep G.rows) hk1))
        G0.length G0 (Array.replicate ops.size false) (σ.strip G.N) y a rfl (List.Sublist.refl _)
        ⟨by simp, fun i hi => by
         have : (Array.replicate ops.size false).getD i false = false := by simp [Array.getD_eq_getD_getElem?, hi]
         rw [this, hids]
         cases inL (G.ops.map (·.1)) i <;> rfl, fun k o _ hk => by
         have : (Array.replicate ops.size false).getD k false = false := by
          simp only [Array.getD_eq_getD_getElem?, Array.getElem?_replicate]
          split <;> rfl
         rw [this] at hk; cases hk⟩ hs (vcU_vcG hk) (fun p hp hm => strip_noref ((hok p hp).row hm))
       rw [hyw] at this
       rw [← hlen] at this ⊢
       exact this
      ·cases hl
     ·cases hl
    ·cases hc
   ·cases hc
 | .seq c d, m, hc, K, σ, x, a, h, hk => by
  simp only [ofCode] at hc
  split at hc
  ·rename_i m1 m2 h1 h2
   injection hc with hc; subst hc
   simp only [MC.vc] at hk
   refine wp_seq (wp_mono (MC.sound hm c m1 h1 _ σ x a h hk) fun ex a' w' hq => ?_)
   cases ex with
   | normal =>
    obtain ⟨σ', y, g1, g2, g3⟩ := hq
    rw [← g2]
    exact MC.sound hm d m2 h2 K σ' y a' g1 g3
   | _ => exact hq
  ·cases hc
 | .cond q c d, m, hc, K, σ, x, a, h, hk => by
  simp only [ofCode] at hc
  split at hc
  ·rename_i z m1 m2 hz h1 h2
   injection hc with hc; subst hc
   simp only [MC.vc] at hk
   obtain ⟨t, k1, k2, k3⟩ := hk
   have hv := Opd.of_ev h hz
   rw [k1] at hv
   have hv' : a.eval q = .bool t := by simpa only [vbool, VRel, PRel] using hv
   exact wp_cond_split hv' (fun ht => MC.sound hm c m1 h1 K σ x a h (k2 ht)) (fun ht => MC.sound hm d m2 h2 K σ x a h (k3 ht))
  ·cases hc
 | .block id c, m, hc, K, σ, x, a, h, hk => by
  simp only [ofCode] at hc
  split at hc
  ·rename_i m1 h1
   injection hc with hc; subst hc
   simp only [MC.vc] at hk
   refine wp_block (wp_mono (MC.sound hm c m1 h1 _ σ x a h hk) fun ex a' w' hq => ?_)
   cases ex with
   | exit i =>
    obtain ⟨σ', y, g1, g2, g3⟩ := hq
    simp only [blockK] at g3
    simp only [Exit.inBlock]
    split
    ·rename_i hi; rw [if_pos hi] at g3; exact ⟨σ', y, g1, g2, g3⟩
    ·rename_i hi; rw [if_neg hi] at g3; exact ⟨σ', y, g1, g2, g3⟩
   | _ => exact hq
  ·cases hc
 | .loop c, m, hc, K, σ, x, a, h, hk => by
  simp only [ofCode] at hc
  split at hc
  ·rename_i m1 h1
   injection hc with hc; subst hc
   simp only [MC.vc] at hk
   obtain ⟨T, I, W, G, μ, t₀, k0, k1, k2, k3⟩ := hk
   obtain ⟨y0, hy0, hs0⟩ := k0 _ _ k1 e x a h
   have rounds : ∀ (n : Nat) (t : T), μ t < n → G t → ∀ (y : Cx) (a' : Act), SRel e (I t) y a' → Code.rounds P c (Qof e K) n a' y.w := by
    intro n
    induction n with
    | zero => intro t hlt; omega
    | succ n ih =>
     intro t hlt hg y a' hs
     rw [rounds_succ]
     refine wp_mono (MC.sound hm c m1 h1 _ (I t) y a' hs (k3 t hg)) fun ex a'' w'' hq => ?_
     cases ex with
     | normal =>
      obtain ⟨σ', z, g1, g2, t', g3, g4, g5⟩ := hq
      obtain ⟨z2, hz2, hs2⟩ := k0 _ _ g3 e z a'' g1
      rw [← g2, ← hz2]
      exact ih t' (by omega) g4 z2 a'' hs2
     | _ => exact hq
   rw [← hy0]
   exact wp_loop_rounds (μ t₀ + 1) (rounds _ t₀ (by omega) k2 y0 a hs0)
  ·cases hc
 | .exit id, m, hc, K, σ, x, a, h, hk => by
  simp only [ofCode, Option.some.injEq] at hc; subst hc
  exact wp_exit ⟨σ, x, h, rfl, hk⟩
 | .ret, m, hc, K, σ, x, a, h, hk => by
  simp only [ofCode, Option.some.injEq] at hc; subst hc
  exact wp_ret ⟨σ, x, h, rfl, hk⟩
 | .rangeFunc _ _ _ _, _, hc, _, _, _, _, _, _ | .scope _, _, hc, _, _, _, _, _, _ | .label _, _, hc, _, _, _, _, _, _ | .goto _, _, hc, _, _, _, _, _, _ | .refuse _, _, hc, _, _, _, _, _, _ => by
  simp [ofCode] at hc
end Go.Vc
