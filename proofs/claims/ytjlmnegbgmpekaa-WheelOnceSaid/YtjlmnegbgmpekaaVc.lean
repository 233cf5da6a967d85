/- A part of the proofs of the seat Ytjlmnegbgmpekaa: the layer that turns the code of a function into what is to be shown (verification conditions), proved sound. -/
import Derived.Test.YtjlmnegbgmpekaaVb
namespace Go.Vc
open Go.RowKit
section
variable {P : Program} {e : Env} {σ : St} {x : Cx} {a : Act} {o : Oper}

theorem layC_cells {w : World} {b o' : Nat} {L olds news : List Value} {t : TypeId} (h : w.heap[b]? = some (.cells ⟨L⟩ t (0, 0))) (hold : CellsAt w b o' olds) (hl : o' + olds.length + news.length ≤ L.length) :
    CellsAt (setBlk w b (layC L (o' + olds.length) news) t) b o' (olds ++ news) := fun j c hj => by
  simp only [World.cell?, setBlk_at h, Option.isSome_none, Bool.false_eq_true, if_false]
  have e1 : (⟨layC L (o' + olds.length) news⟩ : Array Value)[o' + j]? = (layC L (o' + olds.length) news)[o' + j]? := by simp
  rw [e1, layC_get news L (o' + olds.length) (o' + j) hl]
  by_cases h1 : j < olds.length
  · rw [List.getElem?_append_left h1] at hj
    rw [if_neg (by omega)]
    have := hold j c hj
    simpa [World.cell?, h] using this
  · rw [List.getElem?_append_right (by omega)] at hj
    have := (List.getElem?_eq_some_iff.1 hj).1
    rw [if_pos ⟨by omega, by omega⟩, ← hj]
    congr 1; omega


/-- 'append(base, src...)', the base an own row, or nothing yet -/
theorem l_app (h : SRel e σ x a) (d : Nat) (hd : d < e.n) (hdst : o.dst = some d) {t t2 et et2 : TypeId} {yb ys : Operand} (ho : o.op = .call { callee := .builtin .append, args := #[yb, ys], argTypes := #[t, t2] })
    {i : TypeInfo} {zv : Value} (ht : P.underlying t = some (.slice et)) (ht2 : P.underlying t2 = some (.slice et2)) (hi : P.info? et = some i) (hz : i.zero = some zv) (hzs : zv.cells.size = i.size) (hzo : ∀ c ∈ zv.cells.toList, c.oneCell' = true)
    {r off n : Nat} {vb vs : AV} {olds : List PV} (hb : VRel x vb (a.eval yb)) (hs : VRel x vs (a.eval ys)) {ps : List PV} (hp : srcP σ vs = some ps) (hw : WfL i.size ps)
    (hrow : ∀ r off m, vs = .row r off m → ∃ xs, stGet σ.st r = some (.sl i.size xs))
    (hbase : (vb = .e0 ∧ n = 0 ∧ olds = []) ∨ (vb = .row r off n ∧ ∃ xs, stGet σ.st r = some (.sl i.size xs) ∧ olds = (xs.drop off).take n))
    (hbytes : (n + ps.length) * i.bytes ≤ 140737488355328) (h63 : n + ps.length ≤ 9223372036854775807) (hrr : r < 200000)
    {K : St → Prop} (hK : K ((σ.newRow r (.sl i.size (olds ++ ps))).put d (.row r 0 (n + ps.length)))) : ∀ Q, o.wp P a x.w (fun a' w' => ∃ σ' y, SRel e σ' y a' ∧ y.w = w' ∧ K σ') Q := by
  intro Q
  obtain ⟨news, hsrc, hpr⟩ := src_of h hs hp hw hrow
  have hexec : ∀ {w' : World} {v : Value}, (Builtin.append_ #[t, t2] o.type #[a.eval yb, a.eval ys]).run P x.w = .ok v w' → (execOp a.eval o).run P x.w = .ok (.value v) w' := fun hr => by
    simp [execOp, ho, resolve, invoke, builtin, hr]
  -- nothing was there: (nil, or no room)
  have none_ : ∀ (ad : Option Addr), a.eval yb = .slice ad 0 0 → n = 0 → olds = [] → o.wp P a x.w (fun a' w' => ∃ σ' y, SRel e σ' y a' ∧ y.w = w' ∧ K σ') Q := by
    intro ad he hn0 ho0
    subst hn0; subst ho0
    rw [he] at hexec
    simp only [Nat.zero_add, List.nil_append] at hK hbytes h63
    rcases Nat.eq_zero_or_pos ps.length with h0 | h0
    · have : ps = [] := List.eq_nil_of_length_eq_zero h0
      subst this
      have hn : news = [] := List.eq_nil_of_length_eq_zero (by have := hsrc.size; simpa using this)
      subst hn
      have hr := run_app_none (P := P) (ty := o.type) ht ht2 hi (ba := ad) (c := 0) hsrc
      refine wp_value (hexec hr) ?_
      rw [hdst]
      exact app_empty h hd hrr hK
    · have hold : Src P x.w i.size (.slice ad 0 0) 0 [] := Src.slice (by simp) (fun h => absurd h (by omega))
      have hr := run_app_grow (P := P) (ty := o.type) ht ht2 hi hz hold hsrc (by omega) (by omega) (by simpa using hbytes)
      simp only [Nat.zero_add, List.nil_append] at hr
      refine wp_value (hexec hr) ?_
      rw [hdst]
      have hge := grownCap_ge x.w ps.length 0 et
      have htk : (news ++ (Builtin.zeroCells zv.cells (grownCap x.w ps.length 0 et - ps.length)).toList).take (ps.length * i.size) = news := by rw [← hsrc.size]; exact List.take_left
      refine app_fresh h hd hw (by rw [htk]; exact hpr) ?_ (fun c hc => (List.mem_append.1 hc).elim (hpr.ones (flat_one hw) c) (zero_ones _ hzo c)) hge rfl hrr hK
      have hzc := size_zeroCells zv.cells (grownCap x.w ps.length 0 et - ps.length)
      simp only [List.length_append, Array.length_toList, hzc, hzs, hsrc.size, ← Nat.add_mul]
      congr 1; omega
  rcases hbase with ⟨rfl, hn0, ho0⟩ | ⟨rfl, xs, hr, rfl⟩
  · simp only [VRel] at hb
    obtain ⟨ad, he⟩ := hb
    exact none_ ad he hn0 ho0
  · have hm := stGet_mem hr
    have hrel := h.st r _ hm
    simp only [Row.rel] at hrel
    simp only [VRel] at hb
    rcases hb with ⟨hn0, _, ad, he⟩ | ⟨c, hok, he, hnc, hcap, hlen⟩
    · exact none_ ad he hn0 (by rw [hn0]; simp)
    · rcases hrel with ⟨h1, _⟩ | ⟨hls, _, ⟨hln, hxc⟩, hwf, ⟨arr, tb, hh, harr, hao⟩, hE⟩
      · rw [h1] at hok; cases hok
      rw [hln] at hlen
      obtain ⟨olds, ho1, ho2, ho3⟩ := row_cells hwf hE hlen
      have hxl : ((xs.drop off).take n).length = n := by rw [List.length_take, List.length_drop]; omega
      have hwo := (hwf.drop (n := off)).take (n := n)
      rw [he] at hexec
      rw [hls] at hexec harr
      have hold : Src P x.w i.size (.slice (some ⟨(x.ρ r).blk, (x.ρ r).base + off * i.size, none⟩) n c) n olds := Src.slice ho3 (fun _ => ⟨_, _, rfl, ho2⟩)
      have hpr2 := ho1.append hpr
      rw [← flat_append] at hpr2
      have hsum : olds.length + news.length = (n + ps.length) * i.size := by rw [ho3, hsrc.size, Nat.add_mul]
      by_cases hroom : n + ps.length ≤ c
      · -- there was room
        obtain ⟨L⟩ := arr
        have harr' : (x.ρ r).base + (x.ρ r).cap * i.size ≤ L.length := by simpa using harr
        have hmul : (off + c) * i.size ≤ (x.ρ r).cap * i.size := Nat.mul_le_mul_right _ (Nat.le_of_eq hcap)
        have hmul2 : (n + ps.length) * i.size ≤ c * i.size := Nat.mul_le_mul_right _ hroom
        rw [Nat.add_mul] at hmul
        have hfit : (x.ρ r).base + off * i.size + n * i.size + news.length ≤ L.length := by omega
        have hrun := run_app_room (P := P) (ty := o.type) (c := c) ht ht2 hi hh hsrc (hpr.ones (flat_one hw)) hroom hfit
        refine wp_value (hexec hrun) ?_
        rw [hdst]
        have hsz := setBlk_size x.w (x.ρ r).blk (layC L ((x.ρ r).base + off * i.size + n * i.size) news) tb
        let w' := setBlk x.w (x.ρ r).blk (layC L ((x.ρ r).base + off * i.size + n * i.size) news) tb
        let l : Loc := ⟨(x.ρ r).blk, (x.ρ r).base + off * i.size, c, i.size, true, n + ps.length⟩
        let row' : Row := .sl i.size ((xs.drop off).take n ++ ps)
        let y : Cx := newCx e σ x w' r row' l
        have e1 : y.ρ r = l := by simp [y, newCx, updρ]
        have hρ : ∀ q, only r q = false → y.ρ q = x.ρ q := newCx_ρ r row' l
        have hFy : ∀ b, y.F b → x.F b := fun b hy => by
          rcases hy with h0 | ⟨q, rw', hq, hqo, hqb⟩
          · exact (h.F b).2 (.inl h0)
          · rcases List.mem_cons.1 hq with hq | hq
            · injection hq with h1 _
              subst h1
              simp only [updρ, if_true, l] at hqb
              exact (h.F b).2 (.inr ⟨q, _, hm, hok, hqb⟩)
            · obtain ⟨u, h1, _⟩ := stClip_mem hq
              obtain ⟨h3, h4⟩ := stDel_mem h1
              simp only [updρ, if_neg h4] at hqo hqb
              exact (h.F b).2 (.inr ⟨q, u, h3, hqo, hqb⟩)
        have kept : Kept x y := ⟨Nat.le_of_eq hsz.symm, fun b hb _ => setBlk_far fun hbe => hb ((h.F b).2 (.inr ⟨r, _, hm, hok, hbe.symm⟩)), fun b _ hy => hFy b hy⟩
        have hrow' : row'.rel y l := by
          refine .inr ⟨rfl, rfl, ⟨by simp only [l, List.length_append, hxl], by simp only [l, List.length_append, hxl]; exact hroom⟩, hwo.append hw, ⟨_, tb, setBlk_at hh, by simp only [l]; simp [layC_length]; omega, layC_ones _ _ _ hao (hpr.ones (flat_one hw))⟩, ?_⟩
          rw [PElems.flat_iff]
          have h5 := layC_cells (news := news) hh ho2 (by rw [ho3]; exact hfit)
          rw [ho3] at h5
          exact PCells.of (PRels.kept kept _ hpr2) h5
        have h6 := SRel.turn (y := y) h r row' (only r) (Nat.le_of_eq hsz.symm) rfl rfl rfl (Nat.le_refl _) (fun b _ hb => setBlk_far (hb _ hm hok)) hρ (fun q hq => by simpa [only] using hq) (fun q hq => hρ q (by simp [only, hq]))
          (fun _ => .inr ⟨⟨_, hm⟩, hok, by rw [e1]⟩) (fun b => Iff.rfl) (by rw [e1]; exact hrow') (.inl hrr)
        refine ⟨_, y, h6.put hd (v := .row r 0 (n + ps.length)) ?_, rfl, hK⟩
        simp only [VRel]
        exact .inr ⟨c, by rw [e1], by rw [e1]; simp [l], hroom, by rw [e1]; simp [l], by rw [e1]; simp [l]⟩
      · -- a new array
        have hr3 := run_app_grow (P := P) (ty := o.type) ht ht2 hi hz hold hsrc (by omega) h63 hbytes
        refine wp_value (hexec hr3) ?_
        rw [hdst]
        have hge := grownCap_ge x.w (n + ps.length) c et
        have htk : (olds ++ news ++ (Builtin.zeroCells zv.cells (grownCap x.w (n + ps.length) c et - (n + ps.length))).toList).take (((xs.drop off).take n ++ ps).length * i.size) = olds ++ news := by
          rw [List.length_append, hxl, ← hsum, ← List.length_append]; exact List.take_left
        refine app_fresh h hd (hwo.append hw) (by rw [htk]; exact hpr2) ?_ (fun c hc => (List.mem_append.1 hc).elim (hpr2.ones (flat_one (hwo.append hw)) c) (zero_ones _ hzo c)) (by rw [List.length_append, hxl]; exact hge) (by rw [List.length_append, hxl]) hrr hK
        have hzc := size_zeroCells zv.cells (grownCap x.w (n + ps.length) c et - (n + ps.length))
        simp only [List.length_append, Array.length_toList, hzc, hzs]
        rw [hsum, ← Nat.add_mul]
        congr 1; omega
/-- an append to what has no room: a new array, or nothing -/
theorem l_appn (h : SRel e σ x a) (d : Nat) (hd : d < e.n) (hdst : o.dst = some d) {t t2 et et2 : TypeId} {yb ys : Operand} (ho : o.op = .call { callee := .builtin .append, args := #[yb, ys], argTypes := #[t, t2] })
    {i : TypeInfo} {zv : Value} (ht : P.underlying t = some (.slice et)) (ht2 : P.underlying t2 = some (.slice et2)) (hi : P.info? et = some i) (hz : i.zero = some zv)
    {vs : AV} (hb : VRel x .e0 (a.eval yb)) (hs : VRel x vs (a.eval ys)) {ps : List PV} (hp : srcP σ vs = some ps) (hw : WfL i.size ps)
    (hrow : ∀ r off m, vs = .row r off m → ∃ xs, stGet σ.st r = some (.sl i.size xs)) (hbytes : ps.length * i.bytes ≤ 140737488355328) (h63 : ps.length ≤ 9223372036854775807)
    {K : St → Prop} (hK : K (σ.put d (.pv (.lst ps)))) : LStep P e o a x.w K := by
  intro Q
  obtain ⟨news, hsrc, hpr⟩ := src_of h hs hp hw hrow
  have hexec : ∀ {w' : World} {v : Value}, (Builtin.append_ #[t, t2] o.type #[a.eval yb, a.eval ys]).run P x.w = .ok v w' → (execOp a.eval o).run P x.w = .ok (.value v) w' := fun hr => by
    simp [execOp, ho, resolve, invoke, builtin, hr]
  simp only [VRel] at hb
  obtain ⟨ad, he⟩ := hb
  rw [he] at hexec
  rcases Nat.eq_zero_or_pos ps.length with h0 | h0
  · have : ps = [] := List.eq_nil_of_length_eq_zero h0
    subst this
    have hn : news = [] := List.eq_nil_of_length_eq_zero (by have := hsrc.size; simpa using this)
    subst hn
    have hr := run_app_none (P := P) (ty := o.type) ht ht2 hi (ba := ad) (c := 0) hsrc
    refine wp_value (hexec hr) ?_
    rw [hdst]
    refine ⟨_, x, h.put hd (v := .pv (.lst [])) ?_, rfl, hK, Agr.refl _⟩
    simp only [VRel, PRel]
    exact ⟨ad, 0, 0, rfl, rfl, Nat.le_refl _, fun hn => absurd hn (by omega)⟩
  · have hold : Src P x.w i.size (.slice ad 0 0) 0 [] := Src.slice (by simp) (fun h => absurd h (by omega))
    have hr := run_app_grow (P := P) (ty := o.type) ht ht2 hi hz hold hsrc (by omega) (by omega) (by simpa using hbytes)
    simp only [Nat.zero_add, List.nil_append] at hr
    refine wp_value (hexec hr) ?_
    rw [hdst]
    have hge := grownCap_ge x.w ps.length 0 et
    have hat := heap_alloc_new x.w.drew (.cells ⟨news ++ (Builtin.zeroCells zv.cells (grownCap x.w ps.length 0 et - ps.length)).toList⟩ et)
    have hB : Below x.w.heap.size x.w (x.w.drew.alloc (.cells ⟨news ++ (Builtin.zeroCells zv.cells (grownCap x.w ps.length 0 et - ps.length)).toList⟩ et)) :=
      ⟨rfl, rfl, rfl, by simp, fun k hk => heap_alloc_old x.w.drew _ hk, by show x.w.drawn ≤ x.w.drawn + 1; omega⟩
    have hnF : ¬ x.F x.w.heap.size := fun hF => by have := F_lt h hF; omega
    have kept : Kept x ⟨x.w.drew.alloc (.cells ⟨news ++ (Builtin.zeroCells zv.cells (grownCap x.w ps.length 0 et - ps.length)).toList⟩ et), x.F, x.ρ⟩ := ⟨hB.size, fun b _ hl => hB.block b hl, fun b _ hy => hy⟩
    refine ⟨_, _, h.value_ext hB hd (v := .pv (.lst ps)) ?_, rfl, hK, below_agr hB⟩
    simp only [VRel, PRel]
    refine ⟨_, _, _, rfl, rfl, hge, fun _ => ⟨_, _, rfl, by simp, hnF, ?_⟩⟩
    rw [PElems.flat_iff]
    refine PCells.of (PRels.kept kept _ hpr) fun j c hj => ?_
    rw [cell_of_row _ x.w.heap.size (0 + j) _ et (0, 0) hat]
    have hjl := (List.getElem?_eq_some_iff.1 hj).1
    simp only [Nat.zero_add, List.getElem?_toArray]
    rw [List.getElem?_append_left hjl]
    exact hj
/-! ### an append of one slot to a slice of slots -/
theorem appx_fresh (h : SRel e σ x a) {d : Nat} (hd : d < e.n) {r n : Nat} {xs : List AV} {news zs : List Value} {et : TypeId} {cap : Nat} {K : St → Prop} (hxs : VRels x xs news)
    (hc : (news ++ zs).length = cap) (hn : n = xs.length) (hcap : n ≤ cap) (hr : r < 200000) (hK : K ((σ.newRow r (.bxs (AV.clips (only r) xs))).put d (.row r 0 n))) :
    ∃ σ' y, SRel e σ' y (a.put (some d) (.slice (some ⟨x.w.heap.size, 0, none⟩) n cap)) ∧ y.w = x.w.drew.alloc (.cells ⟨news ++ zs⟩ et) ∧ K σ' := by
  have hb := below_drew_alloc x.w (.cells ⟨news ++ zs⟩ et)
  let l : Loc := ⟨x.w.heap.size, 0, cap, 1, true, xs.length⟩
  have hnew : (x.w.drew.alloc (.cells ⟨news ++ zs⟩ et)).heap[x.w.heap.size]? = some (.cells ⟨news ++ zs⟩ et (0, 0)) := heap_new x.w.drew _
  have kept := newCx_kept h hb r (.bxs (AV.clips (only r) xs)) l (fun _ => Nat.le_refl _)
  have hρ := newCx_ρ (e := e) (σ := σ) (x := x) (w' := x.w.drew.alloc (.cells ⟨news ++ zs⟩ et)) r (.bxs (AV.clips (only r) xs)) l
  have h1 := SRel.fresh h hb r (.bxs (AV.clips (only r) xs)) l (fun _ => Nat.le_refl _) ⟨rfl, ⟨rfl, by simp only [l, clips_length], by simp only [l, clips_length]; omega⟩, ⟨_, et, hnew, by simp only [l, Nat.zero_add]; simp [hc]⟩, by
    refine ACells.of (VRels.clip kept hρ _ hxs) fun j c hj => ?_
    have hj' : (news ++ zs)[j]? = some c := by
      have := (List.getElem?_eq_some_iff.1 hj).1
      rw [List.getElem?_append_left this]; exact hj
    exact CellsAt.of_heap (w := (newCx e σ x (x.w.drew.alloc (.cells ⟨news ++ zs⟩ et)) r (.bxs (AV.clips (only r) xs)) l).w) hnew j c hj'⟩ hr
  refine ⟨_, newCx e σ x (x.w.drew.alloc (.cells ⟨news ++ zs⟩ et)) r (.bxs (AV.clips (only r) xs)) l, h1.put hd (v := .row r 0 n) ?_, rfl, hK⟩
  simp only [VRel]
  exact .inr ⟨cap, by simp [newCx, updρ, l], by simp [newCx, updρ, l], by omega, by simp [newCx, updρ, l], by simp [newCx, updρ, l]; omega⟩
theorem VRels.app2 {x : Cx} : ∀ {us : List AV} {vs : List Value} {us' : List AV} {vs' : List Value}, VRels x us vs → VRels x us' vs' → VRels x (us ++ us') (vs ++ vs')
  | [], _, _, _, h, h' => by simp only [VRels] at h; subst h; exact h'
  | u :: us, _, _, _, h, h' => by
    simp only [VRels, List.cons_append] at h ⊢
    obtain ⟨v, r, rfl, h1, h2⟩ := h
    exact ⟨v, r ++ _, rfl, h1, h2.app2 h'⟩
theorem VRels.len {x : Cx} : ∀ {us : List AV} {vs : List Value}, VRels x us vs → vs.length = us.length
  | [], _, h => by simp only [VRels] at h; subst h; rfl
  | u :: us, _, h => by
    simp only [VRels] at h
    obtain ⟨v, r, rfl, _, h2⟩ := h
    simp [h2.len]
theorem l_appx (h : SRel e σ x a) (d : Nat) (hd : d < e.n) (hdst : o.dst = some d) {t t2 et et2 : TypeId} {yb ys : Operand} (ho : o.op = .call { callee := .builtin .append, args := #[yb, ys], argTypes := #[t, t2] })
    {i : TypeInfo} {zv : Value} (ht : P.underlying t = some (.slice et)) (ht2 : P.underlying t2 = some (.slice et2)) (hi : P.info? et = some i) (hz : i.zero = some zv) (hzs : zv.cells.size = i.size) (hs1 : i.size = 1)
    {vb v : AV} (hb : VRel x vb (a.eval yb)) (hs : VRel x (.lit [v]) (a.eval ys)) (hone : v.one = true) (hv1 : ∀ cs, v ≠ .agg cs) (hv2 : ∀ cs, v ≠ .pv (.agg cs))
    {r n : Nat} {olds : List AV} (hbase : (vb = .e0 ∧ n = 0 ∧ olds = []) ∨ (vb = .row r 0 n ∧ stGet σ.st r = some (.bxs olds) ∧ n = olds.length ∧ 0 < n))
    (hbytes : (n + 1) * i.bytes ≤ 140737488355328) (h63 : n + 1 ≤ 9223372036854775807) (hrr : r < 200000)
    {K : St → Prop} (hK : K ((σ.newRow r (.bxs (AV.clips (only r) (olds ++ [v])))).put d (.row r 0 (n + 1)))) : ∀ Q, o.wp P a x.w (fun a' w' => ∃ σ' y, SRel e σ' y a' ∧ y.w = w' ∧ K σ') Q := by
  intro Q
  simp only [VRel] at hs
  obtain ⟨as, ns, cs, hys, hns, hle, hel⟩ := hs
  simp only [List.length_singleton] at hns
  subst hns
  obtain ⟨sb, so, rfl, hsl, hsF, hel⟩ := hel (by omega)
  obtain ⟨⟨cv, hcell, hvr⟩, _⟩ := (AElems_one hv1 hv2).1 hel
  have hvs : VRels x [v] [cv] := by simp only [VRels]; exact ⟨cv, [], rfl, hvr, rfl⟩
  have hcv1 : ∀ c ∈ [cv], c.oneCell' = true := allOne_rel hvs (by simp [AV.allOne, hone])
  have hsrc : Src P x.w i.size (a.eval ys) 1 [cv] := by
    rw [hys, hs1]
    exact Src.slice rfl (fun _ => ⟨sb, so, rfl, fun j c hj => by
      cases j with
      | zero => simp only [List.getElem?_cons_zero, Option.some.injEq] at hj; subst hj; simpa using hcell
      | succ j => simp at hj⟩)
  have hexec : ∀ {w' : World} {v : Value}, (Builtin.append_ #[t, t2] o.type #[a.eval yb, a.eval ys]).run P x.w = .ok v w' → (execOp a.eval o).run P x.w = .ok (.value v) w' := fun hr => by
    simp [execOp, ho, resolve, invoke, builtin, hr]
  have hzc : ∀ k, (Builtin.zeroCells zv.cells k).size = k := fun k => by rw [size_zeroCells, hzs, hs1, Nat.mul_one]
  rcases hbase with ⟨rfl, hn0, ho0⟩ | ⟨rfl, hr, hnl, hn0⟩
  · subst hn0; subst ho0
    simp only [VRel] at hb
    obtain ⟨ad, he⟩ := hb
    rw [he] at hexec
    have hold : Src P x.w i.size (.slice ad 0 0) 0 [] := Src.slice (by simp) (fun h => absurd h (by omega))
    have hrun := run_app_grow (P := P) (ty := o.type) ht ht2 hi hz hold hsrc (by omega) h63 hbytes
    refine wp_value (hexec hrun) ?_
    rw [hdst]
    have hge := grownCap_ge x.w (0 + 1) 0 et
    refine appx_fresh h hd (xs := [v]) (by simpa using hvs) ?_ rfl hge hrr hK
    simp only [List.length_append, Array.length_toList, hzc, List.length_nil, List.length_singleton]
    omega
  · have hm := stGet_mem hr
    have hrel := h.st r _ hm
    simp only [Row.rel] at hrel
    simp only [VRel] at hb
    obtain ⟨hok, ⟨hls, hln, hcp⟩, ⟨arr, tb, hh, harr⟩, hcells⟩ := hrel
    rcases hb with ⟨h0, _⟩ | ⟨c, _, he, hnc, hcap, hlen⟩
    · omega
    rw [hls, Nat.zero_mul, Nat.add_zero] at he
    obtain ⟨cvs, hc1, hc2⟩ := hcells.list
    have hcl : cvs.length = olds.length := hc1.len
    rw [he] at hexec
    have hold : Src P x.w i.size (.slice (some ⟨(x.ρ r).blk, (x.ρ r).base, none⟩) n c) n cvs := Src.slice (by rw [hs1]; omega) (fun _ => ⟨_, _, rfl, hc2⟩)
    have hall : VRels x (olds ++ [v]) (cvs ++ [cv]) := hc1.app2 hvs
    by_cases hroom : n + 1 ≤ c
    · obtain ⟨L⟩ := arr
      have harr' : (x.ρ r).base + (x.ρ r).cap ≤ L.length := by simpa using harr
      have hfit : (x.ρ r).base + n * i.size + [cv].length ≤ L.length := by rw [hs1]; simp only [List.length_singleton]; omega
      have hrun := run_app_room (P := P) (ty := o.type) (c := c) ht ht2 hi hh hsrc hcv1 hroom hfit
      rw [hs1, Nat.mul_one] at hrun
      refine wp_value (hexec hrun) ?_
      rw [hdst]
      have hsz := setBlk_size x.w (x.ρ r).blk (layC L ((x.ρ r).base + n) [cv]) tb
      let w' := setBlk x.w (x.ρ r).blk (layC L ((x.ρ r).base + n) [cv]) tb
      let l : Loc := ⟨(x.ρ r).blk, (x.ρ r).base, c, 1, true, n + 1⟩
      let row' : Row := .bxs (AV.clips (only r) (olds ++ [v]))
      let y : Cx := newCx e σ x w' r row' l
      have e1 : y.ρ r = l := by simp [y, newCx, updρ]
      have hρ : ∀ q, only r q = false → y.ρ q = x.ρ q := newCx_ρ r row' l
      have hFy : ∀ b, y.F b → x.F b := fun b hy => by
        rcases hy with h0 | ⟨q, rw', hq, hqo, hqb⟩
        · exact (h.F b).2 (.inl h0)
        · rcases List.mem_cons.1 hq with hq | hq
          · injection hq with h1 _
            subst h1
            simp only [updρ, if_true, l] at hqb
            exact (h.F b).2 (.inr ⟨q, _, hm, hok, hqb⟩)
          · obtain ⟨u, h1, _⟩ := stClip_mem hq
            obtain ⟨h3, h4⟩ := stDel_mem h1
            simp only [updρ, if_neg h4] at hqo hqb
            exact (h.F b).2 (.inr ⟨q, u, h3, hqo, hqb⟩)
      have kept : Kept x y := ⟨Nat.le_of_eq hsz.symm, fun b hb _ => setBlk_far fun hbe => hb ((h.F b).2 (.inr ⟨r, _, hm, hok, hbe.symm⟩)), fun b _ hy => hFy b hy⟩
      have hrow' : row'.rel y l := by
        refine ⟨rfl, ⟨rfl, by simp only [l, clips_length, List.length_append, List.length_singleton]; omega, by simp only [l, clips_length, List.length_append, List.length_singleton]; omega⟩, ⟨_, tb, setBlk_at hh, by simp only [l]; simp [layC_length]; omega⟩, ?_⟩
        have h5 := layC_cells (news := [cv]) hh hc2 (by rw [hcl, ← hnl]; rw [hs1] at hfit; omega)
        rw [hcl, ← hnl] at h5
        exact ACells.of (VRels.clip kept hρ _ hall) h5
      have h6 := SRel.turn (y := y) h r row' (only r) (Nat.le_of_eq hsz.symm) rfl rfl rfl (Nat.le_refl _) (fun b _ hb => setBlk_far (hb _ hm hok)) hρ (fun q hq => by simpa [only] using hq) (fun q hq => hρ q (by simp [only, hq]))
        (fun _ => .inr ⟨⟨_, hm⟩, hok, by rw [e1]⟩) (fun b => Iff.rfl) (by rw [e1]; exact hrow') (.inl hrr)
      refine ⟨_, y, h6.put hd (v := .row r 0 (n + 1)) ?_, rfl, hK⟩
      simp only [VRel]
      exact .inr ⟨c, by rw [e1], by rw [e1]; simp [l], hroom, by rw [e1]; simp [l], by rw [e1]; simp [l]⟩
    · have hr3 := run_app_grow (P := P) (ty := o.type) ht ht2 hi hz hold hsrc (by omega) h63 hbytes
      refine wp_value (hexec hr3) ?_
      rw [hdst]
      have hge := grownCap_ge x.w (n + 1) c et
      refine appx_fresh h hd (xs := olds ++ [v]) hall ?_ (by simp; omega) hge hrr hK
      simp only [List.length_append, Array.length_toList, hzc, List.length_singleton]
      omega
end
end Go.Vc

namespace Go.Vc
open Go.RowKit
set_option linter.unusedSimpArgs false

/-! ## An own row's elements laid anew, in place -/
section
variable {P : Program} {e : Env} {σ : St} {x : Cx} {a : Act} {o : Oper}

theorem run_sliceBoundsX {w : World} {len cap : Nat} {lo hi : Option Value} {l h : Int} (hlo : lo = none ∧ l = 0 ∨ ∃ k, lo = some (.int k l)) (hhi : hi = none ∧ h = len ∨ ∃ k, hi = some (.int k h))
    (h0 : 0 ≤ l) (h1 : l ≤ h) (h2 : h ≤ cap) : (Instr.sliceBounds true len cap lo hi none).run P w = .ok (l.toNat, h.toNat, cap) w := by
  have a2 : 0 ≤ h := by omega
  rcases hlo with ⟨rfl, rfl⟩ | ⟨k, rfl⟩ <;> rcases hhi with ⟨rfl, rfl⟩ | ⟨k', rfl⟩
  · simp [Instr.sliceBounds]
  · simp [Instr.sliceBounds, Instr.sliceBound, asIntOf, h2, a2]
  · simp [Instr.sliceBounds, Instr.sliceBound, asIntOf, h1, h0]
  · have a6 : ¬ max h 0 < l := by omega
    simp [Instr.sliceBounds, Instr.sliceBound, asIntOf, h2, a2, h0, a6]
theorem q_slcx {t et : TypeId} {y : Operand} {lo hi : Option Operand} (ho : o.op = .slice t y lo hi none) {v : AV} (hS : SRel e σ x a) {ev : Operand → Value} {l h : Int}
    (hlo : lo.map ev = none ∧ l = 0 ∨ ∃ k, lo.map ev = some (.int k l)) (hhi : hi.map ev = none ∧ h = sizeOfV v ∨ ∃ k, hi.map ev = some (.int k h))
    {i : TypeInfo} (ht : P.underlying t = some (.slice et)) (hi' : P.info? et = some i) (hy : VRel x v (ev y)) (hp : slcxP σ i.size l h v) : QOK P x o ev (slcV l h v) := by
  have go : ∀ {r off m : Nat} {xs : List PV}, VRel x (.row r off m) (ev y) → sizeOfV v = m → slcV l h v = .row r (off + l.toNat) (h.toNat - l.toNat) → Row.rel x (x.ρ r) (.sl i.size xs) → 0 ≤ l → l ≤ h → off + h ≤ xs.length → QOK P x o ev (slcV l h v) := by
    intro r off m xs hy hsz hsv hrel h0 h1 h2
    simp only [Row.rel] at hrel
    simp only [VRel] at hy
    rw [hsz] at hhi
    rw [hsv]
    rcases hy with ⟨hm, hcp, ad, e1⟩ | ⟨c, hok, e1, h4, h5, h6⟩
    · have hh : h = 0 ∧ l = 0 := by
        rcases hrel with ⟨_, h3⟩ | ⟨_, h3, ⟨_, h4⟩, _⟩
        · subst h3; simp at h2; omega
        · have := hcp h3; omega
      obtain ⟨rfl, rfl⟩ := hh
      subst hm
      have hr : ∀ w' : World, (execOp ev o).run P w' = .ok (.value (.slice ad 0 0)) w' := fun w' => by
        have := run_sliceBoundsX (P := P) (w := w') (len := 0) (cap := 0) (l := 0) (h := 0) hlo hhi (by omega) (by omega) (by omega)
        simp [execOp, ho, e1, Instr.sliceAt, run_underlying ht, Instr.slice, this, sizeOf, typeInfo, hi']
      refine ⟨_, ?_, fun w' _ => hr w'⟩
      simp only [VRel]
      exact .inl ⟨by simp, by simpa using hcp, ad, rfl⟩
    · rcases hrel with ⟨h3, _⟩ | ⟨hs, _, ⟨hln, hcx⟩, _⟩
      · rw [h3] at hok; cases hok
      have hr : ∀ w' : World, (execOp ev o).run P w' = .ok (.value (.slice (if c = l.toNat then some ⟨(x.ρ r).blk, (x.ρ r).base + off * (x.ρ r).s, none⟩ else some ⟨(x.ρ r).blk, (x.ρ r).base + off * (x.ρ r).s + l.toNat * i.size, none⟩) (h.toNat - l.toNat) (c - l.toNat))) w' := fun w' => by
        have := run_sliceBoundsX (P := P) (w := w') (len := m) (cap := c) hlo hhi h0 h1 (by omega)
        simp [execOp, ho, e1, Instr.sliceAt, run_underlying ht, Instr.slice, this, sizeOf, typeInfo, hi', addr_add]
      refine ⟨_, ?_, fun w' _ => hr w'⟩
      simp only [VRel]
      by_cases hcl : c = l.toNat
      · rw [if_pos hcl]
        exact .inl ⟨by omega, fun _ => by omega, _, by rw [show h.toNat - l.toNat = 0 by omega, show c - l.toNat = 0 by omega]⟩
      · rw [if_neg hcl]
        refine .inr ⟨c - l.toNat, hok, ?_, by omega, by omega, by omega⟩
        rw [hs, Nat.add_mul, Nat.add_assoc]
  unfold slcxP at hp
  split at hp
  · rename_i r off m
    split at hp
    · rename_i s' xs hrow
      obtain ⟨rfl, h0, h1, h2⟩ := hp
      exact go hy rfl rfl (hS.st _ _ (stGet_mem hrow)) h0 h1 h2
    · rename_i s' xs hrow
      obtain ⟨rfl, h0, h1, h2⟩ := hp
      have := hS.st _ _ (stGet_mem hrow)
      exact go hy rfl rfl (by
        simp only [Row.rel] at this ⊢
        exact this.imp id fun ⟨h1, h2, h3, h4⟩ => ⟨h1, h2, ⟨h3.1, Nat.le_of_eq h3.2⟩, h4⟩) h0 h1 h2
    · exact hp.elim
  · exact hp.elim
theorem run_sliceBounds3 {w : World} {len cap : Nat} {kl kh km : IntKind} {l h m : Int} (h0 : 0 ≤ l) (h1 : l ≤ h) (h2 : h ≤ m) (h3 : m ≤ cap) :
    (Instr.sliceBounds true len cap (some (.int kl l)) (some (.int kh h)) (some (.int km m))).run P w = .ok (l.toNat, h.toNat, m.toNat) w := by
  have a1 : 0 ≤ m := by omega
  have a2 : 0 ≤ h := by omega
  have a3 : h ≤ max m 0 := by omega
  have a4 : l ≤ max h 0 := by omega
  simp [Instr.sliceBounds, Instr.sliceBound, asIntOf, h0, a1, a2, h3, a3, a4]
theorem q_chk {t et : TypeId} {y lo hi mx : Operand} (ho : o.op = .slice t y (some lo) (some hi) (some mx)) {i : TypeInfo} (ht : P.underlying t = some (.slice et)) (hi' : P.info? et = some i) {ev : Operand → Value} {v vl vh vm : AV}
    (hy : VRel x v (ev y)) (hl : VRel x vl (ev lo)) (hh : VRel x vh (ev hi)) (hm : VRel x vm (ev mx)) (hp : chkP v vl vh vm) : QOK P x o ev .un := by
  have fin : ∀ (ad : Option Addr) (n c : Nat) {kl kh km : IntKind} {l h m : Int}, ev y = .slice ad n c → ev lo = .int kl l → ev hi = .int kh h → ev mx = .int km m → 0 ≤ l → l ≤ h → h ≤ m → m ≤ c → QOK P x o ev .un := by
    intro ad n c kl kh km l h m e1 e2 e3 e4 h0 h1 h2 h3
    refine ⟨.slice (if m.toNat = l.toNat then ad else ad.map (·.add (l.toNat * i.size))) (h.toNat - l.toNat) (m.toNat - l.toNat), by simp only [VRel], fun w' _ => ?_⟩
    have := run_sliceBounds3 (P := P) (w := w') (len := n) (cap := c) (kl := kl) (kh := kh) (km := km) h0 h1 h2 h3
    simp [execOp, ho, e1, e2, e3, e4, Instr.sliceAt, run_underlying ht, Instr.slice, this, sizeOf, typeInfo, hi']
  unfold chkP at hp
  split at hp
  · rename_i r off n kl l kh h km m
    simp only [VRel, PRel] at hy hl hh hm
    rcases hy with ⟨rfl, _, ad, e1⟩ | ⟨c, _, e1, h4, _⟩
    · exact fin ad 0 0 e1 hl hh hm hp.1 hp.2.1 hp.2.2.1 (by omega)
    · exact fin _ _ c e1 hl hh hm hp.1 hp.2.1 hp.2.2.1 (by omega)
  · rename_i xs kl l kh h km m
    simp only [VRel, PRel] at hy hl hh hm
    obtain ⟨ad, n, c, e1, e2, e3, _⟩ := hy
    exact fin ad n c e1 hl hh hm hp.1 hp.2.1 hp.2.2.1 (by omega)
  · exact hp.elim
/-- elements of a row, from number k on, are these now -/
def laidAt (xs : List PV) (k : Nat) (ps : List PV) : List PV := xs.take k ++ (ps ++ xs.drop (k + ps.length))
theorem laidAt_length {xs ps : List PV} {k : Nat} (h : k + ps.length ≤ xs.length) : (laidAt xs k ps).length = xs.length := by
  simp only [laidAt, List.length_append, List.length_take, List.length_drop]; omega
theorem layP_all : ∀ (ps m pre : List PV), ps.length = m.length → layP (pre ++ m) pre.length ps = pre ++ ps
  | [], [], pre, _ => rfl
  | [], _ :: _, _, h => by simp at h
  | _ :: _, [], _, h => by simp at h
  | p :: ps, c :: m, pre, h => by
    simp only [layP]
    have e1 : (pre ++ c :: m).set pre.length p = (pre ++ [p]) ++ m := by
      rw [List.set_append_right _ _ (Nat.le_refl _)]
      simp
    rw [e1]
    have := layP_all ps m (pre ++ [p]) (by simpa using h)
    rw [List.length_append, List.length_singleton] at this
    rw [this, List.append_assoc]
    rfl
theorem flat_laidAt {s k : Nat} {xs ps : List PV} (hx : WfL s xs) (hp : WfL s ps) (hk : k + ps.length ≤ xs.length) : flat (laidAt xs k ps) = layP (flat xs) (k * s) (flat ps) := by
  have hs : xs = xs.take k ++ ((xs.drop k).take ps.length ++ xs.drop (k + ps.length)) := by
    rw [← List.drop_drop, List.take_append_drop, List.take_append_drop]
  have e1 : (flat (xs.take k)).length = k * s := by rw [flat_length (hx.take (n := k)), List.length_take, Nat.min_eq_left (by omega)]
  have e2 : (flat ps).length = (flat ((xs.drop k).take ps.length)).length := by
    rw [flat_length hp, flat_length ((hx.drop (n := k)).take (n := ps.length)), List.length_take, List.length_drop, Nat.min_eq_left (by omega)]
  conv => rhs; rw [hs]
  rw [flat_append, flat_append, ← e1, ← List.append_assoc, layP_append_left _ _ _ _ (by rw [List.length_append]; omega), layP_all _ _ _ e2]
  unfold laidAt
  rw [flat_append, flat_append, List.append_assoc]
theorem wfl_laidAt {s k : Nat} {xs ps : List PV} (hx : WfL s xs) (hp : WfL s ps) : WfL s (laidAt xs k ps) := fun q hq => by
  unfold laidAt at hq
  rcases List.mem_append.1 hq with hq | hq
  · exact hx q (List.mem_of_mem_take hq)
  · rcases List.mem_append.1 hq with hq | hq
    · exact hp q hq
    · exact hx q (List.mem_of_mem_drop hq)
theorem SRel.over (h : SRel e σ x a) {r s k : Nat} {xs ps : List PV} (hr : stGet σ.st r = some (.sl s xs)) (hlok : (x.ρ r).ok = true) (hw : WfL s ps) (hk : k + ps.length ≤ xs.length) {news : List Value} (hpr : PRels x.w x.F (flat ps) news) :
    ∃ L tb, x.w.heap[(x.ρ r).blk]? = some (.cells ⟨L⟩ tb (0, 0)) ∧ (x.ρ r).s = s ∧ (x.ρ r).base + k * s + news.length ≤ L.length ∧ (∀ c ∈ news, c.oneCell' = true) ∧
      SRel e ⟨σ.fr, (r, .sl s (laidAt xs k ps)) :: stDel σ.st r⟩ ⟨setBlk x.w (x.ρ r).blk (layC L ((x.ρ r).base + k * s) news) tb, x.F, x.ρ⟩ a := by
  have hm := stGet_mem hr
  have hrow := h.st r _ hm
  simp only [Row.rel] at hrow
  rcases hrow with ⟨h0, _⟩ | ⟨hls, _, ⟨hln, hcap⟩, hwf, ⟨arr, et, hh, harr, hao⟩, hcells⟩
  · rw [h0] at hlok; cases hlok
  obtain ⟨L⟩ := arr
  have harr' : (x.ρ r).base + (x.ρ r).cap * s ≤ L.length := by rw [hls] at harr; simpa using harr
  have hnl : news.length = ps.length * s := by
    have := hpr.length
    rw [flat_length hw] at this
    exact this
  have hfit : (x.ρ r).base + k * s + news.length ≤ L.length := by
    have h1 : (k + ps.length) * s ≤ (x.ρ r).cap * s := Nat.mul_le_mul_right _ (by omega)
    rw [Nat.add_mul] at h1
    omega
  refine ⟨L, et, hh, hls, hfit, hpr.ones (flat_one hw), ?_⟩
  have hsz := setBlk_size x.w (x.ρ r).blk (layC L ((x.ρ r).base + k * s) news) et
  have hfar : ∀ b, b ≠ (x.ρ r).blk → (setBlk x.w (x.ρ r).blk (layC L ((x.ρ r).base + k * s) news) et).heap[b]? = x.w.heap[b]? := fun b hb => setBlk_far hb
  have kept := write_kept h hm hlok hsz hfar
  refine h.write hm hlok hsz rfl rfl rfl (Nat.le_refl _) hfar ?_
  simp only [Row.rel]
  refine .inr ⟨hls, hlok, ⟨by rw [laidAt_length hk]; exact hln, by rw [laidAt_length hk]; exact hcap⟩, wfl_laidAt hwf hw, ⟨_, et, setBlk_at hh, by rw [hls]; simp [layC_length]; simpa using harr', layC_ones _ _ _ hao (hpr.ones (flat_one hw))⟩, ?_⟩
  rw [PElems.flat_iff, flat_laidAt hwf hw hk]
  rw [PElems.flat_iff] at hcells
  obtain ⟨cvs, hc1, hc2⟩ := hcells.list
  have hcl := hc1.length
  rw [flat_length hwf] at hcl
  have e1 : (x.ρ r).base + k * s = (x.ρ r).base + (k * s) := rfl
  have k1 : PRels (setBlk x.w (x.ρ r).blk (layC L ((x.ρ r).base + k * s) news) et) x.F (flat ps) news := PRels.kept kept _ hpr
  have k2 : PRels (setBlk x.w (x.ρ r).blk (layC L ((x.ρ r).base + k * s) news) et) x.F (flat xs) cvs := PRels.kept kept _ hc1
  refine PCells.of (layP_rel k1 k2) (CellsAt.lay hh hc2 hfit ?_)
  have h1 : (k + ps.length) * s ≤ xs.length * s := Nat.mul_le_mul_right _ hk
  rw [Nat.add_mul] at h1
  omega
/-- 'append(base, src...)' that has room among the elements that are there: in place -/
theorem l_appi (h : SRel e σ x a) (d : Nat) (hd : d < e.n) (hdst : o.dst = some d) {t t2 et et2 : TypeId} {yb ys : Operand} (ho : o.op = .call { callee := .builtin .append, args := #[yb, ys], argTypes := #[t, t2] })
    {i : TypeInfo} (ht : P.underlying t = some (.slice et)) (ht2 : P.underlying t2 = some (.slice et2)) (hi : P.info? et = some i)
    {r off n : Nat} {vs : AV} {xs ps : List PV} (hb : VRel x (.row r off n) (a.eval yb)) (hs : VRel x vs (a.eval ys)) (hp : srcP σ vs = some ps) (hw : WfL i.size ps)
    (hrow : ∀ r off m, vs = .row r off m → ∃ xs, stGet σ.st r = some (.sl i.size xs)) (hr : stGet σ.st r = some (.sl i.size xs)) (hne : 0 < xs.length) (hk : off + n + ps.length ≤ xs.length) (hoff : off < xs.length)
    {K : St → Prop} (hK : K (St.put ⟨σ.fr, (r, .sl i.size (laidAt xs (off + n) ps)) :: stDel σ.st r⟩ d (.row r off (n + ps.length)))) : ∀ Q, o.wp P a x.w (fun a' w' => ∃ σ' y, SRel e σ' y a' ∧ y.w = w' ∧ K σ') Q := by
  intro Q
  obtain ⟨news, hsrc, hpr⟩ := src_of (P := P) h hs hp hw hrow
  have hexec : ∀ {w' : World} {v : Value}, (Builtin.append_ #[t, t2] o.type #[a.eval yb, a.eval ys]).run P x.w = .ok v w' → (execOp a.eval o).run P x.w = .ok (.value v) w' := fun hr => by
    simp [execOp, ho, resolve, invoke, builtin, hr]
  simp only [VRel] at hb
  have hlok : (x.ρ r).ok = true := by
    have hrow := h.st r _ (stGet_mem hr)
    simp only [Row.rel] at hrow
    rcases hrow with ⟨_, h0⟩ | ⟨_, h0, _⟩
    · rw [h0] at hne; simp at hne
    · exact h0
  obtain ⟨L, tb, hh, hls, hfit, hone, hrel⟩ := h.over hr hlok hw hk hpr
  rcases hb with ⟨hn0, hcp, ad, he⟩ | ⟨c, _, he, hnc, hcap, hlen⟩
  · -- a nil base without an address: nothing is said of where it goes
    have hc0 := hcp hlok
    have hrow := h.st r _ (stGet_mem hr)
    simp only [Row.rel] at hrow
    rcases hrow with ⟨h0, _⟩ | ⟨_, _, ⟨_, h1⟩, _⟩
    · rw [h0] at hlok; cases hlok
    · omega
  · rw [he] at hexec
    rw [hls] at hexec
    have hcx : xs.length ≤ (x.ρ r).cap := by
      have hrow := h.st r _ (stGet_mem hr)
      simp only [Row.rel] at hrow
      rcases hrow with ⟨h0, _⟩ | ⟨_, _, ⟨_, h1⟩, _⟩
      · rw [h0] at hlok; cases hlok
      · exact h1
    have hroom : n + ps.length ≤ c := by omega
    have e1 : (x.ρ r).base + off * i.size + n * i.size = (x.ρ r).base + (off + n) * i.size := by rw [Nat.add_mul]; omega
    have hrun := run_app_room (P := P) (ty := o.type) (c := c) (o' := (x.ρ r).base + off * i.size) (n := n) ht ht2 hi hh hsrc hone hroom (by rw [e1]; exact hfit)
    rw [e1] at hrun
    refine wp_value (hexec hrun) ?_
    rw [hdst]
    refine ⟨_, _, hrel.put hd (v := .row r off (n + ps.length)) ?_, rfl, hK⟩
    simp only [VRel]
    have hln : (x.ρ r).len = xs.length := by
      have hrow := h.st r _ (stGet_mem hr)
      simp only [Row.rel] at hrow
      rcases hrow with ⟨h0, _⟩ | ⟨_, _, ⟨h1, _⟩, _⟩
      · rw [h0] at hlok; cases hlok
      · exact h1
    exact .inr ⟨c, hlok, by rw [hls], hroom, hcap, by omega⟩
theorem flat_replicate (p : PV) : ∀ n, flat (List.replicate n p) = (List.replicate n p.cells).flatten
  | 0 => rfl
  | n + 1 => by simp only [List.replicate_succ, flat, List.flatten_cons, flat_replicate p n]
theorem rels_replicate {w : World} {F : Nat → Prop} {ps : List PV} {vs : List Value} (h : PRels w F ps vs) : ∀ n, PRels w F (List.replicate n ps).flatten (List.replicate n vs).flatten
  | 0 => by simp [PRels]
  | n + 1 => by
    simp only [List.replicate_succ, List.flatten_cons]
    exact h.append (rels_replicate h n)
/-- 'clear' of a part of an own row -/
theorem l_clr (h : SRel e σ x a) (hdst : o.dst = none) {t et : TypeId} {y : Operand} (ho : o.op = .call { callee := .builtin .clear, args := #[y], argTypes := #[t] }) {i : TypeInfo} {zv : Value} (ht : P.underlying t = some (.slice et)) (hi : P.info? et = some i)
    (hz : i.zero = some zv) {r off n : Nat} {xs : List PV} (hy : VRel x (.row r off n) (a.eval y)) (hr : stGet σ.st r = some (.sl i.size xs)) (hne : 0 < xs.length) (hk : off + n ≤ xs.length)
    {p : PV} (hp : PRels x.w x.F p.cells zv.cells.toList) (hp1 : p.cells.length = i.size ∧ ∀ c ∈ p.cells, c.one = true)
    {K : St → Prop} (hK : K ⟨σ.fr, (r, .sl i.size (laidAt xs off (List.replicate n p))) :: stDel σ.st r⟩) : ∀ Q, o.wp P a x.w (fun a' w' => ∃ σ' y, SRel e σ' y a' ∧ y.w = w' ∧ K σ') Q := by
  intro Q
  have hlok : (x.ρ r).ok = true := by
    have hrow := h.st r _ (stGet_mem hr)
    simp only [Row.rel] at hrow
    rcases hrow with ⟨_, h0⟩ | ⟨_, h0, _⟩
    · rw [h0] at hne; simp at hne
    · exact h0
  have hw : WfL i.size (List.replicate n p) := fun q hq => by rw [(List.mem_replicate.1 hq).2]; exact hp1
  have hpr : PRels x.w x.F (flat (List.replicate n p)) (Builtin.zeroCells zv.cells n).toList := by
    rw [flat_replicate, zero_list]
    exact rels_replicate hp n
  obtain ⟨L, tb, hh, hls, hfit, hone, hrel⟩ := h.over hr hlok hw (by rw [List.length_replicate]; exact hk) hpr
  have hexec : ∀ {w' : World} {v : Value}, (Builtin.clear_ #[t] o.type #[a.eval y]).run P x.w = .ok v w' → (execOp a.eval o).run P x.w = .ok (.value v) w' := fun hr => by
    simp [execOp, ho, resolve, invoke, builtin, hr]
  have same : n = 0 → setBlk x.w (x.ρ r).blk (layC L ((x.ρ r).base + off * i.size) (Builtin.zeroCells zv.cells n).toList) tb = x.w := fun hn => by
    subst hn
    rw [zero_list]
    simp only [List.replicate_zero, List.flatten_nil, layC]
    exact setBlk_same hh
  simp only [VRel] at hy
  rcases hy with ⟨hn0, _, ad, he⟩ | ⟨c, _, he, hnc, hcap, hlen⟩
  · rw [he] at hexec
    rw [same hn0] at hrel
    have hrun : (Builtin.clear_ #[t] o.type #[.slice ad 0 0]).run P x.w = .ok (.tuple #[]) x.w := by
      cases ad <;> simp [Builtin.clear_, run_underlying ht]
    refine wp_value (hexec hrun) ?_
    rw [hdst]
    exact ⟨_, _, hrel, rfl, hK⟩
  · rw [he] at hexec
    rw [hls] at hexec
    rcases Nat.eq_zero_or_pos n with hn0 | hn0
    · have hs := same hn0
      subst hn0
      rw [hs] at hrel
      have hrun : (Builtin.clear_ #[t] o.type #[.slice (some ⟨(x.ρ r).blk, (x.ρ r).base + off * i.size, none⟩) 0 c]).run P x.w = .ok (.tuple #[]) x.w := by
        simp [Builtin.clear_, run_underlying ht]
      refine wp_value (hexec hrun) ?_
      rw [hdst]
      exact ⟨_, _, hrel, rfl, hK⟩
    · have hst := run_storeCells (P := P) (Builtin.zeroCells zv.cells n).toList x.w L ((x.ρ r).base + off * i.size) 0 hh (by omega) hone
      simp only [Nat.add_zero] at hst
      have hrun : (Builtin.clear_ #[t] o.type #[.slice (some ⟨(x.ρ r).blk, (x.ρ r).base + off * i.size, none⟩) n c]).run P x.w = .ok (.tuple #[]) (setBlk x.w (x.ρ r).blk (layC L ((x.ρ r).base + off * i.size) (Builtin.zeroCells zv.cells n).toList) tb) := by
        obtain ⟨m, rfl⟩ : ∃ m, n = m + 1 := ⟨n - 1, by omega⟩
        simp [Builtin.clear_, run_underlying ht, zeroValue, typeInfo, hi, hz, hst]
      refine wp_value (hexec hrun) ?_
      rw [hdst]
      exact ⟨_, _, hrel, rfl, hK⟩
end
end Go.Vc

namespace Go.Vc
open Go.RowKit
set_option linter.unusedSimpArgs false
set_option linter.unusedVariables false

/-! ## What there is room for -/
/-- the same place, more elements told -/
def Wd (l l' : Loc) : Prop := l'.blk = l.blk ∧ l'.base = l.base ∧ l'.cap = l.cap ∧ l'.s = l.s ∧ l'.ok = l.ok ∧ l.len ≤ l'.len
theorem Wd.refl (l : Loc) : Wd l l := ⟨rfl, rfl, rfl, rfl, rfl, Nat.le_refl _⟩

section
variable {w : World} {F : Nat → Prop} {ρ ρ' : Nat → Loc}
mutual
theorem VRel.wide (h : ∀ r, Wd (ρ r) (ρ' r)) : ∀ (a : AV) {v : Value}, VRel ⟨w, F, ρ⟩ a v → VRel ⟨w, F, ρ'⟩ a v
  | .un, _, _ => by simp only [VRel]
  | .pv p, _, hv => by simpa only [VRel] using hv
  | .agg cs, _, hv => by
    simp only [VRel] at hv ⊢
    obtain ⟨vs, e, hv⟩ := hv
    exact ⟨vs, e, VRels.wide h cs hv⟩
  | .tup cs, _, hv => by
    simp only [VRel] at hv ⊢
    obtain ⟨vs, e, hv⟩ := hv
    exact ⟨vs, e, VRels.wide h cs hv⟩
  | .e0, _, hv => by simpa only [VRel] using hv
  | .lit zs, _, hv => by
    simp only [VRel] at hv ⊢
    obtain ⟨a, n, c, e, h1, h2, h3⟩ := hv
    refine ⟨a, n, c, e, h1, h2, fun hn => ?_⟩
    obtain ⟨b, o, ha, hlt, hF, he⟩ := h3 hn
    exact ⟨b, o, ha, hlt, hF, AElems.wide h zs he⟩
  | .row r off n, _, hv => by
    obtain ⟨a1, a2, a3, a4, a5, a6⟩ := h r
    simp only [VRel, a1, a2, a3, a4, a5] at hv ⊢
    rcases hv with h1 | ⟨c, h1, h2, h3, h4, h5⟩
    · exact .inl h1
    · exact .inr ⟨c, h1, h2, h3, h4, Nat.le_trans h5 a6⟩
  | .ptr r off, _, hv => by
    obtain ⟨a1, a2, a3, a4, a5, a6⟩ := h r
    simp only [VRel, a1, a2] at hv ⊢
    exact hv
  | .rptr r i off, _, hv => by
    obtain ⟨a1, a2, a3, a4, a5, a6⟩ := h r
    simp only [VRel, a1, a2, a4] at hv ⊢
    exact hv
  | .eptr zs i off, _, hv => by simpa only [VRel] using hv
  | .cptr zs off, _, hv => by simpa only [VRel] using hv
  | .fn _ cs, _, hv => by
    simp only [VRel] at hv ⊢
    obtain ⟨vs, e, hv⟩ := hv
    exact ⟨vs, e, VRels.wide h cs hv⟩
  | .mp r, _, hv => by
    obtain ⟨a1, a2, a3, a4, a5, a6⟩ := h r
    simp only [VRel, a1] at hv ⊢
    exact hv
  | .it r, _, hv => by
    obtain ⟨a1, a2, a3, a4, a5, a6⟩ := h r
    simp only [VRel, a1] at hv ⊢
    exact hv
  | .whn c a, _, hv => by
    simp only [VRel] at hv ⊢
    exact ⟨fun hc => VRel.wide h a (hv.1 hc), hv.2⟩
theorem VRels.wide (h : ∀ r, Wd (ρ r) (ρ' r)) : ∀ (as : List AV) {vs : List Value}, VRels ⟨w, F, ρ⟩ as vs → VRels ⟨w, F, ρ'⟩ as vs
  | [], _, hv => by simpa only [VRels] using hv
  | p :: ps, _, hv => by
    simp only [VRels] at hv ⊢
    obtain ⟨v, r, e, h1, h2⟩ := hv
    exact ⟨v, r, e, VRel.wide h p h1, VRels.wide h ps h2⟩
theorem AElems.wide (h : ∀ r, Wd (ρ r) (ρ' r)) : ∀ (zs : List AV) {b o : Nat}, AElems ⟨w, F, ρ⟩ zs b o → AElems ⟨w, F, ρ'⟩ zs b o
  | [], _, _, _ => by simp only [AElems]
  | z :: xs, b, o, hv => by
    by_cases h1 : ∃ cs, z = .agg cs
    · obtain ⟨cs, rfl⟩ := h1
      simp only [AElems] at hv ⊢
      exact ⟨ACells.wide h cs hv.1, AElems.wide h xs hv.2⟩
    by_cases h2 : ∃ cs, z = .pv (.agg cs)
    · obtain ⟨cs, rfl⟩ := h2
      simp only [AElems] at hv ⊢
      exact ⟨hv.1, AElems.wide h xs hv.2⟩
    have h1' : ∀ cs, z ≠ .agg cs := fun cs e => h1 ⟨cs, e⟩
    have h2' : ∀ cs, z ≠ .pv (.agg cs) := fun cs e => h2 ⟨cs, e⟩
    rw [AElems_one h1' h2'] at hv ⊢
    obtain ⟨⟨u, h3, h4⟩, h5⟩ := hv
    exact ⟨⟨u, h3, VRel.wide h z h4⟩, AElems.wide h xs h5⟩
theorem ACells.wide (h : ∀ r, Wd (ρ r) (ρ' r)) : ∀ (zs : List AV) {b o : Nat}, ACells ⟨w, F, ρ⟩ zs b o → ACells ⟨w, F, ρ'⟩ zs b o
  | [], _, _, _ => by simp only [ACells]
  | z :: xs, b, o, hv => by
    simp only [ACells] at hv ⊢
    obtain ⟨⟨u, h3, h4⟩, h5⟩ := hv
    exact ⟨⟨u, h3, VRel.wide h z h4⟩, ACells.wide h xs h5⟩
end
theorem Row.wide (h : ∀ r, Wd (ρ r) (ρ' r)) {l : Loc} : ∀ {row : Row}, row.rel ⟨w, F, ρ⟩ l → row.rel ⟨w, F, ρ'⟩ l
  | .box cells, hv => by
    simp only [Row.rel] at hv ⊢
    exact ⟨hv.1, hv.2.1, ACells.wide h cells hv.2.2⟩
  | .sl _ xs, hv => by simpa only [Row.rel] using hv
  | .slf _ xs, hv => by simpa only [Row.rel] using hv
  | .bxs cells, hv => by
    simp only [Row.rel] at hv ⊢
    exact ⟨hv.1, hv.2.1, hv.2.2.1, ACells.wide h cells hv.2.2.2⟩
  | .mp es, hv => by simpa only [Row.rel, EntryRel] using hv
  | .sit s pos, hv => by simpa only [Row.rel] using hv
  | .mit m n rem cur, hv => by
    simp only [Row.rel, (h m).1] at hv ⊢
    exact hv
  | .mpd es clock, hv => by simpa only [Row.rel, EntryRel] using hv
  | .mid m n bs rem cur, hv => by
    simp only [Row.rel, (h m).1] at hv ⊢
    exact hv
  | .gone, hv => by simpa only [Row.rel] using hv
end
section
variable {P : Program} {e : Env} {σ : St} {x : Cx} {a : Act} {o : Oper}

/-- a row told anew, more of its elements told -/
theorem SRel.widen (h : SRel e σ x a) {r : Nat} {row row' : Row} {l' : Loc} (hm : (r, row) ∈ σ.st) (hl : Wd (x.ρ r) l') (hrr : r < 200000 ∨ l' = x.ρ r) (hrow : row'.rel ⟨x.w, x.F, updρ x.ρ r l'⟩ l') :
    SRel e ⟨σ.fr, (r, row') :: stDel σ.st r⟩ ⟨x.w, x.F, updρ x.ρ r l'⟩ a := by
  have hw : ∀ q, Wd (x.ρ q) (updρ x.ρ r l' q) := fun q => by
    unfold updρ
    by_cases hq : q = r
    · subst hq; simpa using hl
    · simpa [hq] using Wd.refl _
  have hat : updρ x.ρ r l' r = l' := by simp [updρ]
  have mem : ∀ q u, (q, u) ∈ (r, row') :: stDel σ.st r → ∃ u', (q, u') ∈ σ.st ∧ (q ≠ r → u' = u) := fun q u hq => by
    rcases List.mem_cons.1 hq with hq | hq
    · injection hq with h1 h2; subst h1; exact ⟨row, hm, fun hn => absurd rfl hn⟩
    · exact ⟨u, (stDel_mem hq).1, fun _ => rfl⟩
  exact {
    defers := h.defers
    size := h.size
    fr := fun k v hk => let ⟨cv, h1, h2⟩ := h.fr k v hk; ⟨cv, h1, VRel.wide hw v h2⟩
    st := fun q u hq => by
      rcases List.mem_cons.1 hq with hq | hq
      · injection hq with h1 h2; subst h1; subst h2
        show u.rel _ (updρ x.ρ q l' q)
        rw [hat]; exact hrow
      · have hne := (stDel_mem hq).2
        have := Row.wide hw (h.st q u (stDel_mem hq).1)
        have e1 : updρ x.ρ r l' q = x.ρ q := by simp [updρ, show q ≠ r from hne]
        show u.rel _ (updρ x.ρ r l' q)
        rw [e1]; exact this
    keys := by
      simp only [List.map_cons, List.nodup_cons]
      refine ⟨fun hk => ?_, stDel_keys h.keys⟩
      obtain ⟨u, h1, h2⟩ := List.mem_map.1 hk
      exact (stDel_mem h1).2 h2
    inj := fun q u q' u' hq hq' hne hok hok' => by
      obtain ⟨v, hv, _⟩ := mem q u hq
      obtain ⟨v', hv', _⟩ := mem q' u' hq'
      simp only at hok hok' ⊢
      rw [(hw q).2.2.2.2.1] at hok
      rw [(hw q').2.2.2.2.1] at hok'
      rw [(hw q).1, (hw q').1]
      exact h.inj q v q' v' hv hv' hne hok hok'
    F := fun b => by
      rw [h.F b]
      refine or_congr Iff.rfl ⟨?_, ?_⟩
      · rintro ⟨q, u, h1, h2, h3⟩
        by_cases hq : q = r
        · subst hq
          exact ⟨q, row', by simp, by rw [(hw q).2.2.2.2.1]; exact h2, by rw [(hw q).1]; exact h3⟩
        · have : (q, u) ∈ stDel σ.st r := by
            have : ∀ {l : List (Nat × Row)}, (q, u) ∈ l → (q, u) ∈ stDel l r := by
              intro l
              induction l with
              | nil => intro h; cases h
              | cons z l ih =>
                intro hm
                obtain ⟨k, v⟩ := z
                simp only [stDel]
                rcases List.mem_cons.1 hm with hm | hm
                · injection hm with h4 h5; subst h4; subst h5; rw [if_neg hq]; simp
                · by_cases hk : k = r
                  · rw [if_pos hk]; exact ih hm
                  · rw [if_neg hk]; exact List.mem_cons_of_mem _ (ih hm)
            exact this h1
          exact ⟨q, u, List.mem_cons_of_mem _ this, by rw [(hw q).2.2.2.2.1]; exact h2, by rw [(hw q).1]; exact h3⟩
      · rintro ⟨q, u, h1, h2, h3⟩
        obtain ⟨v, hv, _⟩ := mem q u h1
        rw [(hw q).2.2.2.2.1] at h2
        rw [(hw q).1] at h3
        exact ⟨q, v, hv, h2, h3⟩
    own := fun q u hq hok => by
      obtain ⟨v, hv, _⟩ := mem q u hq
      simp only at hok ⊢
      rw [(hw q).2.2.2.2.1] at hok
      rw [(hw q).1]
      exact h.own q v hv hok
    f0 := h.f0
    tabs := h.tabs
    below := h.below
    fix := fun q hq => by
      show updρ x.ρ r l' q = _
      by_cases hqr : q = r
      · subst hqr
        rcases hrr with hrr | hrr
        · omega
        · rw [hat, hrr]; exact h.fix q hq
      · simp only [updρ, if_neg hqr]; exact h.fix q hq
    small := h.small }

/-- of a row of which all is told: that there is no more is forgotten -/
theorem SRel.weakF (h : SRel e σ x a) {r s : Nat} {xs : List PV} (hr : stGet σ.st r = some (.slf s xs)) : SRel e ⟨σ.fr, (r, .sl s xs) :: stDel σ.st r⟩ x a := by
  have hm := stGet_mem hr
  have hrow := h.st r _ hm
  have e1 : updρ x.ρ r (x.ρ r) = x.ρ := by funext q; unfold updρ; split <;> simp_all
  have := h.widen (row' := .sl s xs) (l' := x.ρ r) hm (Wd.refl _) (.inr rfl) (by
    rw [e1]
    simp only [Row.rel] at hrow ⊢
    exact hrow.imp id fun ⟨h1, h2, h3, h4⟩ => ⟨h1, h2, ⟨h3.1, Nat.le_of_eq h3.2⟩, h4⟩)
  rw [e1] at this
  exact this

/-- cells as elements of s cells each -/
theorem chop (s : Nat) : ∀ (k : Nat) (L : List Value), L.length = k * s → (∀ c ∈ L, c.oneCell' = true) → ∃ sp : List PV, sp.length = k ∧ WfL s sp ∧ flat sp = L.map .sc
  | 0, L, hl, _ => ⟨[], rfl, fun _ h => (by cases h), by
      have : L = [] := List.eq_nil_of_length_eq_zero (by simpa using hl)
      subst this; rfl⟩
  | k + 1, L, hl, h1 => by
    rw [Nat.succ_mul] at hl
    obtain ⟨sp, e1, e2, e3⟩ := chop s k (L.drop s) (by rw [List.length_drop]; omega) (fun c hc => h1 c (List.mem_of_mem_drop hc))
    obtain ⟨p, hp⟩ : ∃ p : PV, p.cells = (L.take s).map .sc := by
      by_cases hs : s = 1
      · subst hs
        match L, hl with
        | v :: L, _ => exact ⟨.sc v, rfl⟩
        | [], hl => simp at hl
      · exact ⟨.agg ((L.take s).map .sc), rfl⟩
    refine ⟨p :: sp, by rw [List.length_cons, e1], fun q hq => ?_, ?_⟩
    · rcases List.mem_cons.1 hq with rfl | hq
      · rw [hp]
        refine ⟨by rw [List.length_map, List.length_take]; omega, fun c hc => ?_⟩
        obtain ⟨v, hv, rfl⟩ := List.mem_map.1 hc
        exact h1 v (List.mem_of_mem_take hv)
      · exact e2 q hq
    · simp only [flat, hp, e3]
      rw [← List.map_append, List.take_append_drop]
theorem rels_sc {w : World} {F : Nat → Prop} : ∀ L : List Value, PRels w F (L.map .sc) L
  | [] => by simp [PRels]
  | v :: L => by
    simp only [List.map_cons, PRels]
    exact ⟨v, L, rfl, by simp only [PRel], rels_sc L⟩

/-- 'cap(x)' of an own row: all that there is room for is told -/
theorem l_cap (h : SRel e σ x a) (d : Nat) (hd : d < e.n) (hdst : o.dst = some d) {t et : TypeId} {y : Operand} (ho : o.op = .call { callee := .builtin .cap, args := #[y], argTypes := #[t] }) (ht : P.underlying t = some (.slice et))
    {r n s : Nat} {xs : List PV} (hy : VRel x (.row r 0 n) (a.eval y)) (hr : stGet σ.st r = some (.sl s xs)) (hrr : r < 200000) {K : St → Prop}
    (hK : ∀ sp, WfL s sp → K (St.put ⟨σ.fr, (r, .slf s (xs ++ sp)) :: stDel σ.st r⟩ d (vint .i64 ((xs.length + sp.length : Nat) : Int)))) : ∀ Q, o.wp P a x.w (fun a' w' => ∃ σ' y, SRel e σ' y a' ∧ y.w = w' ∧ K σ') Q := by
  intro Q
  have hm := stGet_mem hr
  have hrow := h.st r _ hm
  simp only [Row.rel] at hrow
  simp only [VRel] at hy
  have hexec : ∀ {ad : Option Addr} {m c : Nat}, a.eval y = .slice ad m c → (execOp a.eval o).run P x.w = .ok (.value (goInt c)) x.w := fun he => by
    simp [execOp, ho, resolve, invoke, builtin, he, Builtin.cap_, run_underlying ht]
  have e1 : updρ x.ρ r (x.ρ r) = x.ρ := by funext q; unfold updρ; split <;> simp_all
  have fin0 : ∀ {ad : Option Addr}, a.eval y = .slice ad 0 0 → xs = [] → Row.rel x (x.ρ r) (.slf s []) → o.wp P a x.w (fun a' w' => ∃ σ' y, SRel e σ' y a' ∧ y.w = w' ∧ K σ') Q := by
    intro ad he hx hrel
    subst hx
    refine wp_value (hexec he) ?_
    rw [hdst]
    have h1 := h.widen (row' := .slf s []) (l' := x.ρ r) hm (Wd.refl _) (.inr rfl) (by rw [e1]; exact hrel)
    rw [e1] at h1
    have h2 := hK [] (fun _ h => by cases h)
    exact ⟨_, _, h1.put hd (v := vint .i64 ((([] : List PV).length + ([] : List PV).length : Nat) : Int)) (by simp only [vint, VRel, PRel]; rfl), rfl, h2⟩
  rcases hy with ⟨hn, hcp, ad, he⟩ | ⟨c, hok, he, hnc, hcap, hlen⟩
  · rcases hrow with ⟨h0, hx⟩ | ⟨h1, h0, ⟨h2, h3⟩, h4, h5, h6⟩
    · exact fin0 he hx (by simp only [Row.rel]; exact .inl ⟨h0, trivial⟩)
    · have := hcp h0
      have hx : xs = [] := List.eq_nil_of_length_eq_zero (by omega)
      subst hx
      exact fin0 he rfl (by simp only [Row.rel]; exact .inr ⟨h1, h0, ⟨h2, by simp at h3 ⊢; omega⟩, h4, h5, h6⟩)
  · rcases hrow with ⟨h0, hx⟩ | ⟨h1, h0, ⟨h2, h3⟩, h4, ⟨⟨L⟩, tb, hh, harr, hao⟩, h6⟩
    · rw [h0] at hok; cases hok
    have harr' : (x.ρ r).base + (x.ρ r).cap * s ≤ L.length := by rw [h1] at harr; simpa using harr
    have hmul : xs.length * s ≤ (x.ρ r).cap * s := Nat.mul_le_mul_right _ h3
    obtain ⟨sp, k1, k2, k3⟩ := chop s ((x.ρ r).cap - xs.length) ((L.drop ((x.ρ r).base + xs.length * s)).take (((x.ρ r).cap - xs.length) * s)) (by
        rw [List.length_take, List.length_drop, Nat.sub_mul]; omega) (fun c hc => hao c (List.mem_of_mem_drop (List.mem_of_mem_take hc)))
    have hcl : xs.length + sp.length = c := by omega
    refine wp_value (hexec he) ?_
    rw [hdst]
    have hrel : Row.rel ⟨x.w, x.F, updρ x.ρ r { x.ρ r with len := c }⟩ { x.ρ r with len := c } (.slf s (xs ++ sp)) := by
      simp only [Row.rel]
      refine .inr ⟨h1, h0, ⟨by rw [List.length_append]; omega, by rw [List.length_append]; omega⟩, h4.append k2, ⟨_, tb, hh, harr, hao⟩, ?_⟩
      rw [PElems.flat_iff, flat_append, k3, PCells.append_iff, flat_length h4]
      refine ⟨PElems.flat_iff.1 h6, PCells.of (rels_sc _) fun j v hj => ?_⟩
      rw [List.getElem?_take] at hj
      split at hj
      · rw [List.getElem?_drop] at hj
        simp only [World.cell?, hh]
        simpa using hj
      · cases hj
    have h7 := h.widen (row' := .slf s (xs ++ sp)) (l' := { x.ρ r with len := c }) hm ⟨rfl, rfl, rfl, rfl, rfl, by show (x.ρ r).len ≤ c; omega⟩ (.inl hrr) hrel
    have h8 := hK sp k2
    rw [hcl] at h8
    exact ⟨_, _, h7.put hd (v := vint .i64 ((c : Nat) : Int)) (by simp only [vint, VRel, PRel]; rfl), rfl, h8⟩

/-- the elements that a copy reads -/
def cpSrc (σ : St) : AV → Option (List PV)
  | .pv (.lst ps) => some ps
  | .row r off m => match stGet σ.st r with
    | some (.sl _ xs) => some ((xs.drop off).take m)
    | some (.slf _ xs) => some ((xs.drop off).take m)
    | _ => none
  | _ => none
theorem first_cells {w w' : World} {ad : Option Addr} {m c k s : Nat} {news : List Value} (hl : news.length = k * s) (h : ∃ b o', ad = some ⟨b, o', none⟩ ∧ CellsAt w b o' news) (hw : w'.heap = w.heap) :
    (Builtin.firstCells s k (.slice ad m c)).run P w' = .ok news.toArray w' := by
  obtain ⟨b, o', rfl, hc⟩ := h
  simp only [Builtin.firstCells, ← hl]
  exact run_loadCells b o' news fun j c hj => by
    have := hc j c hj
    simpa [World.cell?, hw] using this
/-- a row that is told, of either kind -/
theorem SRel.told (h : SRel e σ x a) {r s : Nat} {xs : List PV} (hr : stGet σ.st r = some (.sl s xs) ∨ stGet σ.st r = some (.slf s xs)) : Row.rel x (x.ρ r) (.sl s xs) := by
  rcases hr with hr | hr
  · exact h.st r _ (stGet_mem hr)
  · have := h.st r _ (stGet_mem hr)
    simp only [Row.rel] at this ⊢
    exact this.imp id fun ⟨h1, h2, h3, h4⟩ => ⟨h1, h2, ⟨h3.1, Nat.le_of_eq h3.2⟩, h4⟩
theorem cp_src (h : SRel e σ x a) {v : AV} {cv : Value} (hv : VRel x v cv) {ps : List PV} {s : Nat} (hp : cpSrc σ v = some ps) (hw : WfL s ps) (hrow : ∀ r off m, v = .row r off m → rowS (stGet σ.st r) = some s) {k : Nat} (hk : k ≤ ps.length) (hk0 : 0 < k) :
    ∃ news, (∀ w', w'.heap = x.w.heap → (Builtin.firstCells s k cv).run P w' = .ok news.toArray w') ∧ (∀ w', (Builtin.lenOf cv).run P w' = .ok ps.length w') ∧ PRels x.w x.F (flat (ps.take k)) news := by
  unfold cpSrc at hp
  have row : ∀ {r off m : Nat} {xs : List PV}, (stGet σ.st r = some (.sl s xs) ∨ stGet σ.st r = some (.slf s xs)) → VRel x (.row r off m) cv → ps = (xs.drop off).take m →
      ∃ news, (∀ w', w'.heap = x.w.heap → (Builtin.firstCells s k cv).run P w' = .ok news.toArray w') ∧ (∀ w', (Builtin.lenOf cv).run P w' = .ok ps.length w') ∧ PRels x.w x.F (flat (ps.take k)) news := by
    intro r off m xs hr hv he
    have h1 := h.told hr
    simp only [Row.rel] at h1
    simp only [VRel] at hv
    subst he
    rcases hv with ⟨rfl, _⟩ | ⟨c, hok, rfl, _, _, hl⟩
    · simp at hk; omega
    · rcases h1 with ⟨h1, _⟩ | ⟨hs, _, ⟨hln, _⟩, hwf, _, hE⟩
      · rw [h1] at hok; cases hok
      · rw [hln] at hl
        have hlen : ((xs.drop off).take m).length = m := by rw [List.length_take, List.length_drop]; omega
        rw [hlen] at hk ⊢
        obtain ⟨vs, h2, h3, h4⟩ := row_cells (m := k) hwf hE (show off + k ≤ xs.length by omega)
        rw [hs]
        exact ⟨vs, fun w' hw' => first_cells h4 ⟨_, _, rfl, h3⟩ hw', fun w' => by simp [Builtin.lenOf], by rw [List.take_take, Nat.min_eq_left hk]; exact h2⟩
  split at hp
  · rename_i qs
    injection hp with hp; subst hp
    simp only [VRel, PRel] at hv
    obtain ⟨ad, n, c, rfl, rfl, _, h3⟩ := hv
    obtain ⟨b, o', rfl, _, _, h4⟩ := h3 (by omega)
    have h4' := h4.take k
    rw [PElems.flat_iff] at h4'
    obtain ⟨vs, h5, h6⟩ := h4'.list
    exact ⟨vs, fun w' hw' => first_cells (by rw [h5.length, flat_length hw.take, List.length_take, Nat.min_eq_left hk]) ⟨b, o', rfl, h6⟩ hw', fun w' => by simp [Builtin.lenOf], h5⟩
  · rename_i r off m
    have h0 := hrow r off m rfl
    split at hp
    · rename_i s' xs hr
      injection hp with hp
      rw [hr] at h0
      injection h0 with h0; subst h0
      exact row (.inl hr) hv hp.symm
    · rename_i s' xs hr
      injection hp with hp
      rw [hr] at h0
      injection h0 with h0; subst h0
      exact row (.inr hr) hv hp.symm
    · cases hp
  · cases hp

/-- 'copy(dst, src)' into an own row -/
theorem l_cpy (h : SRel e σ x a) (d : Nat) (hd : d < e.n) (hdst : o.dst = some d) {t t2 et : TypeId} {yd ys : Operand} (ho : o.op = .call { callee := .builtin .copy, args := #[yd, ys], argTypes := #[t, t2] })
    {i : TypeInfo} (ht : P.underlying t = some (.slice et)) (hi : P.info? et = some i) {r off n m N : Nat} (hN : Nat.min m n = N) {xs ps : List PV} (hv : VRel x (.row r off n) (a.eval yd)) {news : List Value}
    (hfirst : ∀ w', w'.heap = x.w.heap → (Builtin.firstCells i.size N (a.eval ys)).run P w' = .ok news.toArray w') (hlen : ∀ w', (Builtin.lenOf (a.eval ys)).run P w' = .ok m w') (hpl : ps.length = N) (hpr : PRels x.w x.F (flat ps) news)
    (hw : WfL i.size ps) (hr : stGet σ.st r = some (.sl i.size xs)) (hn : 0 < n)
    {K : St → Prop} (hK : K (St.put ⟨σ.fr, (r, .sl i.size (laidAt xs off ps)) :: stDel σ.st r⟩ d (vint .i64 ((N : Nat) : Int)))) : ∀ Q, o.wp P a x.w (fun a' w' => ∃ σ' y, SRel e σ' y a' ∧ y.w = w' ∧ K σ') Q := by
  intro Q
  have hrow := h.st r _ (stGet_mem hr)
  simp only [Row.rel] at hrow
  simp only [VRel] at hv
  rcases hv with ⟨hn0, _⟩ | ⟨c, hlok, he, hnc, hcap, hlen'⟩
  · omega
  have hk : off + ps.length ≤ xs.length := by
    rcases hrow with ⟨h0, _⟩ | ⟨_, _, ⟨h1, _⟩, _⟩
    · rw [h0] at hlok; cases hlok
    · rw [h1] at hlen'; rw [hpl]; have : N ≤ n := hN ▸ Nat.min_le_right m n; omega
  obtain ⟨L, tb, hh, hls, hfit, hone, hrel⟩ := h.over hr hlok hw hk hpr
  have hst := run_storeCells (P := P) news x.w L ((x.ρ r).base + off * i.size) 0 hh (by omega) hone
  simp only [Nat.add_zero] at hst
  have hf := hfirst x.w rfl
  have hexec : (execOp a.eval o).run P x.w = .ok (.value (goInt N)) (setBlk x.w (x.ρ r).blk (layC L ((x.ρ r).base + off * i.size) news) tb) := by
    simp [execOp, ho, resolve, invoke, builtin, Builtin.copy_, run_underlying ht, sizeOf, typeInfo, hi, he, hlen, hN, hf, hls, hst]
  refine wp_value hexec ?_
  rw [hdst]
  exact ⟨_, _, hrel.put hd (v := vint .i64 ((N : Nat) : Int)) (by simp only [vint, VRel, PRel]; rfl), rfl, hK⟩

/-- 'append(base, src...)' where all that there is room for is told, and it is too little -/
theorem l_appf (h : SRel e σ x a) (d : Nat) (hd : d < e.n) (hdst : o.dst = some d) {t t2 et et2 : TypeId} {yb ys : Operand} (ho : o.op = .call { callee := .builtin .append, args := #[yb, ys], argTypes := #[t, t2] })
    {i : TypeInfo} {zv : Value} (ht : P.underlying t = some (.slice et)) (ht2 : P.underlying t2 = some (.slice et2)) (hi : P.info? et = some i) (hz : i.zero = some zv) (hzs : zv.cells.size = i.size) (hzo : ∀ c ∈ zv.cells.toList, c.oneCell' = true)
    {r off n : Nat} {vs : AV} {xs ps : List PV} (hb : VRel x (.row r off n) (a.eval yb)) (hs : VRel x vs (a.eval ys)) (hp : srcP σ vs = some ps) (hw : WfL i.size ps)
    (hrow : ∀ r off m, vs = .row r off m → ∃ xs, stGet σ.st r = some (.sl i.size xs)) (hr : stGet σ.st r = some (.slf i.size xs)) (hoff : off < xs.length) (hg : xs.length < off + n + ps.length)
    (hbytes : (n + ps.length) * i.bytes ≤ 140737488355328) (h63 : n + ps.length ≤ 9223372036854775807)
    {K : St → Prop} (hK : K ((St.newRow ⟨σ.fr, (r, .sl i.size xs) :: stDel σ.st r⟩ d (.sl i.size ((xs.drop off).take n ++ ps))).put d (.row d 0 (n + ps.length)))) : ∀ Q, o.wp P a x.w (fun a' w' => ∃ σ' y, SRel e σ' y a' ∧ y.w = w' ∧ K σ') Q := by
  intro Q
  obtain ⟨news, hsrc, hpr⟩ := src_of (P := P) h hs hp hw hrow
  have hexec : ∀ {w' : World} {v : Value}, (Builtin.append_ #[t, t2] o.type #[a.eval yb, a.eval ys]).run P x.w = .ok v w' → (execOp a.eval o).run P x.w = .ok (.value v) w' := fun hr => by
    simp [execOp, ho, resolve, invoke, builtin, hr]
  have hrel := h.st r _ (stGet_mem hr)
  simp only [Row.rel] at hrel
  simp only [VRel] at hb
  rcases hrel with ⟨_, h1⟩ | ⟨hls, hok, ⟨hln, hxc⟩, hwf, _, hE⟩
  · subst h1; simp at hoff
  rcases hb with ⟨hn0, hcp, ad, he⟩ | ⟨c, _, he, hnc, hcap, hlen⟩
  · have := hcp hok; omega
  rw [hln] at hlen
  obtain ⟨olds, ho1, ho2, ho3⟩ := row_cells hwf hE hlen
  have hxl : ((xs.drop off).take n).length = n := by rw [List.length_take, List.length_drop]; omega
  have hwo := (hwf.drop (n := off)).take (n := n)
  rw [he] at hexec
  rw [hls] at hexec
  have hold : Src P x.w i.size (.slice (some ⟨(x.ρ r).blk, (x.ρ r).base + off * i.size, none⟩) n c) n olds := Src.slice ho3 (fun _ => ⟨_, _, rfl, ho2⟩)
  have hpr2 := ho1.append hpr
  rw [← flat_append] at hpr2
  have hsum : olds.length + news.length = (n + ps.length) * i.size := by rw [ho3, hsrc.size, Nat.add_mul]
  have hr3 := run_app_grow (P := P) (ty := o.type) ht ht2 hi hz hold hsrc (by omega) h63 hbytes
  refine wp_value (hexec hr3) ?_
  rw [hdst]
  have hge := grownCap_ge x.w (n + ps.length) c et
  have htk : (olds ++ news ++ (Builtin.zeroCells zv.cells (grownCap x.w (n + ps.length) c et - (n + ps.length))).toList).take (((xs.drop off).take n ++ ps).length * i.size) = olds ++ news := by
    rw [List.length_append, hxl, ← hsum, ← List.length_append]; exact List.take_left
  refine app_fresh (h.weakF hr) hd (hwo.append hw) (by rw [htk]; exact hpr2) ?_ (fun c hc => (List.mem_append.1 hc).elim (hpr2.ones (flat_one (hwo.append hw)) c) (zero_ones _ hzo c)) (by rw [List.length_append, hxl]; exact hge) (by rw [List.length_append, hxl])
    (Nat.lt_of_lt_of_le hd (Nat.le_trans h.small (by omega))) hK
  have hzc := size_zeroCells zv.cells (grownCap x.w (n + ps.length) c et - (n + ps.length))
  simp only [List.length_append, Array.length_toList, hzc, hzs]
  rw [hsum, ← Nat.add_mul]
  congr 1; omega

theorem run_app_growz {w : World} {t t2 ty et : TypeId} {i : TypeInfo} {zv : Value} {kn k2 : IntKind} (ht : P.underlying t = some (.slice et)) (ht2 : P.underlying t2 = some (.int k2)) (hi : P.info? et = some i) (hz : i.zero = some zv)
    {ba : Option Addr} {n c m : Nat} {olds : List Value} (hold : Src P w i.size (.slice ba n c) n olds) (hm : 0 < m) (hs : 0 < i.size)
    (hg : c < n + m) (h63 : n + m ≤ 9223372036854775807) (hfit : (n + m) * i.bytes ≤ 140737488355328) :
    (Builtin.append_ #[t, t2] ty #[.slice ba n c, .int kn (m : Int)]).run P w = .ok (.slice (some ⟨w.heap.size, 0, none⟩) (n + m) (grownCap w (n + m) c et))
      (w.drew.alloc (.cells ⟨olds ++ (Builtin.zeroCells zv.cells m).toList ++ (Builtin.zeroCells zv.cells (grownCap w (n + m) c et - (n + m))).toList⟩ et)) := by
  have hn : ¬ (n + m ≤ c) := by omega
  have h63' : ¬ (9223372036854775807 < ((n : Int) + (m : Int))) := by omega
  have h48' : ¬ (281474976710656 < Builtin.nextslicecap (n + m) c * i.bytes) := by
    have := growslice_fits (need := n + m) (old := c) (bytes := i.bytes) hg hfit; omega
  have hw : IntKind.i64.wrap (m : Int) = m := by rw [IntKind.wrap_i64]; omega
  have h48i : ¬ (281474976710656 < (m : Int) * (i.bytes : Int)) := by
    rw [← Int.natCast_mul]
    have : m * i.bytes ≤ (n + m) * i.bytes := Nat.mul_le_mul_right _ (by omega)
    omega
  have hneg : ¬ ((m : Int) < 0) := by omega
  have hns : ¬ (m * i.size = 0) := Nat.mul_ne_zero (by omega) (by omega)
  have hm0 : ¬ (m = 0) := by omega
  have hs0 : ¬ (i.size = 0) := by omega
  have hfo := hold.here w.drew rfl
  simp [Builtin.append_, run_underlying ht, run_underlying ht2, sizeOf, typeInfo, zeroValue, hi, hz, asInt, asIntOf, hw, hn, hneg, hns, hm0, hs0, h63', h48', h48i, Question.forced, hfo, newRow, grownCap]
  congr 2
  apply Array.ext'
  simp
/-- 'append(base, make([]T, k)...)' where all that there is room for is told, and it is too little -/
theorem l_appz (h : SRel e σ x a) (d : Nat) (hd : d < e.n) (hdst : o.dst = some d) {t t2 et : TypeId} {yb ys : Operand} {k2 kn : IntKind} (ho : o.op = .call { callee := .builtin .append, args := #[yb, ys], argTypes := #[t, t2] })
    {i : TypeInfo} {zv : Value} (ht : P.underlying t = some (.slice et)) (ht2 : P.underlying t2 = some (.int k2)) (hi : P.info? et = some i) (hz : i.zero = some zv) (hzs : zv.cells.size = i.size) (hzo : ∀ c ∈ zv.cells.toList, c.oneCell' = true) (hs0 : 0 < i.size)
    {p : PV} (hp : ∀ (w : World) (F : Nat → Prop), PRels w F p.cells zv.cells.toList) (hp1 : ∀ c ∈ p.cells, c.one = true)
    {r off n : Nat} {m : Int} {xs : List PV} (hb : VRel x (.row r off n) (a.eval yb)) (hs : a.eval ys = .int kn m) (hm : 0 < m)
    (hr : stGet σ.st r = some (.slf i.size xs)) (hoff : off < xs.length) (hg : xs.length < off + n + m.toNat)
    (hbytes : (n + m.toNat) * i.bytes ≤ 140737488355328) (h63 : n + m.toNat ≤ 9223372036854775807)
    {K : St → Prop} (hK : K ((St.newRow ⟨σ.fr, (r, .sl i.size xs) :: stDel σ.st r⟩ d (.sl i.size ((xs.drop off).take n ++ List.replicate m.toNat p))).put d (.row d 0 (n + m.toNat)))) : ∀ Q, o.wp P a x.w (fun a' w' => ∃ σ' y, SRel e σ' y a' ∧ y.w = w' ∧ K σ') Q := by
  intro Q
  obtain ⟨k, rfl⟩ : ∃ k : Nat, m = (k : Int) := ⟨m.toNat, by omega⟩
  simp only [Int.toNat_natCast] at *
  have hexec : ∀ {w' : World} {v : Value}, (Builtin.append_ #[t, t2] o.type #[a.eval yb, a.eval ys]).run P x.w = .ok v w' → (execOp a.eval o).run P x.w = .ok (.value v) w' := fun hr => by
    simp [execOp, ho, resolve, invoke, builtin, hr]
  have hrel := h.st r _ (stGet_mem hr)
  simp only [Row.rel] at hrel
  simp only [VRel] at hb
  rcases hrel with ⟨_, h1⟩ | ⟨hls, hok, ⟨hln, hxc⟩, hwf, _, hE⟩
  · subst h1; simp at hoff
  rcases hb with ⟨hn0, hcp, ad, he⟩ | ⟨c, _, he, hnc, hcap, hlen⟩
  · have := hcp hok; omega
  rw [hln] at hlen
  obtain ⟨olds, ho1, ho2, ho3⟩ := row_cells hwf hE hlen
  have hxl : ((xs.drop off).take n).length = n := by rw [List.length_take, List.length_drop]; omega
  have hwo := (hwf.drop (n := off)).take (n := n)
  have hpl : p.cells.length = i.size := by have := (hp x.w x.F).length; rw [← this]; simpa using hzs
  have hw : WfL i.size (List.replicate k p) := fun q hq => by rw [(List.mem_replicate.1 hq).2]; exact ⟨hpl, hp1⟩
  have hpr : PRels x.w x.F (flat (List.replicate k p)) (Builtin.zeroCells zv.cells k).toList := by
    rw [flat_replicate, zero_list]
    exact rels_replicate (hp x.w x.F) k
  rw [he, hs] at hexec
  rw [hls] at hexec
  have hold : Src P x.w i.size (.slice (some ⟨(x.ρ r).blk, (x.ρ r).base + off * i.size, none⟩) n c) n olds := Src.slice ho3 (fun _ => ⟨_, _, rfl, ho2⟩)
  have hpr2 := ho1.append hpr
  rw [← flat_append] at hpr2
  have hnl : (Builtin.zeroCells zv.cells k).toList.length = k * i.size := by rw [Array.length_toList, size_zeroCells, hzs]
  have hsum : olds.length + (Builtin.zeroCells zv.cells k).toList.length = (n + k) * i.size := by rw [ho3, hnl, Nat.add_mul]
  have hr3 := run_app_growz (P := P) (ty := o.type) (kn := kn) ht ht2 hi hz hold (by omega) hs0 (by omega) h63 hbytes
  refine wp_value (hexec hr3) ?_
  rw [hdst]
  have hge := grownCap_ge x.w (n + k) c et
  have hl2 : ((xs.drop off).take n ++ List.replicate k p).length = n + k := by rw [List.length_append, hxl, List.length_replicate]
  have htk : (olds ++ (Builtin.zeroCells zv.cells k).toList ++ (Builtin.zeroCells zv.cells (grownCap x.w (n + k) c et - (n + k))).toList).take (((xs.drop off).take n ++ List.replicate k p).length * i.size) = olds ++ (Builtin.zeroCells zv.cells k).toList := by
    rw [hl2, ← hsum, ← List.length_append]; exact List.take_left
  refine app_fresh (h.weakF hr) hd (hwo.append hw) (by rw [htk]; exact hpr2) ?_ (fun c hc => (List.mem_append.1 hc).elim (hpr2.ones (flat_one (hwo.append hw)) c) (zero_ones _ hzo c)) (by rw [hl2]; exact hge) hl2.symm
    (Nat.lt_of_lt_of_le hd (Nat.le_trans h.small (by omega))) hK
  have hzc := size_zeroCells zv.cells (grownCap x.w (n + k) c et - (n + k))
  simp only [List.length_append, Array.length_toList, hzc, hzs]
  simp only [Array.length_toList] at hsum
  rw [hsum, ← Nat.add_mul]
  congr 1; omega

end
end Go.Vc

namespace Go.Vc
open Go.RowKit

/-! ## Calls -/
/-- the function has a body, and is entered -/
def Enters (P : Program) (f : FuncId) : Prop := ∀ (args : Array Value) (w : World), (callFunc f args).run P w = .ok (.enter f args) w
theorem enters_of {P : Program} {f : FuncId} {fn : Func} {c : Code} (hf : P.funcs[f]? = some fn) (hn : (fn.name == "runtime.NumGoroutine") = false) (hb : fn.body = some c) : Enters P f := fun args w => by
  simp [callFunc, hf, hb]
  intro h
  simp [h] at hn

/-- a result: its value, and the rows that are handed over with it -/
structure Res (w : World) (F : Nat → Prop) (y : Cx) (v : AV) (rs : List (Nat × List PV)) (cv : Value) : Prop where
  below : Below w.heap.size w y.w
  val : VRel y v cv
  rows : ∀ i s xs, rs[i]? = some (s, xs) → (Row.sl s xs).rel y (y.ρ i)
  inj : ∀ i j, i < rs.length → j < rs.length → i ≠ j → (y.ρ i).ok = true → (y.ρ j).ok = true → (y.ρ i).blk ≠ (y.ρ j).blk
  fresh : ∀ i, i < rs.length → (y.ρ i).ok = true → w.heap.size ≤ (y.ρ i).blk
  F : ∀ b, y.F b ↔ F b ∨ ∃ i, i < rs.length ∧ (y.ρ i).ok = true ∧ (y.ρ i).blk = b

/-- **THE CONTRACT OF A Go FUNCTION**: called with values that read as these, it returns a value that reads as v; nothing that was there has turned. -/
def Fn (P : Program) (f : FuncId) (args : List PV) (v : AV) (rs : List (Nat × List PV)) : Prop :=
  Enters P f ∧ ∀ (w : World) (F : Nat → Prop) (vs : List Value), (∀ b, F b → b < w.heap.size) → Tabs P w F → PRels w F args vs →
    Calls P f ⟨vs⟩ w fun en w' => ∃ cv y, en = .returned cv ∧ y.w = w' ∧ Res w F y v rs cv

/-! ### what is handed to a callee -/
def snapL (g : AV → Option PV) : List AV → Option (List PV)
  | [] => some []
  | v :: vs => match g v, snapL g vs with
    | some p, some ps => some (p :: ps)
    | _, _ => none
def snap (st : List (Nat × Row)) : Nat → AV → Option PV
  | 0, _ => none
  | k + 1, v => match v with
    | .pv p => some p
    | .e0 => some (.lst [])
    | .agg cs => match snapL (snap st k) cs with
      | some ps => some (.agg ps)
      | none => none
    | .tup cs => match snapL (snap st k) cs with
      | some ps => some (.tup ps)
      | none => none
    | .fn f cs => match snapL (snap st k) cs with
      | some ps => some (.fn f ps)
      | none => none
    | .row r off n => match stGet st r with
      | some (.sl _ xs) => some (.lst ((xs.drop off).take n))
      | _ => none
    | .ptr r 0 => match stGet st r with
      | some (.box cs) => match snapL (snap st k) cs with
        | some ps => some (.pt ps)
        | none => none
      | _ => none
    | .cptr cs 0 => some (.pt cs)
    | _ => none

/-- nothing of the own rows in it -/
def AV.pure : AV → Bool
  | .pv _ | .e0 => true
  | _ => false
def allPure : List AV → Bool
  | [] => true
  | v :: vs => v.pure && allPure vs

section
variable {P : Program} {e : Env} {σ : St} {x : Cx} {a : Act} {o : Oper}

theorem PRel.weak {w : World} {F : Nat → Prop} {p : PV} {v : Value} (h : PRel w F p v) : PRel w (fun _ => False) p v :=
  PRel.kept (x := ⟨w, F, fun _ => default⟩) (y := ⟨w, fun _ => False, fun _ => default⟩) ⟨Nat.le_refl _, fun _ _ _ => rfl, fun _ _ h => h.elim⟩ p h
theorem PElems.weak {w : World} {F : Nat → Prop} {ps : List PV} {b o' : Nat} (h : PElems w F ps b o') : PElems w (fun _ => False) ps b o' :=
  PElems.kept (x := ⟨w, F, fun _ => default⟩) (y := ⟨w, fun _ => False, fun _ => default⟩) ⟨Nat.le_refl _, fun _ _ _ => rfl, fun _ _ h => h.elim⟩ ps (fun h => h) h
theorem PCells.weak {w : World} {F : Nat → Prop} {ps : List PV} {b o' : Nat} (h : PCells w F ps b o') : PCells w (fun _ => False) ps b o' :=
  PCells.kept (x := ⟨w, F, fun _ => default⟩) (y := ⟨w, fun _ => False, fun _ => default⟩) ⟨Nat.le_refl _, fun _ _ _ => rfl, fun _ _ h => h.elim⟩ ps (fun h => h) h

theorem snapL_rel {g : AV → Option PV} (hg : ∀ v p cv, g v = some p → VRel x v cv → PRel x.w (fun _ => False) p cv) : ∀ {vs : List AV} {ps : List PV} {cvs : List Value}, snapL g vs = some ps → VRels x vs cvs → PRels x.w (fun _ => False) ps cvs
  | [], _, _, h, hv => by simp only [snapL, Option.some.injEq] at h; subst h; simpa only [VRels, PRels] using hv
  | v :: vs, ps, cvs, h, hv => by
    simp only [snapL] at h
    split at h
    · rename_i p qs h1 h2
      injection h with h; subst h
      simp only [VRels] at hv
      obtain ⟨c, r, rfl, h3, h4⟩ := hv
      simp only [PRels]
      exact ⟨c, r, rfl, hg _ _ _ h1 h3, snapL_rel hg h2 h4⟩
    · cases h

theorem snap_rel (h : SRel e σ x a) : ∀ (k : Nat) (v : AV) (p : PV) (cv : Value), snap σ.st k v = some p → VRel x v cv → PRel x.w (fun _ => False) p cv
  | 0, v, p, cv, hs, _ => by simp [snap] at hs
  | k + 1, v, p, cv, hs, hv => by
    have ih : ∀ {vs : List AV} {ps : List PV} {cvs : List Value}, snapL (snap σ.st k) vs = some ps → VRels x vs cvs → PRels x.w (fun _ => False) ps cvs := fun h1 h2 => snapL_rel (x := x) (g := snap σ.st k) (fun v p cv h1 h2 => snap_rel h k v p cv h1 h2) h1 h2
    unfold snap at hs
    split at hs
    · injection hs with hs; subst hs; simp only [VRel] at hv; exact hv.weak
    · injection hs with hs; subst hs
      simp only [VRel] at hv
      obtain ⟨ad, rfl⟩ := hv
      simp only [PRel]
      exact ⟨ad, 0, 0, rfl, rfl, Nat.le_refl _, fun hn => absurd hn (by omega)⟩
    · split at hs
      · rename_i ps hps
        injection hs with hs; subst hs
        simp only [VRel] at hv
        obtain ⟨vs, rfl, hv⟩ := hv
        simp only [PRel]
        exact ⟨vs, rfl, ih hps hv⟩
      · cases hs
    · split at hs
      · rename_i ps hps
        injection hs with hs; subst hs
        simp only [VRel] at hv
        obtain ⟨vs, rfl, hv⟩ := hv
        simp only [PRel]
        exact ⟨vs, rfl, ih hps hv⟩
      · cases hs
    · split at hs
      · rename_i ps hps
        injection hs with hs; subst hs
        simp only [VRel] at hv
        obtain ⟨vs, rfl, hv⟩ := hv
        simp only [PRel]
        exact ⟨vs, rfl, ih hps hv⟩
      · cases hs
    · rename_i r off n
      split at hs
      · rename_i s xs hr
        injection hs with hs; subst hs
        have h1 := h.st r _ (stGet_mem hr)
        simp only [Row.rel] at h1
        simp only [VRel] at hv
        simp only [PRel]
        rcases hv with ⟨rfl, _, ad, rfl⟩ | ⟨c, hok, rfl, h2, h3, h4⟩
        · exact ⟨ad, 0, 0, rfl, by simp, Nat.le_refl _, fun hn => absurd hn (by omega)⟩
        · rcases h1 with ⟨h1, _⟩ | ⟨hs, _, ⟨hln, _⟩, hwf, ⟨arr, et, hh, _⟩, hE⟩
          · rw [h1] at hok; cases hok
          · rw [hln] at h4
            refine ⟨_, n, c, rfl, by rw [List.length_take, List.length_drop]; omega, h2, fun _ => ⟨_, _, rfl, (Array.getElem?_eq_some_iff.1 hh).1, fun h => h, ?_⟩⟩
            rw [hs]
            exact ((hE.drop off (fun p hp => (hwf p hp).1) (by omega)).take n).weak
      · cases hs
    · rename_i r
      split at hs
      · rename_i cs hr
        split at hs
        · rename_i ps hps
          injection hs with hs; subst hs
          have h1 := h.st r _ (stGet_mem hr)
          simp only [Row.rel] at h1
          obtain ⟨hok, ⟨arr, et, hh, _⟩, hc⟩ := h1
          simp only [VRel] at hv
          subst hv
          simp only [PRel]
          obtain ⟨vs, h2, h3⟩ := hc.list
          exact ⟨_, _, rfl, (Array.getElem?_eq_some_iff.1 hh).1, fun h => h, PCells.of (ih hps h2) h3⟩
        · cases hs
      · cases hs
    · injection hs with hs; subst hs
      simp only [VRel] at hv
      obtain ⟨b, o', rfl, h1, h2, h3⟩ := hv
      simp only [PRel]
      exact ⟨b, o', rfl, h1, fun h => h, h3.weak⟩
    · cases hs

theorem snap_pure : ∀ {vs : List AV} {ps : List PV} {cvs : List Value} {st : List (Nat × Row)} {k : Nat}, allPure vs = true → snapL (snap st k) vs = some ps → VRels x vs cvs → PRels x.w x.F ps cvs
  | [], _, _, _, _, _, h, hv => by simp only [snapL, Option.some.injEq] at h; subst h; simpa only [VRels, PRels] using hv
  | v :: vs, ps, cvs, st, k, hp, h, hv => by
    simp only [snapL] at h
    split at h
    · rename_i p qs h1 h2
      injection h with h; subst h
      simp only [VRels] at hv
      obtain ⟨c, r, rfl, h3, h4⟩ := hv
      simp only [allPure, Bool.and_eq_true] at hp
      simp only [PRels]
      refine ⟨c, r, rfl, ?_, snap_pure hp.2 h2 h4⟩
      cases k with
      | zero => simp [snap] at h1
      | succ k =>
        cases v with
        | pv q => simp only [snap, Option.some.injEq] at h1; subst h1; simpa only [VRel] using h3
        | e0 =>
          simp only [snap, Option.some.injEq] at h1; subst h1
          simp only [VRel] at h3
          obtain ⟨ad, rfl⟩ := h3
          simp only [PRel]
          exact ⟨ad, 0, 0, rfl, rfl, Nat.le_refl _, fun hn => absurd hn (by omega)⟩
        | _ => simp [AV.pure] at hp
    · cases h

/-! ### results without an address but into new rows: such a callee may be lent own rows -/
mutual
def PV.flat : PV → Bool
  | .sc _ => true
  | .agg cs => PV.flats cs
  | .tup cs => PV.flats cs
  | .lst [] => true
  | .lst (_ :: _) => false
  | .fn _ cs => PV.flats cs
  | .pt _ => false
def PV.flats : List PV → Bool
  | [] => true
  | p :: ps => p.flat && PV.flats ps
end
mutual
def AV.flat : AV → Bool
  | .pv p => p.flat
  | .e0 => true
  | .row _ _ _ => true
  | .agg cs => AV.flats cs
  | .tup cs => AV.flats cs
  | _ => false
def AV.flats : List AV → Bool
  | [] => true
  | p :: ps => p.flat && AV.flats ps
end
/-- the rows, too, hold no address -/
def flatRows : List (Nat × List PV) → Prop
  | [] => True
  | (_, xs) :: r => (∀ p ∈ xs, p.flat = true) ∧ flatRows r

mutual
theorem PRel.flat {w : World} {F G : Nat → Prop} : ∀ (p : PV) {v : Value}, p.flat = true → PRel w F p v → PRel w G p v
  | .sc _, _, _, h => by simpa only [PRel] using h
  | .agg cs, _, hf, h => by
    simp only [PRel, PV.flat] at h hf ⊢
    obtain ⟨vs, e, h⟩ := h; exact ⟨vs, e, PRels.flat cs hf h⟩
  | .tup cs, _, hf, h => by
    simp only [PRel, PV.flat] at h hf ⊢
    obtain ⟨vs, e, h⟩ := h; exact ⟨vs, e, PRels.flat cs hf h⟩
  | .lst [], _, _, h => by
    simp only [PRel] at h ⊢
    obtain ⟨a, n, c, e, h1, h2, _⟩ := h
    exact ⟨a, n, c, e, h1, h2, fun hn => absurd hn (by simp at h1; omega)⟩
  | .lst (_ :: _), _, hf, _ => by simp [PV.flat] at hf
  | .fn _ cs, _, hf, h => by
    simp only [PRel, PV.flat] at h hf ⊢
    obtain ⟨vs, e, h⟩ := h; exact ⟨vs, e, PRels.flat cs hf h⟩
  | .pt _, _, hf, _ => by simp [PV.flat] at hf
theorem PRels.flat {w : World} {F G : Nat → Prop} : ∀ (ps : List PV) {vs : List Value}, PV.flats ps = true → PRels w F ps vs → PRels w G ps vs
  | [], _, _, h => by simpa only [PRels] using h
  | p :: ps, _, hf, h => by
    simp only [PRels, PV.flats, Bool.and_eq_true] at h hf ⊢
    obtain ⟨v, r, e, h1, h2⟩ := h
    exact ⟨v, r, e, PRel.flat p hf.1 h1, PRels.flat ps hf.2 h2⟩
end
mutual
theorem VRel.flat {x y : Cx} (hw : y.w = x.w) (hρ : y.ρ = x.ρ) : ∀ (p : AV) {v : Value}, p.flat = true → VRel x p v → VRel y p v
  | .pv p, _, hf, h => by
    simp only [VRel, AV.flat] at h hf ⊢
    rw [hw]; exact PRel.flat p hf h
  | .e0, _, _, h => by simpa only [VRel] using h
  | .row _ _ _, _, _, h => by simp only [VRel, hρ] at h ⊢; exact h
  | .agg cs, _, hf, h => by
    simp only [VRel, AV.flat] at h hf ⊢
    obtain ⟨vs, e, h⟩ := h; exact ⟨vs, e, VRels.flat hw hρ cs hf h⟩
  | .tup cs, _, hf, h => by
    simp only [VRel, AV.flat] at h hf ⊢
    obtain ⟨vs, e, h⟩ := h; exact ⟨vs, e, VRels.flat hw hρ cs hf h⟩
  | .un, _, hf, _ | .lit _, _, hf, _ | .ptr _ _, _, hf, _ | .rptr _ _ _, _, hf, _ | .eptr _ _ _, _, hf, _ | .cptr _ _, _, hf, _ | .fn _ _, _, hf, _ | .mp _, _, hf, _ | .it _, _, hf, _ | .whn _ _, _, hf, _ => by simp [AV.flat] at hf
theorem VRels.flat {x y : Cx} (hw : y.w = x.w) (hρ : y.ρ = x.ρ) : ∀ (ps : List AV) {vs : List Value}, AV.flats ps = true → VRels x ps vs → VRels y ps vs
  | [], _, _, h => by simpa only [VRels] using h
  | p :: ps, _, hf, h => by
    simp only [VRels, AV.flats, Bool.and_eq_true] at h hf ⊢
    obtain ⟨v, r, e, h1, h2⟩ := h
    exact ⟨v, r, e, VRel.flat hw hρ p hf.1 h1, VRels.flat hw hρ ps hf.2 h2⟩
end
theorem PCells.flat {w : World} {F G : Nat → Prop} : ∀ {ps : List PV} {b o' : Nat}, PV.flats ps = true → PCells w F ps b o' → PCells w G ps b o'
  | [], _, _, _, _ => by simp only [PCells]
  | p :: ps, b, o', hf, h => by
    simp only [PCells, PV.flats, Bool.and_eq_true] at h hf ⊢
    obtain ⟨⟨v, h1, h2⟩, h3⟩ := h
    exact ⟨⟨v, h1, PRel.flat p hf.1 h2⟩, h3.flat hf.2⟩
theorem cells_flat (p : PV) (h : p.flat = true) : PV.flats p.cells = true := by
  have one : ∀ q : PV, q.flat = true → PV.flats [q] = true := fun q hq => by simp only [PV.flats, hq, Bool.and_true]
  match p, h with
  | .agg cs, h => simpa only [PV.flat, PV.cells] using h
  | .sc v, h => exact one _ h
  | .tup cs, h => exact one _ h
  | .lst xs, h => exact one _ h
  | .fn f cs, h => exact one _ h
  | .pt cs, h => exact one _ h

theorem PElems.flat {w : World} {F G : Nat → Prop} {ps : List PV} {b o' : Nat} (hf : ∀ p ∈ ps, p.flat = true) (h : PElems w F ps b o') : PElems w G ps b o' := by
  induction ps generalizing o' with
  | nil => simp only [PElems]
  | cons p ps ih =>
    rw [PElems.cons_iff] at h ⊢
    exact ⟨PCells.flat (cells_flat p (hf p (by simp))) h.1, ih (fun q hq => hf q (List.mem_cons_of_mem _ hq)) h.2⟩

theorem flatRows_at : ∀ {rs : List (Nat × List PV)} {i s : Nat} {xs : List PV}, flatRows rs → rs[i]? = some (s, xs) → ∀ p ∈ xs, p.flat = true
  | [], _, _, _, _, h => by simp at h
  | (s', xs') :: r, 0, s, xs, hf, h => by
    simp only [List.getElem?_cons_zero, Option.some.injEq, Prod.mk.injEq] at h
    simp only [flatRows] at hf
    rw [← h.2]; exact hf.1
  | (s', xs') :: r, i + 1, s, xs, hf, h => by
    simp only [flatRows] at hf
    exact flatRows_at hf.2 (by simpa using h)

/-- the result, under other barred blocks that were there before the call -/
theorem Res.flat {w : World} {F G : Nat → Prop} {y : Cx} {v : AV} {rs : List (Nat × List PV)} {cv : Value} (h : Res w F y v rs cv) (hv : v.flat = true) (hr : flatRows rs) :
    Res w G ⟨y.w, fun b => G b ∨ ∃ i, i < rs.length ∧ (y.ρ i).ok = true ∧ (y.ρ i).blk = b, y.ρ⟩ v rs cv where
  below := h.below
  val := VRel.flat (x := y) (y := ⟨y.w, fun b => G b ∨ ∃ i, i < rs.length ∧ (y.ρ i).ok = true ∧ (y.ρ i).blk = b, y.ρ⟩) rfl rfl v hv h.val
  rows := fun i s xs hi => by
    have := h.rows i s xs hi
    simp only [Row.rel] at this ⊢
    exact this.imp id fun ⟨h1, h2, h3, h4, h5, h6⟩ => ⟨h1, h2, h3, h4, h5, h6.flat (flatRows_at hr hi)⟩
  inj := h.inj
  fresh := h.fresh
  F := fun b => Iff.rfl
end
end Go.Vc

namespace Go.Vc
open Go.RowKit

mutual
/-- a result's only row gets the name r -/
def AV.ren (r : Nat) : AV → AV
  | .pv p => .pv p
  | .e0 => .e0
  | .agg cs => .agg (AV.rens r cs)
  | .tup cs => .tup (AV.rens r cs)
  | .row q off n => if q = 0 then .row r off n else .un
  | _ => .un
def AV.rens (r : Nat) : List AV → List AV
  | [] => []
  | v :: vs => v.ren r :: AV.rens r vs
end
/-- the name of the row that a call hands over -/
def rowName (d : Nat) : Nat := 1000 + d
/-- behind a call -/
def St.after (σ : St) (d : Nat) (v : AV) : List (Nat × List PV) → St
  | [] => σ.put d (v.ren 0)
  | (s, xs) :: _ => (σ.newRow (rowName d) (.sl s xs)).put d (v.ren (rowName d))
/-- no row is meant where none is handed over -/
def AV.isPv : AV → Prop
  | .pv _ => True
  | _ => False
def okRows (v : AV) : List (Nat × List PV) → Prop
  | [] => v.isPv
  | [_] => True
  | _ => False

def calleeOf : AV → Option (FuncId × List AV)
  | .fn g caps => some (g, caps)
  | .pv (.fn g ps) => some (g, ps.map .pv)
  | _ => none

section
variable {P : Program} {e : Env} {σ : St} {x : Cx} {a : Act} {o : Oper}

mutual
theorem VRel.ren {y z : Cx} (hw : z.w = y.w) (hF : ∀ b, z.F b → y.F b) {r : Nat} (hρ : z.ρ r = y.ρ 0) : ∀ (v : AV) {cv : Value}, VRel y v cv → VRel z (v.ren r) cv
  | .pv p, _, h => by
    simp only [VRel, AV.ren] at h ⊢
    exact PRel.kept (x := y) (y := z) ⟨by rw [hw]; exact Nat.le_refl _, fun b _ _ => by rw [hw], fun b _ hb => hF b hb⟩ p h
  | .e0, _, h => by simpa only [VRel, AV.ren] using h
  | .agg cs, _, h => by
    simp only [VRel, AV.ren] at h ⊢
    obtain ⟨vs, e, h⟩ := h; exact ⟨vs, e, VRels.ren hw hF hρ cs h⟩
  | .tup cs, _, h => by
    simp only [VRel, AV.ren] at h ⊢
    obtain ⟨vs, e, h⟩ := h; exact ⟨vs, e, VRels.ren hw hF hρ cs h⟩
  | .row q off n, _, h => by
    simp only [AV.ren]
    split
    · rename_i hq; subst hq; simp only [VRel, hρ] at h ⊢; exact h
    · simp only [VRel]
  | .un, _, _ | .lit _, _, _ | .ptr _ _, _, _ | .rptr _ _ _, _, _ | .eptr _ _ _, _, _ | .cptr _ _, _, _ | .fn _ _, _, _ | .mp _, _, _ | .it _, _, _ | .whn _ _, _, _ => by simp only [AV.ren, VRel]
theorem VRels.ren {y z : Cx} (hw : z.w = y.w) (hF : ∀ b, z.F b → y.F b) {r : Nat} (hρ : z.ρ r = y.ρ 0) : ∀ (vs : List AV) {cvs : List Value}, VRels y vs cvs → VRels z (AV.rens r vs) cvs
  | [], _, h => by simpa only [VRels, AV.rens] using h
  | v :: vs, _, h => by
    simp only [VRels, AV.rens] at h ⊢
    obtain ⟨c, q, e, h1, h2⟩ := h
    exact ⟨c, q, e, VRel.ren hw hF hρ v h1, VRels.ren hw hF hρ vs h2⟩
end

/-- the state behind a call whose result is known -/
theorem after_res (h : SRel e σ x a) {d : Nat} (hd : d < e.n) {y : Cx} {v : AV} {rs : List (Nat × List PV)} {cv : Value} (hr : Res x.w x.F y v rs cv) (hok : okRows v rs) :
    ∃ z, SRel e (σ.after d v rs) z (a.put (some d) cv) ∧ z.w = y.w := by
  match rs, hok with
  | _ :: _ :: _, hok => exact (show False by simp only [okRows] at hok).elim
  | [], hok =>
    have hp : ∃ p, v = .pv p := by
      simp only [okRows] at hok
      cases v <;> simp only [AV.isPv] at hok
      exact ⟨_, rfl⟩
    obtain ⟨p, rfl⟩ := hp
    refine ⟨⟨y.w, x.F, x.ρ⟩, h.value_ext hr.below hd ?_, rfl⟩
    have hv := hr.val
    simp only [VRel, AV.ren] at hv ⊢
    exact PRel.kept (x := y) (y := ⟨y.w, x.F, x.ρ⟩) ⟨Nat.le_refl _, fun _ _ _ => rfl, fun b _ hb => (hr.F b).2 (.inl hb)⟩ p hv
  | [(s, xs)], _ =>
    have hrow := hr.rows 0 s xs rfl
    have hfr : (y.ρ 0).ok = true → x.w.heap.size ≤ (y.ρ 0).blk := hr.fresh 0 (by simp)
    have hFy : ∀ b, (newCx e σ x y.w (rowName d) (.sl s xs) (y.ρ 0)).F b → y.F b := fun b hb => by
      rcases hb with h0 | ⟨q, rw', hm, hqo, hqb⟩
      · exact (hr.F b).2 (.inl ((h.F b).2 (.inl h0)))
      · rcases List.mem_cons.1 hm with hm | hm
        · injection hm with h1 _
          subst h1
          simp only [updρ, if_true] at hqo hqb
          exact (hr.F b).2 (.inr ⟨0, by simp, hqo, hqb⟩)
        · obtain ⟨u, h1, _⟩ := stClip_mem hm
          obtain ⟨h3, h4⟩ := stDel_mem h1
          simp only [updρ, if_neg h4] at hqo hqb
          exact (hr.F b).2 (.inl ((h.F b).2 (.inr ⟨q, u, h3, hqo, hqb⟩)))
    have h1 := SRel.fresh h hr.below (rowName d) (.sl s xs) (y.ρ 0) hfr (by
      simp only [Row.rel] at hrow ⊢
      refine hrow.imp id fun ⟨g1, g2, g3, g4, g5, g6⟩ => ⟨g1, g2, g3, g4, g5, ?_⟩
      exact PElems.kept (x := y) (y := newCx e σ x y.w (rowName d) (.sl s xs) (y.ρ 0)) ⟨Nat.le_refl _, fun _ _ _ => rfl, fun b _ hb => hFy b hb⟩ xs (fun hc => hc) g6) (by have := h.small; simp only [rowName]; omega)
    refine ⟨newCx e σ x y.w (rowName d) (.sl s xs) (y.ρ 0), h1.put hd (v := v.ren (rowName d)) ?_, rfl⟩
    exact VRel.ren (y := y) (z := newCx e σ x y.w (rowName d) (.sl s xs) (y.ρ 0)) rfl hFy (by simp [newCx, updρ]) v hr.val


theorem VRels.append : ∀ {us vs : List AV} {as bs : List Value}, VRels x us as → VRels x vs bs → VRels x (us ++ vs) (as ++ bs)
  | [], _, _, _, h, k => by simp only [VRels] at h; subst h; simpa using k
  | u :: us, vs, _, bs, h, k => by
    simp only [VRels] at h
    obtain ⟨v, r, rfl, h1, h2⟩ := h
    simp only [List.cons_append, VRels]
    exact ⟨v, r ++ bs, rfl, h1, h2.append k⟩

/-- A CALL, MET BY ITS CONTRACT -/
theorem l_call [EP e P] (h : SRel e σ x a) (d : Nat) (hd : d < e.n) (hdst : o.dst = some d) {yf : Operand} {ys : Array Operand} {ts : Array TypeId} (ho : o.op = .call { callee := .value yf, args := ys, argTypes := ts })
    {vf : AV} (hf : VRel x vf (a.eval yf)) {g : FuncId} {caps : List AV} (hg : calleeOf vf = some (g, caps)) {zs : List Opd} (hz : opdsOf ys.toList = some zs) (hc : cds σ zs = true)
    {ps : List PV} (hs : snapL (snap σ.st 4) (evs σ zs ++ caps) = some ps) {v : AV} {rs : List (Nat × List PV)} (hF : Fn P g ps v rs) (hfl : allPure (evs σ zs ++ caps) = true ∨ (v.flat = true ∧ flatRows rs)) (hok : okRows v rs)
    {K : St → Prop} (hK : K (σ.after d v rs)) : LStep P e o a x.w K := by
  intro Q
  have hargs := opds_rel h hz hc
  have hcaps : ∃ cvs : List Value, a.eval yf = .func (.func g) #[] ⟨cvs⟩ ∧ VRels x caps cvs := by
    unfold calleeOf at hg
    split at hg
    · injection hg with hg; injection hg with h1 h2; subst h1; subst h2
      simp only [VRel] at hf
      exact hf
    · injection hg with hg; injection hg with h1 h2; subst h1; subst h2
      simp only [VRel, PRel] at hf
      obtain ⟨vs, e1, h1⟩ := hf
      exact ⟨vs, e1, h1.vrels⟩
    · cases hg
  obtain ⟨cvs, he, hcv⟩ := hcaps
  have hall := hargs.append hcv
  have hrun : (execOp a.eval o).run P x.w = .ok (.enter g ⟨ys.toList.map a.eval ++ cvs⟩) x.w := by
    have e1 : ys.map a.eval ++ (⟨cvs⟩ : Array Value) = ⟨ys.toList.map a.eval ++ cvs⟩ := Array.toList_inj.1 (by simp)
    have hE : (callFunc g ⟨ys.toList.map a.eval ++ cvs⟩).run P x.w = .ok (.enter g ⟨ys.toList.map a.eval ++ cvs⟩) x.w := hF.1 _ _
    simp [execOp, ho, resolve, Deferred.ofValue, he, invoke, e1, hE]
  have hlt : ∀ b, x.F b → b < x.w.heap.size := fun b hb => F_lt h hb
  unfold Oper.wp
  rw [hrun, Oper.upon_enter, hdst]
  rcases hfl with hp | ⟨h1, h2⟩
  · refine (hF.2 x.w x.F _ hlt h.now (snap_pure hp hs hall)).mono fun en w' ⟨cv, y, e1, e2, hr⟩ => ?_
    subst e1
    obtain ⟨z, g1, g2⟩ := after_res h hd hr hok
    exact ⟨_, z, g1, g2.trans e2, hK, by rw [← e2]; exact below_agr hr.below⟩
  · refine (hF.2 x.w (fun _ => False) _ (fun b hb => hb.elim) (h.now.sub fun b hb => hb.elim) (snapL_rel (fun v p cv g1 g2 => snap_rel h 4 v p cv g1 g2) hs hall)).mono fun en w' ⟨cv, y, e1, e2, hr⟩ => ?_
    subst e1
    obtain ⟨z, g1, g2⟩ := after_res h hd (hr.flat (G := x.F) h1 h2) hok
    exact ⟨_, z, g1, g2.trans e2, hK, by rw [← e2]; exact below_agr hr.below⟩

/-- 's == nil': what it says is not known of an empty slice -/
theorem l_isnil (h : SRel e σ x a) (d : Nat) (hd : d < e.n) (hdst : o.dst = some d) {t t' et : TypeId} {y z : Operand} {neg : Bool} (ho : o.op = .binOp (if neg then .neq else .eql) t y z t') (ht : P.underlying t = some (.slice et))
    {v : AV} (hv : VRel x v (a.eval y)) (hz : a.eval z = .slice none 0 0) {n : Nat} (hn : (∃ ps, v = .pv (.lst ps) ∧ ps.length = n) ∨ (∃ r off, v = .row r off n) ∨ (v = .e0 ∧ n = 0))
    {K : St → Prop} (hK : ∀ b : Bool, (b = true → n = 0) → K (σ.put d (vbool (if neg then !b else b)))) : LStep P e o a x.w K := by
  intro Q
  have hshape : ∃ ad m c, a.eval y = .slice ad m c ∧ m = n ∧ (ad = none → n = 0) := by
    rcases hn with ⟨ps, rfl, hl⟩ | ⟨r, off, rfl⟩ | ⟨rfl, hl⟩
    · simp only [VRel, PRel] at hv
      obtain ⟨ad, m, c, e1, e2, _, e3⟩ := hv
      refine ⟨ad, m, c, e1, by omega, fun hne => ?_⟩
      rcases Nat.eq_zero_or_pos m with h0 | h0
      · omega
      · obtain ⟨b, o', h1, _⟩ := e3 h0; rw [hne] at h1; cases h1
    · simp only [VRel] at hv
      rcases hv with ⟨rfl, _, ad, e1⟩ | ⟨c, _, e1, _⟩
      · exact ⟨ad, 0, 0, e1, rfl, fun _ => rfl⟩
      · exact ⟨_, n, c, e1, rfl, fun h => by cases h⟩
    · simp only [VRel] at hv
      obtain ⟨ad, e1⟩ := hv
      exact ⟨ad, 0, 0, e1, hl.symm, fun _ => hl⟩
  obtain ⟨ad, m, c, e1, rfl, hnil⟩ := hshape
  have heq : ∀ w : World, (Op.equal t (.slice ad m c) (.slice none 0 0)).run P w = .ok ad.isNone w := fun w => by
    have h1 : ∀ k : Nat, (Op.equalIn (k + 1) t (.slice ad m c) (.slice none 0 0)).run P w = .ok ad.isNone w := fun k => by
      cases ad <;> simp [Op.equalIn, run_underlying ht]
    exact h1 9999
  have hb : (ad.isNone = true → m = 0) := fun h1 => hnil (by simpa using h1)
  refine wp_value (v := .bool (if neg then !ad.isNone else ad.isNone)) (w' := x.w) ?_ ?_
  · cases neg
    · simp [execOp, ho, e1, hz, eqGuard, binOp, heq]
    · simp [execOp, ho, e1, hz, eqGuard, binOp, heq]
  · rw [hdst]
    exact ⟨_, x, h.put hd (v := vbool (if neg then !ad.isNone else ad.isNone)) (by simp [vbool, VRel, PRel]), rfl, hK _ hb, Agr.refl _⟩
end
end Go.Vc

namespace Go.Vc
open Go.RowKit
set_option linter.constructorNameAsVariable false
set_option linter.unusedSimpArgs false
set_option linter.unusedVariables false

/-! ## Calls that write what they are lent -/
mutual
def AV.rn (m : Nat → Nat) : AV → AV
  | .un => .un
  | .pv p => .pv p
  | .agg cs => .agg (AV.rns m cs)
  | .tup cs => .tup (AV.rns m cs)
  | .e0 => .e0
  | .lit xs => .lit (AV.rns m xs)
  | .row r off n => .row (m r) off n
  | .ptr r off => .ptr (m r) off
  | .rptr r i off => .rptr (m r) i off
  | .eptr xs i off => .eptr xs i off
  | .cptr cs off => .cptr cs off
  | .fn f caps => .fn f (AV.rns m caps)
  | .mp r => .mp (m r)
  | .it r => .it (m r)
  | .whn c v => .whn c (AV.rn m v)
def AV.rns (m : Nat → Nat) : List AV → List AV
  | [] => []
  | v :: vs => AV.rn m v :: AV.rns m vs
end
def Row.rn (m : Nat → Nat) : Row → Row
  | .box cells => .box (AV.rns m cells)
  | .sl s xs => .sl s xs
  | .slf s xs => .slf s xs
  | .bxs cells => .bxs (AV.rns m cells)
  | .mp es => .mp es
  | .sit s pos => .sit s pos
  | .mit q n rem cur => .mit (m q) n rem cur
  | .mpd es clock => .mpd es clock
  | .mid q n bs rem cur => .mid (m q) n bs rem cur
  | .gone => .gone
/-- the same world, the rows under other names -/
def Cx.pull (z : Cx) (m : Nat → Nat) : Cx := ⟨z.w, z.F, fun r => z.ρ (m r)⟩

theorem rns_length (m : Nat → Nat) : ∀ l : List AV, (AV.rns m l).length = l.length
  | [] => rfl
  | _ :: l => by simp only [AV.rns, List.length_cons, rns_length m l]
theorem rn_ne_agg {m : Nat → Nat} {y : AV} (h1 : ∀ cs, y ≠ .agg cs) : ∀ cs, y.rn m ≠ .agg cs := by
  intro cs
  cases y <;> simp only [AV.rn] <;> first | (intro h; cases h; done) | skip
  rename_i l; exact (h1 l rfl).elim
theorem rn_ne_pv {m : Nat → Nat} {y : AV} (h1 : ∀ cs, y ≠ .pv (.agg cs)) : ∀ cs, y.rn m ≠ .pv (.agg cs) := by
  intro cs
  cases y <;> simp only [AV.rn] <;> first | (intro h; cases h; done) | skip
  rename_i l; exact fun e => h1 cs (by rw [e])

mutual
theorem VRel_rn (z : Cx) (m : Nat → Nat) : ∀ (u : AV) {cv : Value}, VRel z (u.rn m) cv ↔ VRel (z.pull m) u cv
  | .un, _ => by simp only [AV.rn, VRel]
  | .pv p, _ => by simp only [AV.rn, VRel, Cx.pull]
  | .agg cs, _ => by
    simp only [AV.rn, VRel]
    exact exists_congr fun vs => and_congr Iff.rfl (VRels_rn z m cs)
  | .tup cs, _ => by
    simp only [AV.rn, VRel]
    exact exists_congr fun vs => and_congr Iff.rfl (VRels_rn z m cs)
  | .e0, _ => by simp only [AV.rn, VRel]
  | .lit xs, _ => by
    simp only [AV.rn, VRel, rns_length, AElems_rn z m xs]
    simp only [Cx.pull]
  | .row r off n, _ => by simp only [AV.rn, VRel, Cx.pull]
  | .ptr r off, _ => by simp only [AV.rn, VRel, Cx.pull]
  | .rptr r i off, _ => by simp only [AV.rn, VRel, Cx.pull]
  | .eptr xs i off, _ => by simp only [AV.rn, VRel, Cx.pull]
  | .cptr cs off, _ => by simp only [AV.rn, VRel, Cx.pull]
  | .fn f cs, _ => by
    simp only [AV.rn, VRel]
    exact exists_congr fun vs => and_congr Iff.rfl (VRels_rn z m cs)
  | .mp r, _ => by simp only [AV.rn, VRel, Cx.pull]
  | .it r, _ => by simp only [AV.rn, VRel, Cx.pull]
  | .whn c v, _ => by
    simp only [AV.rn, VRel]
    exact and_congr (imp_congr Iff.rfl (VRel_rn z m v)) Iff.rfl
theorem VRels_rn (z : Cx) (m : Nat → Nat) : ∀ (us : List AV) {cvs : List Value}, VRels z (AV.rns m us) cvs ↔ VRels (z.pull m) us cvs
  | [], _ => by simp only [AV.rns, VRels]
  | u :: us, _ => by
    simp only [AV.rns, VRels]
    exact exists_congr fun v => exists_congr fun r => and_congr Iff.rfl (and_congr (VRel_rn z m u) (VRels_rn z m us))
theorem AElems_rn (z : Cx) (m : Nat → Nat) : ∀ (xs : List AV) {b o : Nat}, AElems z (AV.rns m xs) b o ↔ AElems (z.pull m) xs b o
  | [], _, _ => by simp only [AV.rns, AElems]
  | y :: xs, b, o => by
    by_cases h1 : ∃ cs, y = .agg cs
    · obtain ⟨cs, rfl⟩ := h1
      simp only [AV.rns, AV.rn, AElems, rns_length]
      exact and_congr (ACells_rn z m cs) (AElems_rn z m xs)
    by_cases h2 : ∃ cs, y = .pv (.agg cs)
    · obtain ⟨cs, rfl⟩ := h2
      simp only [AV.rns, AV.rn, AElems]
      exact and_congr (by simp only [Cx.pull]) (AElems_rn z m xs)
    have h1' : ∀ cs, y ≠ .agg cs := fun cs e => h1 ⟨cs, e⟩
    have h2' : ∀ cs, y ≠ .pv (.agg cs) := fun cs e => h2 ⟨cs, e⟩
    simp only [AV.rns]
    rw [AElems_one (rn_ne_agg h1') (rn_ne_pv h2'), AElems_one h1' h2']
    exact and_congr (exists_congr fun v => and_congr Iff.rfl (VRel_rn z m y)) (AElems_rn z m xs)
theorem ACells_rn (z : Cx) (m : Nat → Nat) : ∀ (xs : List AV) {b o : Nat}, ACells z (AV.rns m xs) b o ↔ ACells (z.pull m) xs b o
  | [], _, _ => by simp only [AV.rns, ACells]
  | y :: xs, b, o => by
    simp only [AV.rns, ACells]
    exact and_congr (exists_congr fun v => and_congr Iff.rfl (VRel_rn z m y)) (ACells_rn z m xs)
end
theorem Row_rn (z : Cx) (m : Nat → Nat) (l : Loc) : ∀ row : Row, (row.rn m).rel z l ↔ row.rel (z.pull m) l
  | .box cs => by
    simp only [Row.rn, Row.rel, rns_length]
    exact and_congr Iff.rfl (and_congr Iff.rfl (ACells_rn z m cs))
  | .sl _ _ => by simp only [Row.rn, Row.rel, Cx.pull]
  | .slf _ _ => by simp only [Row.rn, Row.rel, Cx.pull]
  | .bxs cs => by
    simp only [Row.rn, Row.rel, rns_length]
    exact and_congr Iff.rfl (and_congr Iff.rfl (and_congr Iff.rfl (ACells_rn z m cs)))
  | .mp _ => by simp only [Row.rn, Row.rel, EntryRel, Cx.pull]
  | .sit _ _ => by simp only [Row.rn, Row.rel, Cx.pull]
  | .mit _ _ _ _ => by simp only [Row.rn, Row.rel, Cx.pull]
  | .mpd _ _ => by simp only [Row.rn, Row.rel, EntryRel, Cx.pull]
  | .mid _ _ _ _ _ => by simp only [Row.rn, Row.rel, Cx.pull]
  | .gone => by simp only [Row.rn, Row.rel, Cx.pull]

theorem inj_of_nodup {m : Nat → Nat} : ∀ {l : List Nat} {a b : Nat}, (l.map m).Nodup → a ∈ l → b ∈ l → m a = m b → a = b
  | [], _, _, _, h, _, _ => by cases h
  | c :: l, a, b, hn, ha, hb, he => by
    simp only [List.map_cons, List.nodup_cons] at hn
    rcases List.mem_cons.1 ha with ha' | ha' <;> rcases List.mem_cons.1 hb with hb' | hb'
    · rw [ha', hb']
    · exact absurd (by rw [← ha', he]; exact List.mem_map_of_mem hb') hn.1
    · exact absurd (by rw [← hb', ← he]; exact List.mem_map_of_mem ha') hn.1
    · exact inj_of_nodup hn.2 ha' hb' he

/-- rows that a callee is lent -/
structure Lent (x : Cx) (s0 : List (Nat × Row)) : Prop where
  st : ∀ r row, (r, row) ∈ s0 → row.rel x (x.ρ r)
  keys : (s0.map (·.1)).Nodup
  inj : ∀ r row r' row', (r, row) ∈ s0 → (r', row') ∈ s0 → r ≠ r' → (x.ρ r).ok = true → (x.ρ r').ok = true → (x.ρ r).blk ≠ (x.ρ r').blk
  F : ∀ r row, (r, row) ∈ s0 → (x.ρ r).ok = true → x.F (x.ρ r).blk

/-- what such a callee leaves: its result, the rows as they are then -/
structure ResS (x : Cx) (s0 : List (Nat × Row)) (y : Cx) (v : AV) (s1 : List (Nat × Row)) (cv : Value) : Prop where
  below : BelowL (Own s0 x.ρ) x.w y.w
  val : VRel y v cv
  st : ∀ r row, (r, row) ∈ s1 → row.rel y (y.ρ r)
  keys : (s1.map (·.1)).Nodup
  inj : ∀ r row r' row', (r, row) ∈ s1 → (r', row') ∈ s1 → r ≠ r' → (y.ρ r).ok = true → (y.ρ r').ok = true → (y.ρ r).blk ≠ (y.ρ r').blk
  own : ∀ r row, (r, row) ∈ s1 → (y.ρ r).ok = true → x.w.heap.size ≤ (y.ρ r).blk ∨ Own s0 x.ρ (y.ρ r).blk
  F : ∀ b, y.F b ↔ (x.F b ∧ ¬ Own s0 x.ρ b) ∨ Own s1 y.ρ b
  stay : ∀ r, 200000 ≤ r → y.ρ r = x.ρ r

/-- **THE CONTRACT OF A Go FUNCTION THAT IS LENT ROWS**: slices' rows have names below 200000, all others' names from there on. -/
def FnS (P : Program) (f : FuncId) (args : List AV) (st : List (Nat × Row)) (v : AV) (st' : List (Nat × Row)) : Prop :=
  Enters P f ∧ ∀ (x : Cx) (vs : List Value), (∀ b, x.F b → b < x.w.heap.size) → Tabs P x.w x.F → Lent x st → VRels x args vs →
    Calls P f ⟨vs⟩ x.w fun en w' => ∃ cv y, en = .returned cv ∧ y.w = w' ∧ ResS x st y v st' cv

/-- where the rows lie behind such a call -/
def rhoAfter (yρ xρ : Nat → Loc) (m : Nat → Nat) : List Nat → Nat → Loc
  | [], q => xρ q
  | k :: ks, q => if m k = q then yρ k else rhoAfter yρ xρ m ks q
theorem rhoAfter_at {yρ xρ : Nat → Loc} {m : Nat → Nat} : ∀ {ks : List Nat}, (ks.map m).Nodup → ∀ k ∈ ks, rhoAfter yρ xρ m ks (m k) = yρ k
  | [], _, k, hk => by cases hk
  | k' :: ks, hn, k, hk => by
    simp only [List.map_cons, List.nodup_cons] at hn
    simp only [rhoAfter]
    rcases List.mem_cons.1 hk with rfl | hk
    · rw [if_pos rfl]
    · rw [if_neg fun he => hn.1 (by rw [he]; exact List.mem_map_of_mem hk)]
      exact rhoAfter_at hn.2 k hk
theorem rhoAfter_out {yρ xρ : Nat → Loc} {m : Nat → Nat} : ∀ {ks : List Nat} {q : Nat}, q ∉ ks.map m → rhoAfter yρ xρ m ks q = xρ q
  | [], _, _ => rfl
  | k' :: ks, q, hq => by
    simp only [List.map_cons, List.mem_cons, not_or] at hq
    simp only [rhoAfter]
    rw [if_neg fun he => hq.1 he.symm]
    exact rhoAfter_out hq.2

def keysNot (st : List (Nat × Row)) (r : Nat) : Bool := !(st.map (·.1)).contains r
/-- what led into a lent slice's row is forgotten -/
def lostBy (m : Nat → Nat) (st : List (Nat × Row)) (q : Nat) : Bool := st.any fun e => decide (e.1 < 200000) && (m e.1 == q)
def stBack (m : Nat → Nat) (ks : List (Nat × Row)) : List (Nat × Row) → List (Nat × Row)
  | [] => []
  | (r, row) :: st => (m r, (row.clip (keysNot ks)).rn m) :: stBack m ks st
def stStrike (l : List (Nat × Row)) : List Nat → List (Nat × Row)
  | [] => l
  | r :: rs => stDel (stStrike l rs) r
theorem stStrike_mem {st : List (Nat × Row)} : ∀ {ids : List Nat} {r : Nat} {row : Row}, (r, row) ∈ stStrike st ids → (r, row) ∈ st ∧ r ∉ ids
  | [], _, _, h => ⟨h, by simp⟩
  | i :: ids, r, row, h => by
    simp only [stStrike] at h
    obtain ⟨h1, h2⟩ := stDel_mem h
    obtain ⟨h3, h4⟩ := stStrike_mem h1
    exact ⟨h3, by simp only [List.mem_cons, not_or]; exact ⟨h2, h4⟩⟩
theorem stStrike_keys {st : List (Nat × Row)} (h : (st.map (·.1)).Nodup) : ∀ ids : List Nat, ((stStrike st ids).map (·.1)).Nodup
  | [] => h
  | i :: ids => stDel_keys (stStrike_keys h ids)
theorem stBack_mem {m : Nat → Nat} {ks : List (Nat × Row)} : ∀ {st : List (Nat × Row)} {q : Nat} {row : Row}, (q, row) ∈ stBack m ks st → ∃ r u, (r, u) ∈ st ∧ q = m r ∧ row = (u.clip (keysNot ks)).rn m
  | [], _, _, h => by cases h
  | (r, u) :: st, q, row, h => by
    simp only [stBack] at h
    rcases List.mem_cons.1 h with h | h
    · injection h with h1 h2; exact ⟨r, u, by simp, h1, h2⟩
    · obtain ⟨r', u', h1, h2, h3⟩ := stBack_mem h
      exact ⟨r', u', List.mem_cons_of_mem _ h1, h2, h3⟩
theorem stBack_keys {m : Nat → Nat} {ks : List (Nat × Row)} : ∀ {st : List (Nat × Row)}, (stBack m ks st).map (·.1) = (st.map (·.1)).map m
  | [] => rfl
  | (r, u) :: st => by simp only [stBack, List.map_cons, stBack_keys]

/-- the state behind such a call -/
def St.afterS (σ : St) (d : Nat) (m : Nat → Nat) (st : List (Nat × Row)) (v : AV) (st' : List (Nat × Row)) : St :=
  St.put ⟨frClip (lostBy m st') σ.fr, stBack m st' st' ++ stClip (lostBy m st') (stStrike σ.st ((st'.map (·.1)).map m ++ (st.map (·.1)).map m))⟩ d ((v.clip (keysNot st')).rn m)

section
variable {P : Program} {e : Env} {σ : St} {x : Cx} {a : Act} {o : Oper}

theorem SRel.lent (h : SRel e σ x a) {d : Nat} (hd : d < e.n) {st st' : List (Nat × Row)} {m : Nat → Nat} {y : Cx} {v : AV} {cv : Value}
    (hl : ∀ r row, (r, row) ∈ st → (m r, row.rn m) ∈ σ.st) (hr : ResS (x.pull m) st y v st' cv) (hK : ((st'.map (·.1)).map m).Nodup) (hfx : ∀ r row, (r, row) ∈ st' → r < 200000 → m r < 200000) :
    ∃ z, SRel e (σ.afterS d m st v st') z (a.put (some d) cv) ∧ z.w = y.w := by
  let A := (st'.map (·.1)).map m ++ (st.map (·.1)).map m
  let D := lostBy m st'
  let ρ' := rhoAfter y.ρ x.ρ m (st'.map (·.1))
  let rows := stBack m st' st' ++ stClip D (stStrike σ.st A)
  let z : Cx := ⟨y.w, fun b => e.F0 b ∨ Own rows ρ' b, ρ'⟩
  have hlt := h.blk_lt
  have hat : ∀ r row, (r, row) ∈ st' → ρ' (m r) = y.ρ r := fun r row hm => rhoAfter_at hK r (List.mem_map.2 ⟨_, hm, rfl⟩)
  have hout : ∀ q, q ∉ (st'.map (·.1)).map m → ρ' q = x.ρ q := fun q hq => rhoAfter_out hq
  have hDρ : ∀ q, D q = false → ρ' q = x.ρ q := by
    intro q hq
    by_cases hin : q ∈ (st'.map (·.1)).map m
    · obtain ⟨r, hr1, rfl⟩ := List.mem_map.1 hin
      obtain ⟨⟨r', row⟩, hr2, rfl⟩ := List.mem_map.1 hr1
      rw [hat r' row hr2]
      have : 200000 ≤ r' := by
        rcases Nat.lt_or_ge r' 200000 with hlt' | hge
        · have : D (m r') = true := by
            show lostBy m st' (m r') = true
            simp only [lostBy, List.any_eq_true]
            exact ⟨_, hr2, by simp [hlt']⟩
          rw [this] at hq; cases hq
        · exact hge
      exact hr.stay r' this
    · exact hout q hin
  have lentOwn : ∀ b, Own st (x.pull m).ρ b → ∃ q row, (q, row) ∈ σ.st ∧ (x.ρ q).ok = true ∧ (x.ρ q).blk = b ∧ q ∈ A := by
    rintro b ⟨r, row, h1, h2, h3⟩
    exact ⟨m r, _, hl r row h1, h2, h3, List.mem_append_right _ (List.mem_map_of_mem (List.mem_map.2 ⟨_, h1, rfl⟩))⟩
  have lentF : ∀ b, Own st (x.pull m).ρ b → x.F b := fun b hb => by
    obtain ⟨q, row, h1, h2, h3, _⟩ := lentOwn b hb
    exact (h.F b).2 (.inr ⟨q, row, h1, h2, h3⟩)
  have F0not : ∀ b, e.F0 b → ¬ Own st (x.pull m).ρ b := fun b hb ho => by
    obtain ⟨q, row, h1, h2, h3, _⟩ := lentOwn b ho
    have h4 := h.f0 b hb
    rcases h.own q row h1 h2 with h5 | h5
    · rw [h3] at h5; omega
    · rw [h3] at h5; exact h4.2 h5
  have old : ∀ q row, (q, row) ∈ stClip D (stStrike σ.st A) → q ∉ A ∧ ∃ u, (q, u) ∈ σ.st ∧ row = u.clip D := fun q row hm => by
    obtain ⟨u, h1, h2⟩ := stClip_mem hm
    obtain ⟨h3, h4⟩ := stStrike_mem h1
    exact ⟨h4, u, h3, h2⟩
  have oldρ : ∀ q, q ∉ A → ρ' q = x.ρ q := fun q hq => hout q fun hin => hq (List.mem_append_left _ hin)
  have oldNot : ∀ q u, (q, u) ∈ σ.st → q ∉ A → (x.ρ q).ok = true → ¬ Own st (x.pull m).ρ (x.ρ q).blk := fun q u hu hq hok ho => by
    obtain ⟨q', row, h1, h2, h3, h4⟩ := lentOwn _ ho
    exact h.inj q u q' row hu h1 (fun he => hq (he ▸ h4)) hok h2 h3.symm
  have ownRow : ∀ b, Own rows ρ' b → Own st' y.ρ b ∨ ∃ q u, (q, u) ∈ σ.st ∧ q ∉ A ∧ (x.ρ q).ok = true ∧ (x.ρ q).blk = b := by
    rintro b ⟨q, row, hm, hok, hb⟩
    rcases List.mem_append.1 hm with hm | hm
    · obtain ⟨r, u, h1, rfl, _⟩ := stBack_mem hm
      rw [hat r u h1] at hok hb
      exact .inl ⟨r, u, h1, hok, hb⟩
    · obtain ⟨hq, u, hu, _⟩ := old q row hm
      rw [oldρ q hq] at hok hb
      exact .inr ⟨q, u, hu, hq, hok, hb⟩
  have zy : ∀ b, z.F b → y.F b := fun b hb => (hr.F b).2 (by
    rcases hb with hb | hb
    · exact .inl ⟨(h.F b).2 (.inl hb), F0not b hb⟩
    · rcases ownRow b hb with hb | ⟨q, u, hu, hq, hok, rfl⟩
      · exact .inr hb
      · exact .inl ⟨(h.F _).2 (.inr ⟨q, u, hu, hok, rfl⟩), oldNot q u hu hq hok⟩)
  have yx : ∀ b, b < x.w.heap.size → y.F b → x.F b := fun b hlt' hb => by
    rcases (hr.F b).1 hb with hb | ⟨r, row, h1, h2, rfl⟩
    · exact hb.1
    · rcases hr.own r row h1 h2 with h3 | h3
      · have : x.w.heap.size ≤ (y.ρ r).blk := h3
        omega
      · exact lentF _ h3
  have heap : ∀ b, ¬ Own st (x.pull m).ρ b → b < x.w.heap.size → y.w.heap[b]? = x.w.heap[b]? := fun b hb hlt' => hr.below.block b hlt' hb
  have kept : Kept x z := {
    size := hr.below.size
    heap := fun b hb hlt' => heap b (fun ho => hb (lentF b ho)) hlt'
    F := fun b hlt' hb => yx b hlt' (zy b hb) }
  have kyz : Kept y (z.pull m) := {
    size := Nat.le_refl _
    heap := fun _ _ _ => rfl
    F := fun b _ hb => zy b hb }
  have kρ : ∀ r, keysNot st' r = false → (z.pull m).ρ r = y.ρ r := fun r hr' => by
    simp only [keysNot, Bool.not_eq_false', List.contains_eq_mem, decide_eq_true_eq] at hr'
    obtain ⟨⟨r', row⟩, h1, rfl⟩ := List.mem_map.1 hr'
    exact hat r' row h1
  have hS : SRel e ⟨frClip D σ.fr, rows⟩ z a := {
    defers := h.defers
    size := h.size
    fr := fun k u hm => by
      obtain ⟨u', hu, rfl⟩ := frClip_mem hm
      obtain ⟨cv', h1, h2⟩ := h.fr k u' hu
      exact ⟨cv', h1, VRel.clip kept hDρ u' h2⟩
    st := fun q row hm => by
      rcases List.mem_append.1 hm with hm | hm
      · obtain ⟨r, u, h1, rfl, rfl⟩ := stBack_mem hm
        show (Row.rn m _).rel z (ρ' (m r))
        rw [hat r u h1, Row_rn]
        exact Row.clip_rel kyz kρ (fun _ => rfl) (hr.st r u h1)
      · obtain ⟨hq, u, hu, rfl⟩ := old q row hm
        show (Row.clip D u).rel z (ρ' q)
        rw [oldρ q hq]
        exact Row.clip_rel kept hDρ (fun hok => heap _ (oldNot q u hu hq hok) (hlt q u hu hok)) (h.st q u hu)
    keys := by
      rw [List.map_append, List.nodup_append, stBack_keys, stClip_keys]
      refine ⟨hK, stStrike_keys h.keys _, fun b hb c hc => ?_⟩
      obtain ⟨⟨q, u⟩, h1, rfl⟩ := List.mem_map.1 hc
      intro he
      subst he
      exact (stStrike_mem h1).2 (List.mem_append_left _ hb)
    inj := fun q row q' row' hm hm' hqq hok hok' => by
      have cross : ∀ r u q1 u1, (r, u) ∈ st' → (q1, u1) ∈ σ.st → q1 ∉ A → (y.ρ r).ok = true → (x.ρ q1).ok = true → (y.ρ r).blk ≠ (x.ρ q1).blk := fun r u q1 u1 h1 h2 h3 h4 h5 he => by
        rcases hr.own r u h1 h4 with h6 | h6
        · have h7 := hlt q1 u1 h2 h5
          have : x.w.heap.size ≤ (y.ρ r).blk := h6
          omega
        · exact oldNot q1 u1 h2 h3 h5 (he ▸ h6)
      rcases List.mem_append.1 hm with hm | hm <;> rcases List.mem_append.1 hm' with hm' | hm'
      · obtain ⟨r, u, h1, rfl, _⟩ := stBack_mem hm
        obtain ⟨r', u', h2, rfl, _⟩ := stBack_mem hm'
        show (ρ' (m r)).blk ≠ (ρ' (m r')).blk
        have hok1 : (ρ' (m r)).ok = true := hok
        have hok2 : (ρ' (m r')).ok = true := hok'
        rw [hat r u h1] at hok1 ⊢
        rw [hat r' u' h2] at hok2 ⊢
        exact hr.inj r u r' u' h1 h2 (fun he => hqq (by rw [he])) hok1 hok2
      · obtain ⟨r, u, h1, rfl, _⟩ := stBack_mem hm
        obtain ⟨hq, u', hu, _⟩ := old q' row' hm'
        have hok1 : (ρ' (m r)).ok = true := hok
        have hok2 : (ρ' q').ok = true := hok'
        show (ρ' (m r)).blk ≠ (ρ' q').blk
        rw [hat r u h1] at hok1 ⊢
        rw [oldρ q' hq] at hok2 ⊢
        exact cross r u q' u' h1 hu hq hok1 hok2
      · obtain ⟨r, u, h1, rfl, _⟩ := stBack_mem hm'
        obtain ⟨hq, u', hu, _⟩ := old q row hm
        have hok1 : (ρ' (m r)).ok = true := hok'
        have hok2 : (ρ' q).ok = true := hok
        show (ρ' q).blk ≠ (ρ' (m r)).blk
        rw [hat r u h1] at hok1 ⊢
        rw [oldρ q hq] at hok2 ⊢
        exact (cross r u q u' h1 hu hq hok1 hok2).symm
      · obtain ⟨hq, u, hu, _⟩ := old q row hm
        obtain ⟨hq', u', hu', _⟩ := old q' row' hm'
        have hok1 : (ρ' q).ok = true := hok
        have hok2 : (ρ' q').ok = true := hok'
        show (ρ' q).blk ≠ (ρ' q').blk
        rw [oldρ q hq] at hok1 ⊢
        rw [oldρ q' hq'] at hok2 ⊢
        exact h.inj q u q' u' hu hu' hqq hok1 hok2
    F := fun b => Iff.rfl
    own := fun q row hm hok => by
      have hok1 : (ρ' q).ok = true := hok
      show e.w0.heap.size ≤ (ρ' q).blk ∨ e.L (ρ' q).blk
      rcases List.mem_append.1 hm with hm | hm
      · obtain ⟨r, u, h1, rfl, _⟩ := stBack_mem hm
        rw [hat r u h1] at hok1 ⊢
        rcases hr.own r u h1 hok1 with h2 | h2
        · have : x.w.heap.size ≤ (y.ρ r).blk := h2
          exact .inl (Nat.le_trans h.below.size this)
        · obtain ⟨q', row', h3, h4, h5, _⟩ := lentOwn _ h2
          rw [← h5]; exact h.own q' row' h3 h4
      · obtain ⟨hq, u, hu, _⟩ := old q row hm
        rw [oldρ q hq] at hok1 ⊢
        exact h.own q u hu hok1
    f0 := h.f0
    tabs := h.tabs
    below := ⟨hr.below.os.trans h.below.os, hr.below.tape.trans h.below.tape, hr.below.output.trans h.below.output, Nat.le_trans h.below.size hr.below.size, fun k hk hl' =>
      (heap k (fun ho => by
        obtain ⟨q, row, h1, h2, h3, _⟩ := lentOwn k ho
        rcases h.own q row h1 h2 with h4 | h4
        · rw [h3] at h4; omega
        · rw [h3] at h4; exact hl' h4) (Nat.lt_of_lt_of_le hk h.below.size)).trans (h.below.block k hk hl'), Nat.le_trans h.below.drawn hr.below.drawn⟩
    fix := fun q hq => by
      show ρ' q = e.ρ0 q
      rw [hDρ q ?_]
      · exact h.fix q hq
      · cases hDq : D q with
        | false => rfl
        | true =>
          have : lostBy m st' q = true := hDq
          simp only [lostBy, List.any_eq_true, Bool.and_eq_true, decide_eq_true_eq, beq_iff_eq] at this
          obtain ⟨⟨r, row⟩, h1, h2, rfl⟩ := this
          have h3 := hfx r row h1 h2
          have h4 : 200000 ≤ m r := hq
          omega
    small := h.small }
  refine ⟨z, hS.put hd ?_, rfl⟩
  rw [VRel_rn]
  exact VRel.clip kyz kρ v hr.val

/-- A CALL THAT WRITES WHAT IT IS LENT, MET BY ITS CONTRACT -/
theorem l_calls [EP e P] (h : SRel e σ x a) (d : Nat) (hd : d < e.n) (hdst : o.dst = some d) {yf : Operand} {ys : Array Operand} {ts : Array TypeId} (ho : o.op = .call { callee := .value yf, args := ys, argTypes := ts })
    {vf : AV} (hf : VRel x vf (a.eval yf)) {g : FuncId} {caps : List AV} (hg : calleeOf vf = some (g, caps)) {zs : List Opd} (hz : opdsOf ys.toList = some zs) (hc : cds σ zs = true)
    {m : Nat → Nat} {args : List AV} {st st' : List (Nat × Row)} {v : AV} (hs : AV.rns m args = evs σ zs ++ caps) (hl : ∀ r row, (r, row) ∈ st → (m r, row.rn m) ∈ σ.st) (hks : (st.map (·.1)).Nodup) (hms : ((st.map (·.1)).map m).Nodup)
    (hK : ((st'.map (·.1)).map m).Nodup) (hfx : ∀ r row, (r, row) ∈ st' → r < 200000 → m r < 200000) (hF : FnS P g args st v st')
    {K : St → Prop} (hk : K (σ.afterS d m st v st')) : ∀ Q, o.wp P a x.w (fun a' w' => ∃ σ' y, SRel e σ' y a' ∧ y.w = w' ∧ K σ') Q := by
  intro Q
  have hargs := opds_rel h hz hc
  have hcaps : ∃ cvs : List Value, a.eval yf = .func (.func g) #[] ⟨cvs⟩ ∧ VRels x caps cvs := by
    unfold calleeOf at hg
    split at hg
    · injection hg with hg; injection hg with h1 h2; subst h1; subst h2
      simp only [VRel] at hf
      exact hf
    · injection hg with hg; injection hg with h1 h2; subst h1; subst h2
      simp only [VRel, PRel] at hf
      obtain ⟨vs, e1, h1⟩ := hf
      exact ⟨vs, e1, h1.vrels⟩
    · cases hg
  obtain ⟨cvs, he, hcv⟩ := hcaps
  have hall := hargs.append hcv
  rw [← hs] at hall
  have hall' := (VRels_rn x m args).1 hall
  have hrun : (execOp a.eval o).run P x.w = .ok (.enter g ⟨ys.toList.map a.eval ++ cvs⟩) x.w := by
    have e1 : ys.map a.eval ++ (⟨cvs⟩ : Array Value) = ⟨ys.toList.map a.eval ++ cvs⟩ := Array.toList_inj.1 (by simp)
    have hE : (callFunc g ⟨ys.toList.map a.eval ++ cvs⟩).run P x.w = .ok (.enter g ⟨ys.toList.map a.eval ++ cvs⟩) x.w := hF.1 _ _
    simp [execOp, ho, resolve, Deferred.ofValue, he, invoke, e1, hE]
  have hlt : ∀ b, x.F b → b < x.w.heap.size := fun b hb => F_lt h hb
  have hlent : Lent (x.pull m) st := {
    st := fun r row hm => (Row_rn x m _ row).1 (h.st _ _ (hl r row hm))
    keys := hks
    inj := fun r row r' row' h1 h2 hne hok hok' => by
      have hne' : m r ≠ m r' := fun he => hne (by
        have i1 : r ∈ st.map (·.1) := List.mem_map.2 ⟨_, h1, rfl⟩
        have i2 : r' ∈ st.map (·.1) := List.mem_map.2 ⟨_, h2, rfl⟩
        exact inj_of_nodup hms i1 i2 he)
      exact h.inj _ _ _ _ (hl r row h1) (hl r' row' h2) hne' hok hok'
    F := fun r row hm hok => (h.F _).2 (.inr ⟨m r, _, hl r row hm, hok, rfl⟩) }
  unfold Oper.wp
  rw [hrun, Oper.upon_enter, hdst]
  refine (hF.2 (x.pull m) _ hlt h.now hlent hall').mono fun en w' ⟨cv, y, e1, e2, hr⟩ => ?_
  subst e1
  obtain ⟨z, g1, g2⟩ := h.lent hd hl hr hK hfx
  exact ⟨_, z, g1, g2.trans e2, hk⟩
end
end Go.Vc

namespace Go.Vc
open Go.RowKit
set_option linter.unusedSimpArgs false
set_option linter.unusedVariables false
section
variable {P : Program} {e : Env} {σ : St} {x : Cx} {a : Act} {o : Oper}
/-- **THE CONTRACT OF A FUNCTION WITHOUT A BODY** that only looks -/
def FnX (P : Program) (g : FuncId) (args : List AV) (st : List (Nat × Row)) (v : AV) : Prop :=
  ∀ (x : Cx) (vs : List Value), (∀ r row, (r, row) ∈ st → row.rel x (x.ρ r)) → (∀ b, Own st x.ρ b → x.F b) → VRels x args vs → ∃ cv, (callFunc g ⟨vs⟩).run P x.w = .ok (.value cv) x.w ∧ VRel x v cv
theorem l_callx (h : SRel e σ x a) (d : Nat) (hd : d < e.n) (hdst : o.dst = some d) {yf : Operand} {ys : Array Operand} {ts : Array TypeId} (ho : o.op = .call { callee := .value yf, args := ys, argTypes := ts })
    {vf : AV} (hf : VRel x vf (a.eval yf)) {g : FuncId} {caps : List AV} (hg : calleeOf vf = some (g, caps)) {zs : List Opd} (hz : opdsOf ys.toList = some zs) (hc : cds σ zs = true) {v : AV} (hF : FnX P g (evs σ zs ++ caps) σ.st v)
    {K : St → Prop} (hk : K (σ.put d v)) : ∀ Q, o.wp P a x.w (fun a' w' => ∃ σ' y, SRel e σ' y a' ∧ y.w = w' ∧ K σ') Q := by
  intro Q
  have hargs := opds_rel h hz hc
  have hcaps : ∃ cvs : List Value, a.eval yf = .func (.func g) #[] ⟨cvs⟩ ∧ VRels x caps cvs := by
    unfold calleeOf at hg
    split at hg
    · injection hg with hg; injection hg with h1 h2; subst h1; subst h2
      simp only [VRel] at hf
      exact hf
    · injection hg with hg; injection hg with h1 h2; subst h1; subst h2
      simp only [VRel, PRel] at hf
      obtain ⟨vs, e1, h1⟩ := hf
      exact ⟨vs, e1, h1.vrels⟩
    · cases hg
  obtain ⟨cvs, he, hcv⟩ := hcaps
  have hall := hargs.append hcv
  obtain ⟨cv, hr, hv⟩ := hF x _ h.st (fun b hb => (h.F b).2 (.inr hb)) hall
  have hrun : (execOp a.eval o).run P x.w = .ok (.value cv) x.w := by
    have e1 : ys.map a.eval ++ (⟨cvs⟩ : Array Value) = ⟨ys.toList.map a.eval ++ cvs⟩ := Array.toList_inj.1 (by simp)
    simp [execOp, ho, resolve, Deferred.ofValue, he, invoke, e1, hr]
  refine wp_value hrun ?_
  rw [hdst]
  exact ⟨_, _, h.put hd hv, rfl, hk⟩

end
end Go.Vc

namespace Go.Vc
open Go.RowKit

/-! ## An own row becomes a value -/
def onesP : List PV → Bool
  | [] => true
  | p :: ps => p.one && onesP ps
theorem onesP_wf : ∀ {ps : List PV}, onesP ps = true → WfL 1 ps
  | [], _, p, hp => by cases hp
  | q :: ps, h, p, hp => by
    simp only [onesP, Bool.and_eq_true] at h
    rcases List.mem_cons.1 hp with rfl | hp
    · have h1 := h.1
      cases p with
      | agg cs => cases h1
      | tup cs => cases h1
      | _ => exact ⟨rfl, fun c hc => by simp only [PV.cells, List.mem_singleton] at hc; subst hc; exact h1⟩
    · exact onesP_wf h.2 p hp
theorem onesP_elems {w : World} {F : Nat → Prop} : ∀ {ps : List PV} {b o : Nat}, onesP ps = true → PCells w F ps b o → PElems w F ps b o
  | [], _, _, _, _ => by simp only [PElems]
  | q :: ps, b, o, h, hc => by
    simp only [onesP, Bool.and_eq_true] at h
    simp only [PCells] at hc
    have ih := onesP_elems (w := w) (F := F) (ps := ps) (b := b) (o := o + 1) h.2 hc.2
    have h1 := h.1
    cases q with
    | agg cs => cases h1
    | tup cs => cases h1
    | _ => simp only [PElems]; exact ⟨hc.1, ih⟩
def frzRow (off n : Nat) : Row → AV
  | .sl _ xs => .pv (.lst ((xs.drop off).take n))
  | .bxs cs => match allPv cs with
    | some ps => if onesP ps = true then .pv (.lst ((ps.drop off).take n)) else .un
    | none => .un
  | _ => .un
def frzPtr (off : Nat) : Row → AV
  | .box cs => match allPv cs with
    | some ps => if off = 0 then .pv (.pt ps) else .cptr ps off
    | none => .un
  | _ => .un
mutual
def AV.frz (r : Nat) (row : Row) : AV → AV
  | .un => .un
  | .pv p => .pv p
  | .agg cs => mkAgg (AV.frzs r row cs)
  | .tup cs => .tup (AV.frzs r row cs)
  | .e0 => .e0
  | .lit _ => .un
  | .row q off n => if q = r then frzRow off n row else .row q off n
  | .ptr q off => if q = r then frzPtr off row else .ptr q off
  | .rptr q i off => if q = r then .un else .rptr q i off
  | .eptr xs i off => .eptr xs i off
  | .cptr cs off => .cptr cs off
  | .fn f caps => allPvs (AV.frzs r row caps) f
  | .mp q => if q = r then .un else .mp q
  | .it q => if q = r then .un else .it q
  | .whn c v => .whn c (AV.frz r row v)
def AV.frzs (r : Nat) (row : Row) : List AV → List AV
  | [] => []
  | v :: vs => AV.frz r row v :: AV.frzs r row vs
end
def Row.frz : Row → Nat → Row → Row
  | .box cs, r, row => .box (AV.frzs r row cs)
  | .bxs cs, r, row => .bxs (AV.frzs r row cs)
  | u, _, _ => u
def frFrz (r : Nat) (row : Row) : List (Nat × AV) → List (Nat × AV)
  | [] => []
  | (k, v) :: l => (k, v.frz r row) :: frFrz r row l
def stFrz (r : Nat) (row : Row) : List (Nat × Row) → List (Nat × Row)
  | [] => []
  | (k, v) :: l => (k, v.frz r row) :: stFrz r row l
def St.frz1 (σ : St) (r : Nat) : St := match stGet σ.st r with
  | some row => ⟨frFrz r row σ.fr, stFrz r row (stDel σ.st r)⟩
  | none => σ
def St.frzs (σ : St) : List Nat → St
  | [] => σ
  | r :: rs => (σ.frz1 r).frzs rs

theorem frFrz_mem {r : Nat} {row : Row} : ∀ {l : List (Nat × AV)} {k : Nat} {v : AV}, (k, v) ∈ frFrz r row l → ∃ u, (k, u) ∈ l ∧ v = u.frz r row
  | [], _, _, h => by simp [frFrz] at h
  | (k', u) :: l, k, v, h => by
    simp only [frFrz] at h
    rcases List.mem_cons.1 h with h | h
    · injection h with h1 h2; subst h1; subst h2; exact ⟨u, by simp, rfl⟩
    · obtain ⟨u', h1, h2⟩ := frFrz_mem h; exact ⟨u', List.mem_cons_of_mem _ h1, h2⟩
theorem stFrz_mem {r : Nat} {row : Row} : ∀ {l : List (Nat × Row)} {k : Nat} {v : Row}, (k, v) ∈ stFrz r row l → ∃ u, (k, u) ∈ l ∧ v = u.frz r row
  | [], _, _, h => by simp [stFrz] at h
  | (k', u) :: l, k, v, h => by
    simp only [stFrz] at h
    rcases List.mem_cons.1 h with h | h
    · injection h with h1 h2; subst h1; subst h2; exact ⟨u, by simp, rfl⟩
    · obtain ⟨u', h1, h2⟩ := stFrz_mem h; exact ⟨u', List.mem_cons_of_mem _ h1, h2⟩
theorem stFrz_keys {r : Nat} {row : Row} : ∀ l : List (Nat × Row), (stFrz r row l).map (·.1) = l.map (·.1)
  | [] => rfl
  | (k, v) :: l => by simp only [stFrz, List.map_cons, stFrz_keys l]
theorem frzs_length {r : Nat} {row : Row} : ∀ l : List AV, (AV.frzs r row l).length = l.length
  | [] => rfl
  | _ :: l => by simp only [AV.frzs, List.length_cons, frzs_length l]

section
variable {e : Env} {σ : St} {x y : Cx} {a : Act}

structure Frz (e : Env) (σ : St) (x y : Cx) (a : Act) (r : Nat) (row : Row) : Prop where
  s : SRel e σ x a
  m : (r, row) ∈ σ.st
  w : y.w = x.w
  ρ : y.ρ = x.ρ
  F : ∀ b, y.F b → x.F b
  out : (x.ρ r).ok = true → ¬ y.F (x.ρ r).blk

theorem Frz.kept {r : Nat} {row : Row} (h : Frz e σ x y a r row) : Kept x y := ⟨by rw [h.w]; exact Nat.le_refl _, fun b _ _ => by rw [h.w], fun b _ hb => h.F b hb⟩

theorem frzRow_rel {r off n : Nat} {row : Row} {cv : Value} (h : Frz e σ x y a r row) (hv : VRel x (.row r off n) cv) : VRel y (frzRow off n row) cv := by
  have h1 := h.s.st r _ h.m
  cases row with
  | sl s xs =>
    simp only [Row.rel] at h1
    simp only [VRel] at hv
    simp only [frzRow, VRel, PRel, h.w]
    rcases hv with ⟨rfl, _, ad, rfl⟩ | ⟨c, hok, rfl, h2, h3, h4⟩
    · exact ⟨ad, 0, 0, rfl, by simp, Nat.le_refl _, fun hn => absurd hn (by omega)⟩
    · rcases h1 with ⟨h1, _⟩ | ⟨hs, _, ⟨hln, _⟩, hwf, ⟨arr, et, hh, _⟩, hE⟩
      · rw [h1] at hok; cases hok
      · rw [hln] at h4
        refine ⟨_, n, c, rfl, by rw [List.length_take, List.length_drop]; omega, h2, fun _ => ⟨_, _, rfl, (Array.getElem?_eq_some_iff.1 hh).1, h.out hok, ?_⟩⟩
        rw [hs]
        have := ((hE.drop off (fun p hp => (hwf p hp).1) (by omega)).take n)
        have := PElems.kept h.kept _ (fun {o v} hc => by rw [h.w]; exact hc) this
        rw [h.w] at this
        exact this
  | bxs cs =>
    simp only [frzRow]
    cases hps : allPv cs with
    | none => simp only [VRel]
    | some ps =>
      simp only
      split
      · rename_i h1p
        simp only [Row.rel] at h1
        simp only [VRel] at hv
        simp only [VRel, PRel, h.w]
        have hwf := onesP_wf h1p
        obtain ⟨hok0, ⟨hs, hln, hcap⟩, ⟨arr, et, hh, _⟩, hc⟩ := h1
        obtain ⟨vs, h2v, h3v⟩ := hc.list
        have hrels := allPv_rel hps h2v
        have hlen : ps.length = cs.length := by
          have e1 := hrels.length
          have e2 := h2v.length
          omega
        rcases hv with ⟨rfl, _, ad, rfl⟩ | ⟨c, hok, rfl, h2, h3, h4⟩
        · exact ⟨ad, 0, 0, rfl, by simp, Nat.le_refl _, fun hn => absurd hn (by omega)⟩
        · have hE := onesP_elems h1p (PCells.of hrels h3v)
          refine ⟨_, n, c, rfl, by rw [List.length_take, List.length_drop]; omega, h2, fun _ => ⟨_, _, rfl, (Array.getElem?_eq_some_iff.1 hh).1, h.out hok, ?_⟩⟩
          rw [hs]
          have := ((hE.drop off (fun p hp => (hwf p hp).1) (by omega)).take n)
          have := PElems.kept h.kept _ (fun {o v} hc => by rw [h.w]; exact hc) this
          rw [h.w] at this
          exact this
      · simp only [VRel]
  | _ => simp only [frzRow, VRel]

theorem frzPtr_rel {r off : Nat} {row : Row} {cv : Value} (h : Frz e σ x y a r row) (hv : VRel x (.ptr r off) cv) : VRel y (frzPtr off row) cv := by
  have h1 := h.s.st r _ h.m
  cases row with
  | box cs =>
    simp only [Row.rel] at h1
    obtain ⟨hok, ⟨arr, et, hh, _⟩, hc⟩ := h1
    simp only [VRel] at hv
    subst hv
    simp only [frzPtr]
    split
    · rename_i ps hps
      obtain ⟨vs, h2, h3⟩ := hc.list
      have hp := PCells.of (allPv_rel hps h2) h3
      have hp' := PCells.kept h.kept _ (fun {o v} hc => by rw [h.w]; exact hc) hp
      have hlt := (Array.getElem?_eq_some_iff.1 hh).1
      split
      · rename_i h0
        subst h0
        simp only [VRel, PRel, Nat.add_zero]
        exact ⟨_, _, rfl, by rw [h.w]; exact hlt, h.out hok, hp'⟩
      · simp only [VRel]
        exact ⟨_, _, rfl, by rw [h.w]; exact hlt, h.out hok, hp'⟩
    · simp only [VRel]
  | _ => simp only [frzPtr, VRel]

mutual
theorem VRel.frz {r : Nat} {row : Row} (h : Frz e σ x y a r row) : ∀ (v : AV) {cv : Value}, VRel x v cv → VRel y (v.frz r row) cv
  | .un, _, _ => by simp only [AV.frz, VRel]
  | .pv p, _, hv => by simp only [AV.frz, VRel] at hv ⊢; exact PRel.kept h.kept p hv
  | .agg cs, _, hv => by
    simp only [VRel] at hv
    simp only [AV.frz]
    obtain ⟨vs, rfl, hv⟩ := hv
    exact mkAgg_rel (VRels.frz h cs hv)
  | .tup cs, _, hv => by
    simp only [AV.frz, VRel] at hv ⊢
    obtain ⟨vs, e1, hv⟩ := hv
    exact ⟨vs, e1, VRels.frz h cs hv⟩
  | .e0, _, hv => by simpa only [AV.frz, VRel] using hv
  | .lit _, _, _ => by simp only [AV.frz, VRel]
  | .row q off n, _, hv => by
    simp only [AV.frz]
    split
    · rename_i hq; subst hq; exact frzRow_rel h hv
    · simp only [VRel, h.ρ] at hv ⊢; exact hv
  | .ptr q off, _, hv => by
    simp only [AV.frz]
    split
    · rename_i hq; subst hq; exact frzPtr_rel h hv
    · simp only [VRel, h.ρ] at hv ⊢; exact hv
  | .rptr q i off, _, hv => by
    simp only [AV.frz]
    split
    · simp only [VRel]
    · simp only [VRel, h.ρ] at hv ⊢; exact hv
  | .eptr xs i off, cv, hv => by
    have := VRel.kept h.kept h.ρ (a := .eptr xs i off) hv
    simpa only [AV.frz] using this
  | .cptr cs off, cv, hv => by
    have := VRel.kept h.kept h.ρ (a := .cptr cs off) hv
    simpa only [AV.frz] using this
  | .fn f caps, _, hv => by
    simp only [VRel] at hv
    simp only [AV.frz]
    obtain ⟨vs, rfl, hv⟩ := hv
    have := VRels.frz h caps hv
    unfold allPvs
    split
    · rename_i ps hps
      simp only [VRel, PRel]
      exact ⟨vs, rfl, allPv_rel hps this⟩
    · simp only [VRel]
      exact ⟨vs, rfl, this⟩
  | .mp q, _, hv => by
    simp only [AV.frz]
    split
    · simp only [VRel]
    · simp only [VRel, h.ρ] at hv ⊢; exact hv
  | .it q, _, hv => by
    simp only [AV.frz]
    split
    · simp only [VRel]
    · simp only [VRel, h.ρ] at hv ⊢; exact hv
  | .whn c v, _, hv => by
    simp only [AV.frz, VRel] at hv ⊢
    exact ⟨fun hc => VRel.frz h v (hv.1 hc), hv.2⟩
theorem VRels.frz {r : Nat} {row : Row} (h : Frz e σ x y a r row) : ∀ (vs : List AV) {cvs : List Value}, VRels x vs cvs → VRels y (AV.frzs r row vs) cvs
  | [], _, hv => by simpa only [AV.frzs, VRels] using hv
  | v :: vs, _, hv => by
    simp only [AV.frzs, VRels] at hv ⊢
    obtain ⟨c, l, e1, h1, h2⟩ := hv
    exact ⟨c, l, e1, VRel.frz h v h1, VRels.frz h vs h2⟩
end
theorem ACells.frz {r : Nat} {row : Row} (h : Frz e σ x y a r row) : ∀ (vs : List AV) {b o' : Nat}, ACells x vs b o' → ACells y (AV.frzs r row vs) b o'
  | [], _, _, _ => by simp only [AV.frzs, ACells]
  | v :: vs, b, o', hv => by
    simp only [AV.frzs, ACells] at hv ⊢
    obtain ⟨⟨u, h1, h2⟩, h3⟩ := hv
    exact ⟨⟨u, by rw [h.w]; exact h1, VRel.frz h v h2⟩, ACells.frz h vs h3⟩

theorem SRel.frz1 (h : SRel e σ x a) (r : Nat) : ∃ y, y.w = x.w ∧ SRel e (σ.frz1 r) y a := by
  unfold St.frz1
  split
  · rename_i row hr
    have hm := stGet_mem hr
    let y : Cx := ⟨x.w, fun b => e.F0 b ∨ Own (stFrz r row (stDel σ.st r)) x.ρ b, x.ρ⟩
    have old : ∀ q u, (q, u) ∈ stFrz r row (stDel σ.st r) → q ≠ r ∧ ∃ u', (q, u') ∈ σ.st ∧ u = u'.frz r row := fun q u hq => by
      obtain ⟨u', h1, h2⟩ := stFrz_mem hq
      obtain ⟨h3, h4⟩ := stDel_mem h1
      exact ⟨h4, u', h3, h2⟩
    have hz : Frz e σ x y a r row := {
      s := h
      m := hm
      w := rfl
      ρ := rfl
      F := fun b hb => (h.F b).2 (hb.imp id fun ⟨q, u, h1, h2⟩ => by
        obtain ⟨_, u', h3, _⟩ := old q u h1
        exact ⟨q, u', h3, h2⟩)
      out := fun hok hb => by
        rcases hb with hb | ⟨q, u, h1, h2, h3⟩
        · have h8 := h.f0 _ hb
          rcases h.own r row hm hok with h9 | h9
          · omega
          · exact h8.2 h9
        · obtain ⟨hq, u', h4, _⟩ := old q u h1
          exact h.inj q u' r row h4 hm hq h2 hok h3 }
    refine ⟨y, rfl, {
      defers := h.defers
      size := h.size
      fr := fun k v hk => by
        obtain ⟨u, h1, rfl⟩ := frFrz_mem hk
        obtain ⟨cv, h2, h3⟩ := h.fr k u h1
        exact ⟨cv, h2, VRel.frz hz u h3⟩
      st := fun q u hq => by
        obtain ⟨hne, u', h1, rfl⟩ := old q u hq
        have h2 := h.st q u' h1
        cases u' with
        | box cs =>
          simp only [Row.rel, Row.frz, frzs_length] at h2 ⊢
          exact ⟨h2.1, h2.2.1, ACells.frz hz cs h2.2.2⟩
        | bxs cs =>
          simp only [Row.rel, Row.frz, frzs_length] at h2 ⊢
          exact ⟨h2.1, h2.2.1, h2.2.2.1, ACells.frz hz cs h2.2.2.2⟩
        | slf s xs => exact Row.clip_rel hz.kept (D := only r) (fun _ _ => rfl) (fun _ => rfl) h2
        | sl s xs => exact Row.clip_rel hz.kept (D := only r) (fun _ _ => rfl) (fun _ => rfl) h2
        | mp es => exact Row.clip_rel hz.kept (D := only r) (fun _ _ => rfl) (fun _ => rfl) h2
        | sit s pos => exact Row.clip_rel hz.kept (D := only r) (fun _ _ => rfl) (fun _ => rfl) h2
        | mit m n rem cur =>
          have := Row.clip_rel hz.kept (D := fun _ => false) (fun _ _ => rfl) (fun _ => rfl) h2
          simp only [Row.clip, Bool.false_eq_true, if_false] at this
          exact this
        | mpd es clock => exact Row.clip_rel hz.kept (D := only r) (fun _ _ => rfl) (fun _ => rfl) h2
        | mid m n bs rem cur =>
          have := Row.clip_rel hz.kept (D := fun _ => false) (fun _ _ => rfl) (fun _ => rfl) h2
          simp only [Row.clip, Bool.false_eq_true, if_false] at this
          exact this
        | gone => exact Row.clip_rel hz.kept (D := only r) (fun _ _ => rfl) (fun _ => rfl) h2
      keys := by rw [stFrz_keys]; exact stDel_keys h.keys
      inj := fun q u q' u' hq hq' => by
        obtain ⟨_, u1, h1, _⟩ := old q u hq
        obtain ⟨_, u2, h2, _⟩ := old q' u' hq'
        exact h.inj q u1 q' u2 h1 h2
      F := fun b => Iff.rfl
      own := fun q u hq => by
        obtain ⟨_, u1, h1, _⟩ := old q u hq
        exact h.own q u1 h1
      f0 := h.f0
      tabs := h.tabs
      below := h.below
      fix := h.fix
      small := h.small }⟩
  · exact ⟨x, rfl, h⟩
theorem SRel.frzs {e : Env} {a : Act} : ∀ (rs : List Nat) {σ : St} {x : Cx}, SRel e σ x a → ∃ y, y.w = x.w ∧ SRel e (σ.frzs rs) y a
  | [], _, x, h => ⟨x, rfl, h⟩
  | r :: rs, σ, x, h => by
    obtain ⟨y, h1, h2⟩ := h.frz1 r
    obtain ⟨z, h3, h4⟩ := SRel.frzs rs h2
    exact ⟨z, h3.trans h1, h4⟩
end
section
variable {P : Program} {e : Env} {σ : St} {x : Cx} {a : Act} {o : Oper}
theorem l_callz [EP e P] (h : SRel e σ x a) (d : Nat) (hd : d < e.n) (hdst : o.dst = some d) {yf : Operand} {ys : Array Operand} {ts : Array TypeId} (ho : o.op = .call { callee := .value yf, args := ys, argTypes := ts })
    {vf : AV} (hf : VRel x vf (a.eval yf)) {g : FuncId} {caps : List AV} (hg : calleeOf vf = some (g, caps)) {zs : List Opd} (hz : opdsOf ys.toList = some zs) (hc : cds σ zs = true)
    {ps : List PV} (hs : snapL (snap σ.st 4) (evs σ zs ++ caps) = some ps) {v : AV} {rs : List (Nat × List PV)} (hF : Fn P g ps v rs) (hfl : allPure (evs σ zs ++ caps) = true ∨ (v.flat = true ∧ flatRows rs)) (hok : okRows v rs)
    {K : St → Prop} (r : Nat) (hK : K ((σ.after d v rs).frz1 r)) : LStep P e o a x.w K := by
  intro Q
  have hargs := opds_rel h hz hc
  have hcaps : ∃ cvs : List Value, a.eval yf = .func (.func g) #[] ⟨cvs⟩ ∧ VRels x caps cvs := by
    unfold calleeOf at hg
    split at hg
    · injection hg with hg; injection hg with h1 h2; subst h1; subst h2
      simp only [VRel] at hf
      exact hf
    · injection hg with hg; injection hg with h1 h2; subst h1; subst h2
      simp only [VRel, PRel] at hf
      obtain ⟨vs, e1, h1⟩ := hf
      exact ⟨vs, e1, h1.vrels⟩
    · cases hg
  obtain ⟨cvs, he, hcv⟩ := hcaps
  have hall := hargs.append hcv
  have hrun : (execOp a.eval o).run P x.w = .ok (.enter g ⟨ys.toList.map a.eval ++ cvs⟩) x.w := by
    have e1 : ys.map a.eval ++ (⟨cvs⟩ : Array Value) = ⟨ys.toList.map a.eval ++ cvs⟩ := Array.toList_inj.1 (by simp)
    have hE : (callFunc g ⟨ys.toList.map a.eval ++ cvs⟩).run P x.w = .ok (.enter g ⟨ys.toList.map a.eval ++ cvs⟩) x.w := hF.1 _ _
    simp [execOp, ho, resolve, Deferred.ofValue, he, invoke, e1, hE]
  have hlt : ∀ b, x.F b → b < x.w.heap.size := fun b hb => F_lt h hb
  unfold Oper.wp
  rw [hrun, Oper.upon_enter, hdst]
  rcases hfl with hp | ⟨h1, h2⟩
  · refine (hF.2 x.w x.F _ hlt h.now (snap_pure hp hs hall)).mono fun en w' ⟨cv, y, e1, e2, hr⟩ => ?_
    subst e1
    obtain ⟨z, g1, g2⟩ := after_res h hd hr hok
    obtain ⟨z', q1, q2⟩ := g1.frz1 r
    exact ⟨_, z', q2, (q1.trans g2).trans e2, hK, by rw [← e2]; exact below_agr hr.below⟩
  · refine (hF.2 x.w (fun _ => False) _ (fun b hb => hb.elim) (h.now.sub fun b hb => hb.elim) (snapL_rel (fun v p cv g1 g2 => snap_rel h 4 v p cv g1 g2) hs hall)).mono fun en w' ⟨cv, y, e1, e2, hr⟩ => ?_
    subst e1
    obtain ⟨z, g1, g2⟩ := after_res h hd (hr.flat (G := x.F) h1 h2) hok
    obtain ⟨z', q1, q2⟩ := g1.frz1 r
    exact ⟨_, z', q2, (q1.trans g2).trans e2, hK, by rw [← e2]; exact below_agr hr.below⟩

end
end Go.Vc
