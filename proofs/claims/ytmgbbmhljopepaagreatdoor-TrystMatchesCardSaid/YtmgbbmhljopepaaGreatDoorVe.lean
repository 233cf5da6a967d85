/- A part of the proofs of the seat YtmgbbmhljopepaaGreatDoor: the layer that turns the code of a function into what is to be shown (verification conditions), proved sound. -/
import Derived.Test.YtmgbbmhljopepaaGreatDoorVd
import Derived.Test.YtmgbbmhljopepaaGreatDoorVc
import Derived.ChangeArms
import Derived.ChangeShapes
import Derived.WideShapes
import Derived.Carry
import Derived.ProofKit
import Derived.OpenShut
import Derived.Below
import Derived.ChangeOld
import Derived.ShutString
import Derived.Sort.Row
import Derived.Sort.Grow
import Derived.Sort.EncStr
import Derived.Deep.DeepLaidRun
import Derived.LaidLaws
import Derived.Defers
namespace Go.Vc
open Go.RowKit
section
variable {e : Env} {σ : St} {x : Cx} {a : Act}
theorem PRel.less {w : World} {F G : Nat → Prop} (hG : ∀ b, G b → F b) {p : PV} {v : Value} (h : PRel w F p v) : PRel w G p v :=
 PRel.kept (x := ⟨w, F, fun _ => default⟩) (y := ⟨w, G, fun _ => default⟩) ⟨Nat.le_refl _, fun _ _ _ => rfl, fun b _ h => hG b h⟩ p h
theorem PElems.less {w : World} {F G : Nat → Prop} (hG : ∀ b, G b → F b) {ps : List PV} {b o' : Nat} (h : PElems w F ps b o') : PElems w G ps b o' :=
 PElems.kept (x := ⟨w, F, fun _ => default⟩) (y := ⟨w, G, fun _ => default⟩) ⟨Nat.le_refl _, fun _ _ _ => rfl, fun b _ h => hG b h⟩ ps (fun h => h) h
theorem PCells.less {w : World} {F G : Nat → Prop} (hG : ∀ b, G b → F b) {ps : List PV} {b o' : Nat} (h : PCells w F ps b o') : PCells w G ps b o' :=
 PCells.kept (x := ⟨w, F, fun _ => default⟩) (y := ⟨w, G, fun _ => default⟩) ⟨Nat.le_refl _, fun _ _ _ => rfl, fun b _ h => hG b h⟩ ps (fun h => h) h
theorem snapL_relG {G : Nat → Prop} {g : AV → Option PV} (hg : ∀ v p cv, g v = some p → VRel x v cv → PRel x.w G p cv) : ∀ {vs : List AV} {ps : List PV} {cvs : List Value}, snapL g vs = some ps → VRels x vs cvs → PRels x.w G ps cvs
 | [], _, _, h, hv => by simp only [snapL, Option.some.injEq] at h; subst h; simpa only [VRels, PRels] using hv
 | v :: vs, ps, cvs, h, hv => by
  simp only [snapL] at h
  split at h
  ·rename_i p qs h1 h2
   injection h with h; subst h
   simp only [VRels] at hv
   obtain ⟨c, r, rfl, h3, h4⟩ := hv
   simp only [PRels]
   exact ⟨c, r, rfl, hg _ _ _ h1 h3, snapL_relG hg h2 h4⟩
  ·cases h
theorem snap_relG (h : SRel e σ x a) {st : List (Nat × Row)} {G : Nat → Prop} (hsub : ∀ r row, (r, row) ∈ st → (r, row) ∈ σ.st) (hG : ∀ b, G b → x.F b)
  (hst : ∀ r row, (r, row) ∈ st → (x.ρ r).ok = true → ¬ G (x.ρ r).blk) : ∀ (k : Nat) (v : AV) (p : PV) (cv : Value), snap st k v = some p → VRel x v cv → PRel x.w G p cv
 | 0, v, p, cv, hs, _ => by simp [snap] at hs
 | k + 1, v, p, cv, hs, hv => by
  have ih : ∀ {vs : List AV} {ps : List PV} {cvs : List Value}, snapL (snap st k) vs = some ps → VRels x vs cvs → PRels x.w G ps cvs := fun h1 h2 => snapL_relG (x := x) (g := snap st k) (fun v p cv h1 h2 => snap_relG h hsub hG hst k v p cv h1 h2) h1 h2
  unfold snap at hs
  split at hs
  ·injection hs with hs; subst hs; simp only [VRel] at hv; exact hv.less hG
  ·injection hs with hs; subst hs
   simp only [VRel] at hv
   obtain ⟨ad, rfl⟩ := hv
   simp only [PRel]
   exact ⟨ad, 0, 0, rfl, rfl, Nat.le_refl _, fun hn => absurd hn (by omega)⟩
  ·split at hs
   ·rename_i ps hps
    injection hs with hs; subst hs
    simp only [VRel] at hv
    obtain ⟨vs, rfl, hv⟩ := hv
    simp only [PRel]
    exact ⟨vs, rfl, ih hps hv⟩
   ·cases hs
  ·split at hs
   ·rename_i ps hps
    injection hs with hs; subst hs
    simp only [VRel] at hv
    obtain ⟨vs, rfl, hv⟩ := hv
    simp only [PRel]
    exact ⟨vs, rfl, ih hps hv⟩
   ·cases hs
  ·split at hs
   ·rename_i ps hps
    injection hs with hs; subst hs
    simp only [VRel] at hv
    obtain ⟨vs, rfl, hv⟩ := hv
    simp only [PRel]
    exact ⟨vs, rfl, ih hps hv⟩
   ·cases hs
  ·rename_i r off n
   split at hs
   ·rename_i s xs hr
    injection hs with hs; subst hs
    have hm := stGet_mem hr
    have h1 := h.st r _ (hsub _ _ hm)
    simp only [Row.rel] at h1
    simp only [VRel] at hv
    simp only [PRel]
    rcases hv with ⟨rfl, _, ad, rfl⟩ | ⟨c, hok, rfl, h2, h3, h4⟩
    ·exact ⟨ad, 0, 0, rfl, by simp, Nat.le_refl _, fun hn => absurd hn (by omega)⟩
    ·rcases h1 with ⟨h1, _⟩ | ⟨hs, _, ⟨hln, _⟩, hwf, ⟨arr, et, hh, _⟩, hE⟩
     ·rw [h1] at hok; cases hok
     ·rw [hln] at h4
      refine ⟨_, n, c, rfl, by rw [List.length_take, List.length_drop]; omega, h2, fun _ => ⟨_, _, rfl, (Array.getElem?_eq_some_iff.1 hh).1, hst r _ hm hok, ?_⟩⟩
      rw [hs]
      exact ((hE.drop off (fun p hp => (hwf p hp).1) (by omega)).take n).less hG
   ·cases hs
  ·rename_i r
   split at hs
   ·rename_i cs hr
    split at hs
    ·rename_i ps hps
     injection hs with hs; subst hs
     have hm := stGet_mem hr
     have h1 := h.st r _ (hsub _ _ hm)
     simp only [Row.rel] at h1
     obtain ⟨hok, ⟨arr, et, hh, _⟩, hc⟩ := h1
     simp only [VRel] at hv
     subst hv
     simp only [PRel]
     obtain ⟨vs, h2, h3⟩ := hc.list
     exact ⟨_, _, rfl, (Array.getElem?_eq_some_iff.1 hh).1, hst r _ hm hok, PCells.of (ih hps h2) h3⟩
    ·cases hs
   ·cases hs
  ·injection hs with hs; subst hs
   simp only [VRel] at hv
   obtain ⟨b, o', rfl, h1, h2, h3⟩ := hv
   simp only [PRel]
   exact ⟨b, o', rfl, h1, fun h => h2 (hG _ h), h3.less hG⟩
  ·cases hs
inductive RV where
 | tmp (t : Nat)
 | cell (t n : Nat) (agg : Bool)
def rvsOf (P : Program) : List ResultVar → Option (List RV)
 | [] => some []
 | .tmp t :: r => match rvsOf P r with
  | some qs => some (.tmp t :: qs)
  | none => none
 | .cell t ty :: r => match rvsOf P r, P.underlying ty, P.info? ty with
  | some qs, some _, some i => some (.cell t i.size (aggOf P ty) :: qs)
  | _, _, _ => none
def resAV (σ : St) : List RV → Option (List AV)
 | [] => some []
 | .tmp t :: r => match resAV σ r with
  | some vs => some (frGet σ.fr t :: vs)
  | none => none
 | .cell t n agg :: r => match resAV σ r, frGet σ.fr t with
  | some vs, .ptr row 0 => match stGet σ.st row with
   | some (.box cs) => if cs.length = n ∧ (agg = true ∨ n = 1) then some (acut cs 0 n agg :: vs) else none
   | _ => none
  | _, _ => none
def stDels (st : List (Nat × Row)) : List Nat → List (Nat × Row)
 | [] => st
 | r :: rs => stDel (stDels st rs) r
def outAV (st : List (Nat × Row)) (ids : List Nat) : AV → Option AV
 | .row r off n => match ids.idxOf? r with
  | some i => some (.row i off n)
  | none => match snap (stDels st ids) 5 (.row r off n) with
   | some p => some (.pv p)
   | none => none
 | v => match snap (stDels st ids) 5 v with
  | some p => some (.pv p)
  | none => none
def outAVs (st : List (Nat × Row)) (ids : List Nat) : List AV → Option (List AV)
 | [] => some []
 | v :: vs => match outAV st ids v, outAVs st ids vs with
  | some u, some us => some (u :: us)
  | _, _ => none
def outRows (st : List (Nat × Row)) : List Nat → Option (List (Nat × List PV))
 | [] => some []
 | r :: rs => match stGet st r, outRows st rs with
  | some (.sl s xs), some us => some ((s, xs) :: us)
  | _, _ => none
def packTup : List AV → AV
 | [v] => v
 | vs => .tup vs
def packAV (vs : List AV) : AV := match allPv vs with
 | some ps => (match ps with
  | [p] => .pv p
  | ps => .pv (.tup ps))
 | none => packTup vs
def idsOf : List Bool → List AV → List Nat
 | true :: hs, .row r _ _ :: us => r :: idsOf hs us
 | _ :: hs, _ :: us => idsOf hs us
 | _, _ => []
def RetOk (rvs : List RV) (ids : List Bool) (v : AV) (rs : List (Nat × List PV)) (σ : St) : Prop :=
 match resAV σ rvs with
 | some us => match outAVs σ.st (idsOf ids us) us with
  | some vs => (idsOf ids us).Nodup ∧ outRows σ.st (idsOf ids us) = some rs ∧ packAV vs = v
  | none => False
 | none => False
def retK (rvs : List RV) (ids : List Bool) (v : AV) (rs : List (Nat × List PV)) : Exit → St → Prop
 | .normal, σ => RetOk rvs ids v rs σ
 | .ret, σ => RetOk rvs ids v rs σ
 | _, _ => False
def entry : Nat → List PV → List (Nat × AV)
 | _, [] => []
 | i, p :: ps => (i, .pv p) :: entry (i + 1) ps
theorem stDels_mem {st : List (Nat × Row)} : ∀ {ids : List Nat} {r : Nat} {row : Row}, (r, row) ∈ stDels st ids → (r, row) ∈ st ∧ r ∉ ids
 | [], _, _, h => ⟨h, by simp⟩
 | i :: ids, r, row, h => by
  simp only [stDels] at h
  obtain ⟨h1, h2⟩ := stDel_mem h
  obtain ⟨h3, h4⟩ := stDels_mem h1
  exact ⟨h3, by simp [h2, h4]⟩
theorem outRows_at {st : List (Nat × Row)} : ∀ {ids : List Nat} {rs : List (Nat × List PV)}, outRows st ids = some rs → rs.length = ids.length ∧ ∀ i r : Nat, ids[i]? = some r → ∃ (s : Nat) (xs : List PV), rs[i]? = some (s, xs) ∧ (r, Row.sl s xs) ∈ st
 | [], rs, h => by simp only [outRows, Option.some.injEq] at h; subst h; exact ⟨rfl, fun i r hi => by simp at hi⟩
 | q :: ids, rs, h => by
  simp only [outRows] at h
  split at h
  ·rename_i s xs us h1 h2
   injection h with h; subst h
   obtain ⟨g1, g2⟩ := outRows_at h2
   refine ⟨by simp [g1], fun i r hi => ?_⟩
   cases i with
   | zero =>
    simp only [List.getElem?_cons_zero, Option.some.injEq] at hi
    subst hi
    exact ⟨s, xs, rfl, stGet_mem h1⟩
   | succ i => simpa using g2 i r (by simpa using hi)
  ·cases h
theorem packAV_rel {y : Cx} {vs : List AV} {cvs : List Value} (h : VRels y vs cvs) :
  VRel y (packAV vs) (if h : (⟨cvs⟩ : Array Value).size = 1 then (⟨cvs⟩ : Array Value)[0] else .tuple ⟨cvs⟩) := by
 have tup : VRel y (packTup vs) (if h : (⟨cvs⟩ : Array Value).size = 1 then (⟨cvs⟩ : Array Value)[0] else .tuple ⟨cvs⟩) := by
  match vs, h with
  | [], h =>
   simp only [VRels] at h; subst h
   simp [packTup, VRel, VRels]
  | [v], h =>
   simp only [VRels] at h
   obtain ⟨c, r, rfl, h1, rfl⟩ := h
   simpa [packTup] using h1
  | v :: v' :: vs, h =>
   have h' := h
   simp only [VRels] at h
   obtain ⟨c, r, rfl, h1, c', r', rfl, h2, h3⟩ := h
   simp only [packTup, List.size_toArray, List.length_cons]
   rw [dif_neg (by omega)]
   simp only [VRel]
   exact ⟨_, rfl, h'⟩
 unfold packAV
 cases hp : allPv vs with
 | none => simpa only [hp] using tup
 | some ps =>
  have hps := allPv_rel hp h
  match ps, hps with
  | [], hps =>
   simp only [PRels] at hps; subst hps
   simp [VRel, PRel, PRels]
  | [v], hps =>
   simp only [PRels] at hps
   obtain ⟨c, r, rfl, h1, rfl⟩ := hps
   simpa [VRel] using h1
  | v :: v' :: ps, hps =>
   have h' := hps
   simp only [PRels] at hps
   obtain ⟨c, r, rfl, h1, c', r', rfl, h2, h3⟩ := hps
   simp only [List.size_toArray, List.length_cons]
   rw [dif_neg (by omega)]
   simp only [VRel, PRel]
   exact ⟨_, rfl, h'⟩
theorem outAVs_rel (h : SRel e σ x a) {ids : List Nat} {y : Cx} (hw : y.w = x.w) (hρ : ∀ i r : Nat, ids[i]? = some r → y.ρ i = x.ρ r) (hF : ∀ b, y.F b → x.F b)
  (hst : ∀ r row, (r, row) ∈ stDels σ.st ids → (x.ρ r).ok = true → ¬ y.F (x.ρ r).blk) : ∀ {us vs : List AV} {cvs : List Value}, outAVs σ.st ids us = some vs → VRels x us cvs → VRels y vs cvs
 | [], vs, cvs, ho, hv => by
  simp only [outAVs, Option.some.injEq] at ho; subst ho
  simpa only [VRels] using hv
 | u :: us, vs, cvs, ho, hv => by
  simp only [outAVs] at ho
  split at ho
  ·rename_i v vs' h1 h2
   injection ho with ho; subst ho
   simp only [VRels] at hv ⊢
   obtain ⟨c, r, rfl, h3, h4⟩ := hv
   refine ⟨c, r, rfl, ?_, outAVs_rel h hw hρ hF hst h2 h4⟩
   have sn : ∀ {v : AV} {p : PV}, snap (stDels σ.st ids) 5 v = some p → VRel x v c → VRel y (.pv p) c := fun hs hv => by
    simp only [VRel]
    rw [hw]
    exact snap_relG h (fun r row hm => (stDels_mem hm).1) hF hst 5 _ _ _ hs hv
   unfold outAV at h1
   split at h1
   ·rename_i q off n
    split at h1
    ·rename_i i hi
     injection h1 with h1; subst h1
     have hi' : ids[i]? = some q := by
      have := List.of_findIdx?_eq_some (p := (· == q)) (xs := ids) (i := i) (by simpa [List.idxOf?] using hi)
      split at this
      ·rename_i z hz; rw [hz]; simpa using this
      ·cases this
     simp only [VRel] at h3 ⊢
     rw [hρ i q hi']
     exact h3
    ·split at h1
     ·rename_i p hp
      injection h1 with h1; subst h1
      exact sn hp h3
     ·cases h1
   ·split at h1
    ·rename_i p hp
     injection h1 with h1; subst h1
     exact sn hp h3
    ·cases h1
  ·cases ho
theorem res_of (h : SRel e σ x a) (hL : ∀ b, ¬ e.L b) {ids : List Nat} {rs : List (Nat × List PV)} {us vs : List AV} {cvs : List Value} (h1 : outAVs σ.st ids us = some vs) (h2 : ids.Nodup) (h3 : outRows σ.st ids = some rs) (h4 : VRels x us cvs) :
  ∃ y, y.w = x.w ∧ Res e.w0 e.F0 y (packAV vs) rs (if h : (⟨cvs⟩ : Array Value).size = 1 then (⟨cvs⟩ : Array Value)[0] else .tuple ⟨cvs⟩) := by
 obtain ⟨hl, hat⟩ := outRows_at h3
 have has : ∀ i : Nat, i < rs.length → ∃ r, ids[i]? = some r ∧ ids.getD i 0 = r ∧ ∃ s xs, rs[i]? = some (s, xs) ∧ (r, Row.sl s xs) ∈ σ.st := fun i hi => by
  have hi' : i < ids.length := by omega
  obtain ⟨s, xs, g1, g2⟩ := hat i ids[i] (by simp [hi'])
  exact ⟨ids[i], by simp [hi'], by simp [List.getD_eq_getElem?_getD, hi'], s, xs, g1, g2⟩
 let ρ' : Nat → Loc := fun i => x.ρ (ids.getD i 0)
 let F' : Nat → Prop := fun b => e.F0 b ∨ ∃ i, i < rs.length ∧ (ρ' i).ok = true ∧ (ρ' i).blk = b
 have hF : ∀ b, F' b → x.F b := fun b hb => (h.F b).2 (hb.imp id fun ⟨i, hi, g1, g2⟩ => by
  obtain ⟨r, k1, k2, s, xs, k3, k4⟩ := has i hi
  refine ⟨r, _, k4, ?_, ?_⟩
  ·rw [← k2]; exact g1
  ·rw [← k2]; exact g2)
 refine ⟨⟨x.w, F', ρ'⟩, rfl, {
  below := ⟨h.below.os, h.below.tape, h.below.output, h.below.size, fun k hk => h.below.block k hk (hL k), h.below.drawn⟩
  val := packAV_rel (outAVs_rel h (y := ⟨x.w, F', ρ'⟩) rfl (fun i r hi => by
   show x.ρ (ids.getD i 0) = x.ρ r
   simp [List.getD_eq_getElem?_getD, hi]) hF (fun r row hm hok hb => ?_) h1 h4)
  rows := fun i s xs hi => ?_
  inj := fun i j hi hj hij hoi hoj => ?_
  fresh := fun i hi hok => ?_
  F := fun b => Iff.rfl }⟩
 ·obtain ⟨m1, m2⟩ := stDels_mem hm
  rcases hb with hb | ⟨i, hi, g1, g2⟩
  ·have := (h.f0 _ hb).1
   rcases h.own r row m1 hok with h9 | h9
   ·omega
   ·exact hL _ h9
  ·obtain ⟨q, k1, k2, s, xs, k3, k4⟩ := has i hi
   have hq : q ≠ r := fun hq => m2 (by rw [← hq]; exact List.mem_of_getElem? k1)
   have g1' : (x.ρ q).ok = true := by rw [← k2]; exact g1
   have g2' : (x.ρ q).blk = (x.ρ r).blk := by rw [← k2]; exact g2
   exact h.inj q _ r row k4 m1 hq g1' hok g2'
 ·have hi' : i < rs.length := by
   rcases Nat.lt_or_ge i rs.length with h | h
   ·exact h
   ·rw [List.getElem?_eq_none h] at hi; cases hi
  obtain ⟨r, k1, k2, s', xs', k3, k4⟩ := has i hi'
  rw [hi] at k3
  injection k3 with k3
  injection k3 with k3 k5
  subst k3; subst k5
  have := Row.kept (x := x) (y := ⟨x.w, F', x.ρ⟩) ⟨Nat.le_refl _, fun _ _ _ => rfl, fun b _ hb => hF b hb⟩ rfl (fun _ => rfl) (h.st r _ k4)
  show (Row.sl s xs).rel _ (x.ρ (ids.getD i 0))
  rw [k2]
  simp only [Row.rel] at this ⊢
  exact this
 ·obtain ⟨r, k1, k2, s, xs, k3, k4⟩ := has i hi
  obtain ⟨q, l1, l2, s', xs', l3, l4⟩ := has j hj
  have hne : r ≠ q := fun hrq => by
   subst hrq
   have hil : i < ids.length := by omega
   have hjl : j < ids.length := by omega
   have e1 : ids[i] = r := by simpa [hil] using k1
   have e2 : ids[j] = r := by simpa [hjl] using l1
   exact hij ((List.getElem_inj h2).1 (e1.trans e2.symm))
  have := h.inj r _ q _ k4 l4 hne (by rw [← k2]; exact hoi) (by rw [← l2]; exact hoj)
  show (x.ρ (ids.getD i 0)).blk ≠ (x.ρ (ids.getD j 0)).blk
  rw [k2, l2]; exact this
 ·obtain ⟨r, k1, k2, s, xs, k3, k4⟩ := has i hi
  have := h.own r _ k4 (by rw [← k2]; exact hok)
  show e.w0.heap.size ≤ (x.ρ (ids.getD i 0)).blk
  rw [k2]; exact this.resolve_right (hL _)
def resOne (tmps : Array Value) : ResultVar → Sem Value
 | .tmp t => pure (tmps.getD t undef)
 | .cell a t => do loadVar t (← asAddr (tmps.getD a undef))
theorem resList_run {P : Program} (h : SRel e σ x a) : ∀ {rvs : List ResultVar} {qs : List RV} {us : List AV}, rvsOf P rvs = some qs → resAV σ qs = some us → ∃ cvs, VRels x us cvs ∧ (rvs.mapM (resOne a.tmps)).run P x.w = .ok cvs x.w
 | [], qs, us, hq, hr => by
  simp only [rvsOf, Option.some.injEq] at hq; subst hq
  simp only [resAV, Option.some.injEq] at hr; subst hr
  exact ⟨[], by simp only [VRels], by simp⟩
 | .tmp t :: rvs, qs, us, hq, hr => by
  simp only [rvsOf] at hq
  split at hq
  ·rename_i qs' hqs
   injection hq with hq; subst hq
   simp only [resAV] at hr
   split at hr
   ·rename_i vs hvs
    injection hr with hr; subst hr
    obtain ⟨cvs, h1, h2⟩ := resList_run h hqs hvs
    exact ⟨_ :: cvs, by simp only [VRels]; exact ⟨_, _, rfl, h.get t, h1⟩, by simp [List.mapM_cons, resOne, h2]⟩
   ·cases hr
  ·cases hq
 | .cell t ty :: rvs, qs, us, hq, hr => by
  simp only [rvsOf] at hq
  split at hq
  ·rename_i qs' d i hqs hd hi
   injection hq with hq; subst hq
   simp only [resAV] at hr
   split at hr
   ·rename_i vs row hvs hp
    split at hr
    ·rename_i cs hst
     split at hr
     ·rename_i hc
      injection hr with hr; subst hr
      obtain ⟨cvs, h1, h2⟩ := resList_run h hqs hvs
      have hv := h.get t
      rw [hp] at hv
      simp only [VRel, Nat.add_zero] at hv
      have hrow := h.st row _ (stGet_mem hst)
      simp only [Row.rel] at hrow
      obtain ⟨hok, _, hcells⟩ := hrow
      have hcut := hcells.cut 0 i.size (by omega)
      obtain ⟨ws, g1, g2, g3⟩ := hcut
      have hload := run_loadVar hd hi (x.ρ row).blk ((x.ρ row).base + 0) ws g1 hc.2 g3
      have hload' : (loadVar ty ⟨(x.ρ row).blk, (x.ρ row).base, none⟩).run P x.w = .ok (if aggOf P ty then .agg ⟨ws⟩ else ws.getD 0 undef) x.w := by
       rw [← hload]
       simp [Instr.loadAt, Instr.sureAddr]
      refine ⟨(if aggOf P ty then .agg ⟨ws⟩ else ws.getD 0 undef) :: cvs, ?_, ?_⟩
      ·simp only [VRels]
       refine ⟨_, _, rfl, ?_, h1⟩
       unfold acut
       cases ha : aggOf P ty
       ·rcases hc.2 with h3 | h3
        ·rw [ha] at h3; cases h3
        ·rw [h3] at g1 g2
         have hlt : 0 < cs.length := by omega
         have e : (cs.drop 0).take 1 = [cs.getD 0 .un] := by
          rw [List.drop_eq_getElem_cons hlt, List.take_succ_cons, List.take_zero]; simp [List.getD_eq_getElem?_getD, hlt]
         rw [e] at g2
         simp only [VRels] at g2
         obtain ⟨v0, r, rfl, h5, _⟩ := g2
         simpa using h5
       ·simp only [if_true]
        exact mkAgg_rel g2
      ·simp only [List.mapM_cons, resOne, Sem.run_bind, hv, asAddr, Sem.run_pure, Result.andThen_ok, hload', h2]
     ·cases hr
    ·cases hr
   ·cases hr
  ·cases hq
theorem results_run {P : Program} {fn : Func} (h : SRel e σ x a) {qs : List RV} {us : List AV} (hq : rvsOf P fn.results.toList = some qs) (hr : resAV σ qs = some us) :
  ∃ cvs, VRels x us cvs ∧ (results fn a.tmps).run P x.w = .ok (if h : (⟨cvs⟩ : Array Value).size = 1 then (⟨cvs⟩ : Array Value)[0] else .tuple ⟨cvs⟩) x.w := by
 obtain ⟨cvs, h1, h2⟩ := resList_run h hq hr
 refine ⟨cvs, h1, ?_⟩
 have hf : results fn a.tmps = (do
   let vs ← fn.results.mapM (resOne a.tmps)
   pure (if h : vs.size = 1 then vs[0] else .tuple vs)) := by
  unfold results
  congr 1
 rw [hf, Array.mapM_eq_mapM_toList]
 simp [h2]
theorem entry_rel {P : Program} {w : World} {F : Nat → Prop} {ρ : Nat → Loc} : ∀ {ps : List PV} {vs : List Value} {i k : Nat} {v : AV}, PRels w F ps vs → (k, v) ∈ entry i ps → ∃ cv j, k = i + j ∧ vs[j]? = some cv ∧ VRel ⟨w, F, ρ⟩ v cv
 | [], _, _, _, _, _, h => by simp [entry] at h
 | p :: ps, vs, i, k, v, hp, h => by
  simp only [PRels] at hp
  obtain ⟨c, r, rfl, h1, h2⟩ := hp
  simp only [entry] at h
  rcases List.mem_cons.1 h with h | h
  ·injection h with h3 h4
   subst h3; subst h4
   exact ⟨c, 0, rfl, rfl, by simpa only [VRel] using h1⟩
  ·obtain ⟨cv, j, g1, g2, g3⟩ := entry_rel (P := P) (ρ := ρ) h2 h
   exact ⟨cv, j + 1, by omega, by simpa using g2, g3⟩
theorem PRels_length {w : World} {F : Nat → Prop} : ∀ {ps : List PV} {vs : List Value}, PRels w F ps vs → vs.length = ps.length
 | [], _, h => by simp only [PRels] at h; subst h; rfl
 | p :: ps, vs, h => by
  simp only [PRels] at h
  obtain ⟨c, r, rfl, h1, h2⟩ := h
  simp [PRels_length h2]
theorem Fn_of {P : Program} {f : FuncId} {fn : Func} {c : Code} {m : MC} {owns : List Nat} {rd : List (Nat × RD)} {args : List PV} {v : AV} {rs : List (Nat × List PV)} {rvs : List RV} (ids : List Bool)
  (hm : P.follows .mixedOrders = true) (hf : P.funcs[f]? = some fn) (hname : (fn.name == "runtime.NumGoroutine") = false) (hb : fn.body = some c) (hc : ofCode P owns fn.ntmps rd c = some m)
  (hr : rvsOf P fn.results.toList = some rvs) (hn : args.length ≤ fn.ntmps) (hsm : fn.ntmps ≤ 100000) (hv : m.vc P (retK rvs ids v rs) ⟨entry 0 args, []⟩) : Fn P f args v rs := by
 refine ⟨enters_of hf hname hb, fun w F vs hF htb hargs => calls_of_wp hf hb ?_⟩
 let e : Env := ⟨P, w, F, fn.ntmps, fun _ => False, fun _ => default, []⟩
 have : EP e P := ⟨rfl⟩
 have hlen := PRels_length hargs
 have hS : SRel e ⟨entry 0 args, []⟩ ⟨w, F, fun _ => default⟩ { tmps := (⟨vs⟩ : Array Value) ++ Array.replicate (fn.ntmps - (⟨vs⟩ : Array Value).size) undef, defers := [] } := {
  defers := rfl
  size := by simp [e, hlen]; omega
  fr := fun k u hm => by
   obtain ⟨cv, j, h1, h2, h3⟩ := entry_rel (P := P) (ρ := fun _ => default) hargs hm
   refine ⟨cv, ?_, h3⟩
   have hj : j < vs.length := (List.getElem?_eq_some_iff.1 h2).1
   have hkj : k = j := by omega
   subst hkj
   rw [Array.getElem?_append_left (by simpa using hj)]
   simpa using h2
  st := fun r row hm => by cases hm
  keys := by simp
  inj := fun r row r' row' hm => by cases hm
  F := fun b => ⟨.inl, fun hb => hb.elim id fun ⟨_, _, hm, _⟩ => by cases hm⟩
  own := fun r row hm => by cases hm
  f0 := fun b hb => ⟨hF b hb, fun h => h⟩
  tabs := htb.sub fun b h => h.elim id fun h => h.elim
  below := BelowL.refl _ _
  fix := fun _ _ => rfl
  small := hsm }
 refine wp_mono (MC.sound (e := e) hm c m hc _ _ _ _ hS hv) fun ex a w' hq => ?_
 have fin : ∀ {σ : St} {y : Cx}, SRel e σ y a → y.w = w' → RetOk rvs ids v rs σ → a.defers = [] ∧ ∃ cv, (results fn a.tmps).run P w' = .ok cv w' ∧ ∃ cv' z, Ending.returned cv = Ending.returned cv' ∧ z.w = w' ∧ Res w F z v rs cv' := fun {σ y} hs hw hk => by
  unfold RetOk at hk
  split at hk
  ·rename_i us k1
   split at hk
   ·rename_i vs' k2
    obtain ⟨k3, k4, k5⟩ := hk
    obtain ⟨cvs, g1, g2⟩ := results_run hs hr k1
    obtain ⟨z, l1, l2⟩ := res_of hs (fun _ h => h) k2 k3 k4 g1
    subst hw
    rw [k5] at l2
    exact ⟨hs.defers, _, g2, _, z, rfl, l1, l2⟩
   ·exact hk.elim
  ·exact hk.elim
 cases ex with
 | normal => obtain ⟨σ, y, h1, h2, h3⟩ := hq; exact fin h1 h2 h3
 | ret => obtain ⟨σ, y, h1, h2, h3⟩ := hq; exact fin h1 h2 h3
 | exit id => obtain ⟨σ, y, h1, h2, h3⟩ := hq; exact h3.elim
 | _ => exact hq.elim
end
end Go.Vc

namespace Go.Vc
open Go.RowKit
def entryA : Nat → List AV → List (Nat × AV)
 | _, [] => []
 | i, p :: ps => (i, p) :: entryA (i + 1) ps
def outS (st : List (Nat × Row)) (ks : List Nat) : AV → Option AV
 | .row r off n => if ks.contains r then some (.row r off n) else match snap (stDels st ks) 5 (.row r off n) with
  | some p => some (.pv p)
  | none => none
 | .ptr r off => if ks.contains r then some (.ptr r off) else match snap (stDels st ks) 5 (.ptr r off) with
  | some p => some (.pv p)
  | none => none
 | v => match snap (stDels st ks) 5 v with
  | some p => some (.pv p)
  | none => none
def outSs (st : List (Nat × Row)) (ks : List Nat) : List AV → Option (List AV)
 | [] => some []
 | v :: vs => match outS st ks v, outSs st ks vs with
  | some u, some us => some (u :: us)
  | _, _ => none
def heldRows (l : List (Nat × Row)) : List (Nat × Row) → Prop
 | [] => True
 | (r, row) :: rs => stGet l r = some row ∧ heldRows l rs
def RetS (rvs : List RV) (v : AV) (st' : List (Nat × Row)) (σ : St) : Prop :=
 match resAV σ rvs with
 | some us => match outSs σ.st (st'.map (·.1)) us with
  | some vs => packAV vs = v ∧ heldRows σ.st st'
  | none => False
 | none => False
def retS (rvs : List RV) (v : AV) (st' : List (Nat × Row)) : Exit → St → Prop
 | .normal, σ => RetS rvs v st' σ
 | .ret, σ => RetS rvs v st' σ
 | _, _ => False
theorem heldRows_mem {l : List (Nat × Row)} : ∀ {st : List (Nat × Row)}, heldRows l st → ∀ r row, (r, row) ∈ st → (r, row) ∈ l
 | [], _, _, _, h => by cases h
 | (q, u) :: st, h, r, row, hm => by
  simp only [heldRows] at h
  rcases List.mem_cons.1 hm with hm | hm
  ·injection hm with h1 h2; subst h1; subst h2; exact stGet_mem h.1
  ·exact heldRows_mem h.2 r row hm
section
variable {e : Env} {σ : St} {x : Cx} {a : Act}
theorem outSs_rel (h : SRel e σ x a) {ks : List Nat} {y : Cx} (hw : y.w = x.w) (hρ : y.ρ = x.ρ) (hF : ∀ b, y.F b → x.F b)
  (hst : ∀ r row, (r, row) ∈ stDels σ.st ks → (x.ρ r).ok = true → ¬ y.F (x.ρ r).blk) : ∀ {us vs : List AV} {cvs : List Value}, outSs σ.st ks us = some vs → VRels x us cvs → VRels y vs cvs
 | [], vs, cvs, ho, hv => by
  simp only [outSs, Option.some.injEq] at ho; subst ho
  simpa only [VRels] using hv
 | u :: us, vs, cvs, ho, hv => by
  simp only [outSs] at ho
  split at ho
  ·rename_i v vs' h1 h2
   injection ho with ho; subst ho
   simp only [VRels] at hv ⊢
   obtain ⟨c, r, rfl, h3, h4⟩ := hv
   refine ⟨c, r, rfl, ?_, outSs_rel h hw hρ hF hst h2 h4⟩
   have sn : ∀ {v : AV} {p : PV}, snap (stDels σ.st ks) 5 v = some p → VRel x v c → VRel y (.pv p) c := fun hs hv => by
    simp only [VRel]
    rw [hw]
    exact snap_relG h (fun r row hm => (stDels_mem hm).1) hF hst 5 _ _ _ hs hv
   unfold outS at h1
   split at h1
   ·split at h1
    ·injection h1 with h1; subst h1
     simp only [VRel] at h3 ⊢
     rw [hρ]; exact h3
    ·split at h1
     ·rename_i p hp
      injection h1 with h1; subst h1
      exact sn hp h3
     ·cases h1
   ·split at h1
    ·injection h1 with h1; subst h1
     simp only [VRel] at h3 ⊢
     rw [hρ]; exact h3
    ·split at h1
     ·rename_i p hp
      injection h1 with h1; subst h1
      exact sn hp h3
     ·cases h1
   ·split at h1
    ·rename_i p hp
     injection h1 with h1; subst h1
     exact sn hp h3
    ·cases h1
  ·cases ho
theorem resS_of (h : SRel e σ x a) {x0 : Cx} {st : List (Nat × Row)} (hw0 : e.w0 = x0.w) (hF0 : e.F0 = fun b => x0.F b ∧ ¬ Own st x0.ρ b) (hL : e.L = Own st x0.ρ) (hρ0 : e.ρ0 = x0.ρ)
  {st' : List (Nat × Row)} {us vs : List AV} {cvs : List Value} (h1 : outSs σ.st (st'.map (·.1)) us = some vs) (h2 : (st'.map (·.1)).Nodup) (h3 : heldRows σ.st st') (h4 : VRels x us cvs) :
  ∃ y, y.w = x.w ∧ ResS x0 st y (packAV vs) st' (if h : (⟨cvs⟩ : Array Value).size = 1 then (⟨cvs⟩ : Array Value)[0] else .tuple ⟨cvs⟩) := by
 have hm := heldRows_mem h3
 have hF : ∀ b, (e.F0 b ∨ Own st' x.ρ b) → x.F b := fun b hb => (h.F b).2 (hb.imp id fun ⟨r, row, k1, k2⟩ => ⟨r, row, hm r row k1, k2⟩)
 refine ⟨⟨x.w, fun b => e.F0 b ∨ Own st' x.ρ b, x.ρ⟩, rfl, {
  below := by rw [← hw0, ← hL]; exact h.below
  val := packAV_rel (outSs_rel h (y := ⟨x.w, fun b => e.F0 b ∨ Own st' x.ρ b, x.ρ⟩) rfl rfl hF (fun r row hr hok hb => ?_) h1 h4)
  st := fun r row hr => Row.kept (x := x) (y := ⟨x.w, fun b => e.F0 b ∨ Own st' x.ρ b, x.ρ⟩) ⟨Nat.le_refl _, fun _ _ _ => rfl, fun b _ hb => hF b hb⟩ rfl (fun _ => rfl) (h.st r row (hm r row hr))
  keys := h2
  inj := fun r row r' row' k1 k2 => h.inj r row r' row' (hm r row k1) (hm r' row' k2)
  own := fun r row hr hok => by
   rw [← hw0, ← hL]
   exact h.own r row (hm r row hr) hok
  F := fun b => by
   show (e.F0 b ∨ Own st' x.ρ b) ↔ _
   rw [hF0]
  stay := fun r hr => by rw [← hρ0]; exact h.fix r hr }⟩
 obtain ⟨m1, m2⟩ := stDels_mem hr
 rcases hb with hb | ⟨q, u, k1, k2, k3⟩
 ·have h8 := h.f0 _ hb
  rcases h.own r row m1 hok with h9 | h9
  ·omega
  ·exact h8.2 h9
 ·have hq : q ≠ r := fun hq => m2 (hq ▸ List.mem_map.2 ⟨_, k1, rfl⟩)
  exact h.inj q u r row (hm q u k1) m1 hq k2 hok k3
theorem entryA_rel {x : Cx} : ∀ {ps : List AV} {vs : List Value} {i k : Nat} {v : AV}, VRels x ps vs → (k, v) ∈ entryA i ps → ∃ cv j, k = i + j ∧ vs[j]? = some cv ∧ VRel x v cv
 | [], _, _, _, _, _, h => by simp [entryA] at h
 | p :: ps, vs, i, k, v, hp, h => by
  simp only [VRels] at hp
  obtain ⟨c, r, rfl, h1, h2⟩ := hp
  simp only [entryA] at h
  rcases List.mem_cons.1 h with h | h
  ·injection h with h3 h4
   subst h3; subst h4
   exact ⟨c, 0, rfl, rfl, h1⟩
  ·obtain ⟨cv, j, g1, g2, g3⟩ := entryA_rel h2 h
   exact ⟨cv, j + 1, by omega, by simpa using g2, g3⟩
theorem VRels_length {x : Cx} : ∀ {ps : List AV} {vs : List Value}, VRels x ps vs → vs.length = ps.length
 | [], _, h => by simp only [VRels] at h; subst h; rfl
 | p :: ps, vs, h => by
  simp only [VRels] at h
  obtain ⟨c, r, rfl, h1, h2⟩ := h
  simp [VRels_length h2]
theorem FnS_of {P : Program} {f : FuncId} {fn : Func} {c : Code} {m : MC} {owns : List Nat} {rd : List (Nat × RD)} {args : List AV} {st : List (Nat × Row)} {v : AV} {st' : List (Nat × Row)} {rvs : List RV}
  (hm : P.follows .mixedOrders = true) (hf : P.funcs[f]? = some fn) (hname : (fn.name == "runtime.NumGoroutine") = false) (hb : fn.body = some c) (hc : ofCode P owns fn.ntmps rd c = some m)
  (hr : rvsOf P fn.results.toList = some rvs) (hn : args.length ≤ fn.ntmps) (hsm : fn.ntmps ≤ 100000) (hk : (st'.map (·.1)).Nodup) (hv : m.vc P (retS rvs v st') ⟨entryA 0 args, st⟩) : FnS P f args st v st' := by
 refine ⟨enters_of hf hname hb, fun x vs hF htb hl hargs => calls_of_wp hf hb ?_⟩
 let e : Env := ⟨P, x.w, fun b => x.F b ∧ ¬ Own st x.ρ b, fn.ntmps, Own st x.ρ, x.ρ, []⟩
 have : EP e P := ⟨rfl⟩
 have hlen := VRels_length hargs
 have hown : ∀ b, Own st x.ρ b → x.F b := fun b ⟨r, row, h1, h2, h3⟩ => h3 ▸ hl.F r row h1 h2
 have hS : SRel e ⟨entryA 0 args, st⟩ x { tmps := (⟨vs⟩ : Array Value) ++ Array.replicate (fn.ntmps - (⟨vs⟩ : Array Value).size) undef, defers := [] } := {
  defers := rfl
  size := by simp [e, hlen]; omega
  fr := fun k u hm => by
   obtain ⟨cv, j, h1, h2, h3⟩ := entryA_rel hargs hm
   refine ⟨cv, ?_, h3⟩
   have hj : j < vs.length := (List.getElem?_eq_some_iff.1 h2).1
   have hkj : k = j := by omega
   subst hkj
   rw [Array.getElem?_append_left (by simpa using hj)]
   simpa using h2
  st := hl.st
  keys := hl.keys
  inj := hl.inj
  F := fun b => by
   show x.F b ↔ (x.F b ∧ ¬ Own st x.ρ b) ∨ Own st x.ρ b
   constructor
   ·intro hb
    by_cases ho : Own st x.ρ b
    ·exact .inr ho
    ·exact .inl ⟨hb, ho⟩
   ·rintro (hb | hb)
    ·exact hb.1
    ·exact hown b hb
  own := fun r row hm hok => .inr ⟨r, row, hm, hok, rfl⟩
  f0 := fun b hb => ⟨hF b hb.1, hb.2⟩
  tabs := htb.sub fun b h => h.elim (fun h => h.1) (fun h => hown b h)
  below := BelowL.refl _ _
  fix := fun _ _ => rfl
  small := hsm }
 refine wp_mono (MC.sound (e := e) hm c m hc _ _ _ _ hS hv) fun ex a w' hq => ?_
 have fin : ∀ {σ : St} {y : Cx}, SRel e σ y a → y.w = w' → RetS rvs v st' σ → a.defers = [] ∧ ∃ cv, (results fn a.tmps).run P w' = .ok cv w' ∧ ∃ cv' z, Ending.returned cv = Ending.returned cv' ∧ z.w = w' ∧ ResS x st z v st' cv' := fun {σ y} hs hw hk' => by
  unfold RetS at hk'
  split at hk'
  ·rename_i us k1
   split at hk'
   ·rename_i vs' k2
    obtain ⟨k3, k4⟩ := hk'
    obtain ⟨cvs, g1, g2⟩ := results_run hs hr k1
    obtain ⟨z, l1, l2⟩ := resS_of hs (x0 := x) (st := st) rfl rfl rfl rfl k2 hk k4 g1
    subst hw
    rw [k3] at l2
    exact ⟨hs.defers, _, g2, _, z, rfl, l1, l2⟩
   ·exact hk'.elim
  ·exact hk'.elim
 cases ex with
 | normal => obtain ⟨σ, y, h1, h2, h3⟩ := hq; exact fin h1 h2 h3
 | ret => obtain ⟨σ, y, h1, h2, h3⟩ := hq; exact fin h1 h2 h3
 | exit id => obtain ⟨σ, y, h1, h2, h3⟩ := hq; exact h3.elim
 | _ => exact hq.elim
end
end Go.Vc

namespace Go.Vc
open Go.RowKit
set_option linter.constructorNameAsVariable false
inductive KI where
 | code (m : MC)
 | blk (id : Nat)
 | lp (inv : St → Prop)
def kont (P : Program) (R : Exit → St → Prop) : List KI → Exit → St → Prop
 | [], ex, σ => R ex σ
 | .code m :: k, ex, σ => match ex with
  | .normal => m.vc P (kont P R k) σ
  | ex => kont P R k ex σ
 | .blk id :: k, ex, σ => match ex with
  | .exit i => if i = id then kont P R k .normal σ else kont P R k (.exit i) σ
  | ex => kont P R k ex σ
 | .lp inv :: k, ex, σ => match ex with
  | .normal => inv σ
  | ex => kont P R k ex σ
def run (P : Program) (R : Exit → St → Prop) (m : MC) (k : List KI) (σ : St) : Prop := m.vc P (kont P R k) σ
def runR (P : Program) (R : Exit → St → Prop) (l : List Inst) (vs : List (Nat × Nat × Nat)) (keep rows : List Nat) (k : List KI) (σ : St) : Prop := vcOps P l σ (fun σ' => kont P R k .normal ((σ'.virts vs).norm keep rows))
def runG (P : Program) (R : Exit → St → Prop) (N : List Nat) (l : List GI) (keep rows : List Nat) (k : List KI) (σ : St) : Prop := vcU P N l σ (fun σ' => kont P R k .normal (σ'.norm keep rows))
section
variable {P : Program} {R : Exit → St → Prop} {k : List KI} {σ : St}
theorem run_skip : run P R .skip k σ = kont P R k .normal σ := rfl
theorem run_bad : run P R .bad k σ = False := rfl
theorem run_seq {a b : MC} : run P R (.seq a b) k σ = run P R a (.code b :: k) σ := by
 unfold run
 simp only [MC.vc]
 congr 1
 funext ex σ'
 cases ex <;> simp [thenK, kont]
theorem run_reg {l : List Inst} {vs : List (Nat × Nat × Nat)} {keep rows : List Nat} : run P R (.reg l vs keep rows) k σ = runR P R l vs keep rows k σ := by
 simp only [run, MC.vc, runR]
theorem run_grp {N : List Nat} {l : List GI} {keep rows : List Nat} : run P R (.grp N l keep rows) k σ = runG P R N l keep rows k (σ.strip N) := by
 simp only [run, MC.vc, runG]
theorem run_cond {c : Opd} {a b : MC} {t : Bool} (h : c.ev σ = vbool t) (ht : t = true → run P R a k σ) (hf : t = false → run P R b k σ) : run P R (.cond c a b) k σ := by
 simp only [run, MC.vc]
 exact ⟨t, h, ht, hf⟩
def condGo (P : Program) (R : Exit → St → Prop) (a b : MC) (k : List KI) (σ : St) : AV → Prop
 | .pv (.sc (.bool t)) => (t = true → run P R a k σ) ∧ (t = false → run P R b k σ)
 | _ => False
theorem run_cond_eq {c : Opd} {a b : MC} : run P R (.cond c a b) k σ = condGo P R a b k σ (c.ev σ) := by
 refine propext ⟨fun h => ?_, fun h => ?_⟩
 ·simp only [run, MC.vc] at h
  obtain ⟨t, h1, h2, h3⟩ := h
  rw [h1]
  exact ⟨h2, h3⟩
 ·unfold condGo at h
  split at h
  ·rename_i t ht
   exact run_cond ht h.1 h.2
  ·exact h.elim
theorem run_block {id : Nat} {b : MC} : run P R (.block id b) k σ = run P R b (.blk id :: k) σ := by
 unfold run
 simp only [MC.vc]
 congr 1
 funext ex σ'
 cases ex <;> simp [blockK, kont]
theorem run_loop {b : MC} {T : Type} (I : T → St) (G : T → Prop) (μ : T → Nat) (t₀ : T) (h0 : σ = I t₀) (hG : G t₀)
  (h : ∀ t, G t → run P R b (.lp (fun σ' => ∃ t', σ' = I t' ∧ G t' ∧ μ t' < μ t) :: k) (I t)) : run P R (.loop b) k σ := by
 simp only [run, MC.vc]
 refine ⟨T, I, fun σ' t => σ' = I t, G, μ, t₀, fun σ' t hw => by rw [hw]; exact Weak.refl _, h0, hG, fun t ht => ?_⟩
 have := h t ht
 unfold run at this
 refine Eq.mp ?_ this
 congr 1
 funext ex σ'
 cases ex <;> simp [thenK, kont]
theorem run_loopW {b : MC} {T : Type} (I : T → St) (W : St → T → Prop) (hW : ∀ σ t, W σ t → Weak σ (I t)) (G : T → Prop) (μ : T → Nat) (t₀ : T) (h0 : W σ t₀) (hG : G t₀)
  (h : ∀ t, G t → run P R b (.lp (fun σ' => ∃ t', W σ' t' ∧ G t' ∧ μ t' < μ t) :: k) (I t)) : run P R (.loop b) k σ := by
 simp only [run, MC.vc]
 refine ⟨T, I, W, G, μ, t₀, hW, h0, hG, fun t ht => ?_⟩
 have := h t ht
 unfold run at this
 refine Eq.mp ?_ this
 congr 1
 funext ex σ'
 cases ex <;> simp [thenK, kont]
theorem run_loopN {b : MC} {T : Type} (keep rows : List Nat) (I : T → St) (G : T → Prop) (μ : T → Nat) (t₀ : T) (h0 : σ.norm keep rows = I t₀) (hG : G t₀)
  (h : ∀ t, G t → run P R b (.lp (fun σ' => ∃ t', σ'.norm keep rows = I t' ∧ G t' ∧ μ t' < μ t) :: k) (I t)) : run P R (.loop b) k σ :=
 run_loopW I (fun σ' t => σ'.norm keep rows = I t) (fun σ' t hw => by rw [← hw]; exact Weak.norm _ _ _) G μ t₀ h0 hG h
theorem run_exit {id : Nat} : run P R (.exit id) k σ = kont P R k (.exit id) σ := rfl
theorem run_ret : run P R .ret k σ = kont P R k .ret σ := rfl
theorem kont_nil {ex : Exit} : kont P R [] ex σ = R ex σ := rfl
theorem kont_code {m : MC} : kont P R (.code m :: k) .normal σ = run P R m k σ := rfl
theorem kont_code_ret {m : MC} : kont P R (.code m :: k) .ret σ = kont P R k .ret σ := rfl
theorem kont_code_exit {m : MC} {i : Nat} : kont P R (.code m :: k) (.exit i) σ = kont P R k (.exit i) σ := rfl
theorem kont_blk {id : Nat} : kont P R (.blk id :: k) .normal σ = kont P R k .normal σ := rfl
theorem kont_blk_ret {id : Nat} : kont P R (.blk id :: k) .ret σ = kont P R k .ret σ := rfl
theorem kont_blk_exit {id i : Nat} : kont P R (.blk id :: k) (.exit i) σ = if i = id then kont P R k .normal σ else kont P R k (.exit i) σ := rfl
theorem kont_lp {inv : St → Prop} : kont P R (.lp inv :: k) .normal σ = inv σ := rfl
theorem kont_lp_ret {inv : St → Prop} : kont P R (.lp inv :: k) .ret σ = kont P R k .ret σ := rfl
theorem kont_lp_exit {inv : St → Prop} {i : Nat} : kont P R (.lp inv :: k) (.exit i) σ = kont P R k (.exit i) σ := rfl
variable {is : List Inst} {vs : List (Nat × Nat × Nat)} {keep rows : List Nat} {d : Nat}
theorem runR_nil : runR P R [] vs keep rows k σ = kont P R k .normal ((σ.virts vs).norm keep rows) := rfl
theorem runR_q {q : Q} : runR P R (⟨some d, none, .q q⟩ :: is) vs keep rows k σ = (q.pre σ ∧ runR P R is vs keep rows k (σ.put d (q.val σ))) := by
 simp only [runR, vcOps, vcOp]
theorem runR_qg {q : Q} {t : Nat} {b : Bool} : runR P R (⟨some d, some (t, b), .q q⟩ :: is) vs keep rows k σ =
  ((frGet σ.fr t).gok ∧ ((frGet σ.fr t).gv b = true → q.pre σ) ∧ runR P R is vs keep rows k (σ.put d (.whn ((frGet σ.fr t).gv b) (q.val σ)))) := by
 simp only [runR, vcOps, vcGd]
theorem runR_alloc {z : List AV} : runR P R (⟨some d, none, .alloc z⟩ :: is) vs keep rows k σ = runR P R is vs keep rows k ((σ.newRow d (.box (AV.clips (only d) z))).put d (.ptr d 0)) := by
 simp only [runR, vcOps, vcOp]
theorem runR_box {x : Opd} : runR P R (⟨some d, none, .box x⟩ :: is) vs keep rows k σ =
  (x.cd σ = true ∧ okc (x.sv σ) = true ∧ runR P R is vs keep rows k ((σ.newRow d (.box (AV.clips (only d) (x.sv σ).cells))).put d (.ptr d 0))) := by
 simp only [runR, vcOps, vcOp]
theorem runR_lits {xs : List Opd} {s : Nat} : runR P R (⟨some d, none, .lits xs s⟩ :: is) vs keep rows k σ =
  ((cds σ xs = true ∧ allOk (evs σ xs) = true ∧ allW s (evs σ xs) ∧ xs.length * s ≤ 16777216) ∧ runR P R is vs keep rows k (σ.put d (mkLit (evs σ xs)))) := by
 simp only [runR, vcOps, vcOp]
theorem runR_litsg {xs : List Opd} {s t : Nat} {b : Bool} : runR P R (⟨some d, some (t, b), .lits xs s⟩ :: is) vs keep rows k σ =
  ((frGet σ.fr t).gok ∧ ((frGet σ.fr t).gv b = true → cds σ xs = true ∧ allOk (evs σ xs) = true ∧ allW s (evs σ xs) ∧ xs.length * s ≤ 16777216) ∧
   runR P R is vs keep rows k (σ.put d (.whn ((frGet σ.fr t).gv b) (mkLit (evs σ xs))))) := by
 simp only [runR, vcOps, vcGd]
theorem runR_own {xs : List Opd} {s : Nat} : runR P R (⟨some d, none, .own xs s⟩ :: is) vs keep rows k σ =
  ((cds σ xs = true ∧ allOk (evs σ xs) = true ∧ allW s (evs σ xs) ∧ xs.length * s ≤ 16777216 ∧ (∀ v ∈ evs σ xs, ∀ c ∈ v.cells, AV.one c = true) ∧ ∃ ps, allPv (evs σ xs) = some ps) ∧
   runR P R is vs keep rows k ((σ.newRow d (.sl s (pvsOf (evs σ xs)))).put d (.row d 0 xs.length))) := by
 simp only [runR, vcOps, vcOp]
theorem runR_mks {l c : Opd} {s bytes : Nat} {z : PV} : runR P R (⟨some d, none, .mks l c s bytes z⟩ :: is) vs keep rows k σ =
  ((l.cd σ = true ∧ c.cd σ = true ∧ isInt (l.sv σ) ∧ isInt (c.sv σ) ∧ 0 ≤ intV (l.sv σ) ∧ intV (l.sv σ) ≤ intV (c.sv σ) ∧ (bytes : Int) * intV (c.sv σ) ≤ 281474976710656 ∧ intV (c.sv σ) ≤ 9223372036854775807) ∧
   runR P R is vs keep rows k ((σ.newRow d (.sl s (List.replicate (intV (l.sv σ)).toNat z))).put d (.row d 0 (intV (l.sv σ)).toNat))) := by
 simp only [runR, vcOps, vcOp]
theorem runR_mkx {l c : Opd} {bytes : Nat} {z : AV} : runR P R (⟨some d, none, .mkx l c bytes z⟩ :: is) vs keep rows k σ =
  ((l.cd σ = true ∧ c.cd σ = true ∧ isInt (l.sv σ) ∧ isInt (c.sv σ) ∧ 0 ≤ intV (l.sv σ) ∧ intV (l.sv σ) = intV (c.sv σ) ∧ (bytes : Int) * intV (c.sv σ) ≤ 281474976710656 ∧ intV (c.sv σ) ≤ 9223372036854775807) ∧
   runR P R is vs keep rows k ((σ.newRow d (.bxs (List.replicate (intV (l.sv σ)).toNat z))).put d (.row d 0 (intV (l.sv σ)).toNat))) := by
 simp only [runR, vcOps, vcOp]
theorem runR_st {p x : Opd} {n : Nat} : runR P R (⟨none, none, .st p x n⟩ :: is) vs keep rows k σ =
  ((p.cd σ = true ∧ x.cd σ = true ∧ stOk σ n (x.sv σ) (p.sv σ)) ∧ runR P R is vs keep rows k (stTo σ (x.sv σ) (p.sv σ))) := by
 simp only [runR, vcOps, vcOp]
theorem runR_app {b s' : Opd} {s bytes : Nat} : runR P R (⟨some d, none, .app b s' s bytes⟩ :: is) vs keep rows k σ =
  ((b.cd σ = true ∧ s'.cd σ = true ∧ appOk σ s bytes (b.sv σ) (s'.sv σ)) ∧ runR P R is vs keep rows k (appTo σ d s (b.sv σ) (s'.sv σ))) := by
 simp only [runR, vcOps, vcOp]
theorem runR_appn {b s' : Opd} {s bytes : Nat} : runR P R (⟨some d, none, .appn b s' s bytes⟩ :: is) vs keep rows k σ =
  ((b.cd σ = true ∧ s'.cd σ = true ∧ b.sv σ = .e0 ∧ appOk σ s bytes .e0 (s'.sv σ)) ∧ runR P R is vs keep rows k (σ.put d (.pv (.lst ((srcP σ (s'.sv σ)).getD []))))) := by
 simp only [runR, vcOps, vcOp]
theorem runR_appg {b s' : Opd} {s bytes t : Nat} {c : Bool} : runR P R (⟨some d, some (t, c), .app b s' s bytes⟩ :: is) vs keep rows k σ = ((frGet σ.fr t).gok ∧ (frGet σ.fr t).gv c = true ∧ runR P R (⟨some d, none, .app b s' s bytes⟩ :: is) vs keep rows k σ) := by
 simp only [runR, vcOps, vcGd]
theorem runR_appi {b s' : Opd} {s bytes : Nat} : runR P R (⟨some d, none, .appi b s' s bytes⟩ :: is) vs keep rows k σ =
  ((b.cd σ = true ∧ s'.cd σ = true) ∧ appiGo σ d s bytes (runR P R is vs keep rows k) (b.sv σ) (s'.sv σ)) := by
 simp only [runR, vcOps, vcOp]
 rfl
theorem runR_clr {x : Opd} {s : Nat} {z : PV} : runR P R (⟨none, none, .clr x s z⟩ :: is) vs keep rows k σ = (x.cd σ = true ∧ clrGo σ s z (runR P R is vs keep rows k) (x.sv σ)) := by
 simp only [runR, vcOps, vcOp]
 rfl
theorem runR_capr {x : Opd} : runR P R (⟨some d, none, .capr x⟩ :: is) vs keep rows k σ = (x.cd σ = true ∧ caprGo σ d (runR P R is vs keep rows k) (x.sv σ)) := by
 simp only [runR, vcOps, vcOp]
 rfl
theorem runR_appz {b y : Opd} {s bytes : Nat} {z : PV} : runR P R (⟨some d, none, .appz b y s bytes z⟩ :: is) vs keep rows k σ = ((b.cd σ = true ∧ y.cd σ = true) ∧ appzGo σ d s bytes z (runR P R is vs keep rows k) (b.sv σ) (y.sv σ)) := by
 simp only [runR, vcOps, vcOp]
 rfl
theorem runR_cpy {b y : Opd} {s : Nat} : runR P R (⟨some d, none, .cpy b y s⟩ :: is) vs keep rows k σ = ((b.cd σ = true ∧ y.cd σ = true) ∧ cpyGo σ d s (runR P R is vs keep rows k) (b.sv σ) (y.sv σ)) := by
 simp only [runR, vcOps, vcOp]
 rfl
theorem runR_mkmr {y : Opd} : runR P R (⟨some d, none, .mkmr y⟩ :: is) vs keep rows k σ = ((y.cd σ = true ∧ isInt (y.sv σ)) ∧ runR P R is vs keep rows k ((σ.newRow d (.mp [])).put d (.mp d))) := by
 simp only [runR, vcOps, vcOp]
theorem runR_mkm : runR P R (⟨some d, none, .mkm⟩ :: is) vs keep rows k σ = runR P R is vs keep rows k ((σ.newRow d (.mp [])).put d (.mp d)) := by
 simp only [runR, vcOps, vcOp]
def msetRun (P : Program) (R : Exit → St → Prop) (is : List Inst) (vs : List (Nat × Nat × Nat)) (keep rows : List Nat) (k : List KI) (σ : St) (kk : Kk) : AV → AV → AV → Prop
 | .mp r, .pv key, .pv v => match stGet σ.st r with
  | some (.mp es) => keyIs kk key ∧ keysLike kk key es ∧ runR P R is vs keep rows k ⟨σ.fr, (r, .mp (mput key v es)) :: stDel σ.st r⟩
  | _ => False
 | .mp r, .pv key, v => match stGet σ.st r with
  | some (.mp []) => keyIs kk key ∧ runR P R is vs keep rows k ⟨σ.fr, (r, .mpx [key] [v]) :: stDel σ.st r⟩
  | some (.mpx ks ws) => (keyIs kk key ∧ keysLike kk key (ksL ks)) ∧ lkpx key ks ws = none ∧ runR P R is vs keep rows k ⟨σ.fr, (r, .mpx (ks ++ [key]) (ws ++ [v])) :: stDel σ.st r⟩
  | _ => False
 | _, _, _ => False
theorem runR_mset {m q v : Opd} {kk : Kk} : runR P R (⟨none, none, .mset m q v kk⟩ :: is) vs keep rows k σ =
  ((m.cd σ = true ∧ q.cd σ = true ∧ v.cd σ = true) ∧ msetRun P R is vs keep rows k σ kk (m.sv σ) (q.sv σ) (v.sv σ)) := by
 simp only [runR, vcOps, vcOp]
 rfl
theorem runR_rngm {y : Opd} : runR P R (⟨some d, none, .rngm y⟩ :: is) vs keep rows k σ = (y.cd σ = true ∧ rngmGo σ d (runR P R is vs keep rows k) (y.sv σ)) := by
 simp only [runR, vcOps, vcOp]
 rfl
theorem runR_rngs {y : Opd} : runR P R (⟨some d, none, .rngs y⟩ :: is) vs keep rows k σ = (y.cd σ = true ∧ rngsGo σ d (runR P R is vs keep rows k) (y.sv σ)) := by
 simp only [runR, vcOps, vcOp]
 rfl
theorem runR_nxtm {y : Opd} : runR P R (⟨some d, none, .nxtm y⟩ :: is) vs keep rows k σ = (y.cd σ = true ∧ nxtmGo σ d (runR P R is vs keep rows k) (y.sv σ)) := by
 simp only [runR, vcOps, vcOp]
 rfl
theorem runR_nxts {y : Opd} : runR P R (⟨some d, none, .nxts y⟩ :: is) vs keep rows k σ = (y.cd σ = true ∧ nxtsGo σ d (runR P R is vs keep rows k) (y.sv σ)) := by
 simp only [runR, vcOps, vcOp]
 rfl
theorem runR_callsB {f : Opd} {args : List Opd} (m : Nat → Nat) {as : List AV} {st st' : List (Nat × Row)} {v : AV} {g : FuncId} {avs : List AV} (hc : f.cd σ = true ∧ cds σ args = true) (ha : (boundOf (f.sv σ)).map (fun t => (t.1, t.2 ++ evs σ args)) = some (g, avs))
  (hF : FnS P g as st v st') (h1 : AV.rns m as = avs) (h2 : ∀ e ∈ st, (m e.1, e.2.rn m) ∈ σ.st) (h3 : (st.map (·.1)).Nodup) (h4 : ((st.map (·.1)).map m).Nodup) (h5 : ((st'.map (·.1)).map m).Nodup)
  (h6 : ∀ e ∈ st', e.1 < 200000 → m e.1 < 200000) (h : runR P R is vs keep rows k (σ.afterS d m st v st')) : runR P R (⟨some d, none, .calls f args⟩ :: is) vs keep rows k σ := by
 simp only [runR, vcOps, vcOp]
 refine ⟨hc, ?_⟩
 cases hb : boundOf (f.sv σ) with
 | none => rw [hb] at ha; cases ha
 | some t =>
  obtain ⟨g', first⟩ := t
  rw [hb] at ha
  simp only [Option.map_some, Option.some.injEq, Prod.mk.injEq] at ha
  obtain ⟨rfl, rfl⟩ := ha
  have hn : calleeOf (f.sv σ) = none := by
   unfold boundOf at hb
   split at hb
   ·rename_i h; rw [h]; rfl
   ·cases hb
  rw [hn]
  exact ⟨m, as, st, st', v, h1, fun r row hm => h2 _ hm, h3, h4, h5, fun r row hm => h6 _ hm, hF, h⟩
theorem runR_callsg {f : Opd} {args : List Opd} {t : Nat} {b : Bool} : runR P R (⟨some d, some (t, b), .calls f args⟩ :: is) vs keep rows k σ = ((frGet σ.fr t).gok ∧ (frGet σ.fr t).gv b = true ∧ runR P R (⟨some d, none, .calls f args⟩ :: is) vs keep rows k σ) := by
 simp only [runR, vcOps, vcGd]
theorem runR_calls {f : Opd} {args : List Opd} (m : Nat → Nat) {as : List AV} {st st' : List (Nat × Row)} {v : AV} {g : FuncId} {avs : List AV} (hc : f.cd σ = true ∧ cds σ args = true) (ha : (calleeOf (f.sv σ)).map (fun t => (t.1, evs σ args ++ t.2)) = some (g, avs))
  (hF : FnS P g as st v st') (h1 : AV.rns m as = avs) (h2 : ∀ e ∈ st, (m e.1, e.2.rn m) ∈ σ.st) (h3 : (st.map (·.1)).Nodup) (h4 : ((st.map (·.1)).map m).Nodup) (h5 : ((st'.map (·.1)).map m).Nodup)
  (h6 : ∀ e ∈ st', e.1 < 200000 → m e.1 < 200000) (h : runR P R is vs keep rows k (σ.afterS d m st v st')) : runR P R (⟨some d, none, .calls f args⟩ :: is) vs keep rows k σ := by
 simp only [runR, vcOps, vcOp]
 refine ⟨hc, ?_⟩
 cases hcal : calleeOf (f.sv σ) with
 | none => rw [hcal] at ha; cases ha
 | some t =>
  obtain ⟨g', caps⟩ := t
  rw [hcal] at ha
  simp only [Option.map_some, Option.some.injEq, Prod.mk.injEq] at ha
  obtain ⟨rfl, rfl⟩ := ha
  exact .inl ⟨m, as, st, st', v, h1, fun r row hm => h2 _ hm, h3, h4, h5, fun r row hm => h6 _ hm, hF, h⟩
theorem runR_call {f : Opd} {args : List Opd} {g : FuncId} {ps : List PV} {pure : Bool} {v : AV} {rs : List (Nat × List PV)} (hc : f.cd σ = true ∧ cds σ args = true) (ha : callArgs σ f args = some (g, ps, pure))
  (hf : Fn P g ps v rs) (hp : pure = true ∨ (v.flat = true ∧ flatRows rs)) (hr : okRows v rs) (h : runR P R is vs keep rows k (σ.after d v rs)) : runR P R (⟨some d, none, .call f args⟩ :: is) vs keep rows k σ := by
 simp only [runR, vcOps, vcOp]
 refine ⟨hc, ?_⟩
 rw [ha]
 exact ⟨v, rs, hf, hp, hr, .inl h⟩
theorem runR_callz {f : Opd} {args : List Opd} {g : FuncId} {ps : List PV} {v : AV} {rs : List (Nat × List PV)} (hc : f.cd σ = true ∧ cds σ args = true) (ha : (callArgs σ f args).map (fun t => (t.1, t.2.1)) = some (g, ps))
  (hf : Fn P g ps v rs) (hp : v.flat = true ∧ flatRows rs) (hr : okRows v rs) (h : runR P R is vs keep rows k ((σ.after d v rs).frz1 (1000 + d))) : runR P R (⟨some d, none, .call f args⟩ :: is) vs keep rows k σ := by
 simp only [runR, vcOps, vcOp]
 refine ⟨hc, ?_⟩
 cases hca : callArgs σ f args with
 | none => rw [hca] at ha; cases ha
 | some t =>
  obtain ⟨g', ps', pure⟩ := t
  rw [hca] at ha
  injection ha with ha
  injection ha with h1 h2
  simp only at h1 h2
  subst h1; subst h2
  exact ⟨v, rs, hf, .inr hp, hr, .inr h⟩
theorem runR_callf {f : Opd} {args : List Opd} {g : FuncId} {ps : List PV} {v : AV} {rs : List (Nat × List PV)} (hc : f.cd σ = true ∧ cds σ args = true) (ha : (callArgs σ f args).map (fun t => (t.1, t.2.1)) = some (g, ps))
  (hf : Fn P g ps v rs) (hp : v.flat = true ∧ flatRows rs) (hr : okRows v rs) (h : runR P R is vs keep rows k (σ.after d v rs)) : runR P R (⟨some d, none, .call f args⟩ :: is) vs keep rows k σ := by
 cases hca : callArgs σ f args with
 | none => rw [hca] at ha; cases ha
 | some t =>
  obtain ⟨g', ps', pure⟩ := t
  rw [hca] at ha
  simp only [Option.map_some, Option.some.injEq, Prod.mk.injEq] at ha
  obtain ⟨rfl, rfl⟩ := ha
  exact runR_call hc hca hf (.inr hp) hr h
theorem runR_callgf {f : Opd} {args : List Opd} {g : FuncId} {ps : List PV} {p : PV} {t : Nat} {b : Bool} (hg : (frGet σ.fr t).gok) (hc : (frGet σ.fr t).gv b = true → f.cd σ = true ∧ cds σ args = true) (ha : (callArgs σ f args).map (fun t => (t.1, t.2.1)) = some (g, ps))
  (hf : (frGet σ.fr t).gv b = true → Fn P g ps (.pv p) []) (hp : p.flat = true) (h : runR P R is vs keep rows k (σ.put d (.whn ((frGet σ.fr t).gv b) (.pv p)))) : runR P R (⟨some d, some (t, b), .call f args⟩ :: is) vs keep rows k σ := by
 simp only [runR, vcOps, vcGd]
 refine ⟨hg, hc, ?_⟩
 cases hca : callArgs σ f args with
 | none => rw [hca] at ha; cases ha
 | some t =>
  obtain ⟨g', ps', pure⟩ := t
  rw [hca] at ha
  simp only [Option.map_some, Option.some.injEq, Prod.mk.injEq] at ha
  obtain ⟨rfl, rfl⟩ := ha
  exact ⟨p, fun hb => ⟨hf hb, .inr hp⟩, h⟩
theorem snap_pv (st : List (Nat × Row)) (k : Nat) (p : PV) : snap st (k + 1) (.pv p) = some p := rfl
theorem snap_e0 (st : List (Nat × Row)) (k : Nat) : snap st (k + 1) .e0 = some (.lst []) := rfl
theorem snap_agg (st : List (Nat × Row)) (k : Nat) (cs : List AV) : snap st (k + 1) (.agg cs) = match snapL (snap st k) cs with
 | some ps => some (.agg ps)
 | none => none := rfl
theorem snap_tup (st : List (Nat × Row)) (k : Nat) (cs : List AV) : snap st (k + 1) (.tup cs) = match snapL (snap st k) cs with
 | some ps => some (.tup ps)
 | none => none := rfl
theorem snap_fn (st : List (Nat × Row)) (k : Nat) (f : FuncId) (cs : List AV) : snap st (k + 1) (.fn f cs) = match snapL (snap st k) cs with
 | some ps => some (.fn f ps)
 | none => none := rfl
theorem snap_row (st : List (Nat × Row)) (k r off n : Nat) : snap st (k + 1) (.row r off n) = match stGet st r with
 | some (.sl _ xs) => some (.lst ((xs.drop off).take n))
 | _ => none := rfl
theorem snap_ptr (st : List (Nat × Row)) (k r : Nat) : snap st (k + 1) (.ptr r 0) = match stGet st r with
 | some (.box cs) => (match snapL (snap st k) cs with
  | some ps => some (.pt ps)
  | none => none)
 | _ => none := rfl
theorem snap_cptr (st : List (Nat × Row)) (k : Nat) (cs : List PV) : snap st (k + 1) (.cptr cs 0) = some (.pt cs) := rfl
theorem runR_callg {f : Opd} {args : List Opd} {g : FuncId} {ps : List PV} {pure : Bool} {p : PV} {t : Nat} {b : Bool} (hg : (frGet σ.fr t).gok) (hc : (frGet σ.fr t).gv b = true → f.cd σ = true ∧ cds σ args = true) (ha : callArgs σ f args = some (g, ps, pure))
  (hf : (frGet σ.fr t).gv b = true → Fn P g ps (.pv p) []) (hp : pure = true ∨ p.flat = true) (h : runR P R is vs keep rows k (σ.put d (.whn ((frGet σ.fr t).gv b) (.pv p)))) : runR P R (⟨some d, some (t, b), .call f args⟩ :: is) vs keep rows k σ := by
 simp only [runR, vcOps, vcGd]
 refine ⟨hg, hc, ?_⟩
 rw [ha]
 exact ⟨p, fun hb => ⟨hf hb, hp⟩, h⟩
theorem runR_isnil {x : Opd} {neg : Bool} {n : Nat} (hc : x.cd σ = true) (hn : nilLen (x.sv σ) = some n) (h : ∀ b : Bool, (b = true → n = 0) → runR P R is vs keep rows k (σ.put d (vbool (if neg then !b else b)))) :
  runR P R (⟨some d, none, .isnil x neg⟩ :: is) vs keep rows k σ := by
 simp only [runR, vcOps, vcOp]
 refine ⟨hc, ?_⟩
 rw [hn]
 exact h
section
variable {N : List Nat} {L : List GI} {U Rw : List Nat}
theorem runG_nil : runG P R N [] keep rows k σ = kont P R k .normal (σ.norm keep rows) := rfl
theorem runG_q {q : Q} : runG P R N (⟨d, none, .q q, U, Rw⟩ :: L) keep rows k σ = (q.pre (σ.norm U Rw) ∧ runG P R N L keep rows k (σ.add d (fun n => inL N n && (!inL Rw n && !(d == n))) ⟨q.val (σ.norm U Rw), none⟩)) := rfl
theorem runG_qg {q : Q} {t : Nat} {b : Bool} : runG P R N (⟨d, some (t, b), .q q, U, Rw⟩ :: L) keep rows k σ = ((frGet (σ.norm U Rw).fr t).gok ∧ ((frGet (σ.norm U Rw).fr t).gv b = true → q.pre (σ.norm U Rw)) ∧
  runG P R N L keep rows k (σ.add d (fun n => inL N n && (!inL Rw n && !(d == n))) ⟨.whn ((frGet (σ.norm U Rw).fr t).gv b) (q.val (σ.norm U Rw)), none⟩)) := rfl
theorem runG_alloc {z : List AV} : runG P R N (⟨d, none, .alloc z, U, Rw⟩ :: L) keep rows k σ = runG P R N L keep rows k (σ.add d (fun n => inL N n && (!inL Rw n && !(d == n))) ⟨.ptr d 0, some (d, .box (AV.clips (only d) z))⟩) := rfl
theorem runG_box {x : Opd} : runG P R N (⟨d, none, .box x, U, Rw⟩ :: L) keep rows k σ = (x.cd (σ.norm U Rw) = true ∧ okc (x.sv (σ.norm U Rw)) = true ∧
  runG P R N L keep rows k (σ.add d (fun n => inL N n && (!inL Rw n && !(d == n))) ⟨.ptr d 0, some (d, .box (AV.clips (only d) (x.sv (σ.norm U Rw)).cells))⟩)) := rfl
theorem runG_lits {xs : List Opd} {s : Nat} : runG P R N (⟨d, none, .lits xs s, U, Rw⟩ :: L) keep rows k σ = ((cds (σ.norm U Rw) xs = true ∧ allOk (evs (σ.norm U Rw) xs) = true ∧ allW s (evs (σ.norm U Rw) xs) ∧ xs.length * s ≤ 16777216) ∧
  runG P R N L keep rows k (σ.add d (fun n => inL N n && (!inL Rw n && !(d == n))) ⟨mkLit (evs (σ.norm U Rw) xs), none⟩)) := rfl
theorem runG_mks {l c : Opd} {s bytes : Nat} {z : PV} : runG P R N (⟨d, none, .mks l c s bytes z, U, Rw⟩ :: L) keep rows k σ = ((l.cd (σ.norm U Rw) = true ∧ c.cd (σ.norm U Rw) = true ∧ isInt (l.sv (σ.norm U Rw)) ∧ isInt (c.sv (σ.norm U Rw)) ∧ 0 ≤ intV (l.sv (σ.norm U Rw)) ∧ intV (l.sv (σ.norm U Rw)) ≤ intV (c.sv (σ.norm U Rw)) ∧ (bytes : Int) * intV (c.sv (σ.norm U Rw)) ≤ 281474976710656 ∧ intV (c.sv (σ.norm U Rw)) ≤ 9223372036854775807) ∧
  runG P R N L keep rows k (σ.add d (fun n => inL N n && (!inL Rw n && !(d == n))) ⟨.row d 0 (intV (l.sv (σ.norm U Rw))).toNat, some (d, .sl s (List.replicate (intV (l.sv (σ.norm U Rw))).toNat z))⟩)) := rfl
end
theorem Fn_run {f : FuncId} {fn : Func} {c : Code} {m : MC} {owns : List Nat} {rd : List (Nat × RD)} {args : List PV} {v : AV} {rs : List (Nat × List PV)} {rvs : List RV} (ids : List Bool)
  (hm : P.follows .mixedOrders = true) (hf : P.funcs[f]? = some fn) (hname : (fn.name == "runtime.NumGoroutine") = false) (hb : fn.body = some c) (hc : ofCode P owns fn.ntmps rd c = some m)
  (hr : rvsOf P fn.results.toList = some rvs) (hn : args.length ≤ fn.ntmps) (hsm : fn.ntmps ≤ 100000) (hv : run P (retK rvs ids v rs) m [] ⟨entry 0 args, []⟩) : Fn P f args v rs := by
 refine Fn_of ids hm hf hname hb hc hr hn hsm ?_
 unfold run at hv
 refine Eq.mp ?_ hv
 congr 1
theorem FnS_run {f : FuncId} {fn : Func} {c : Code} {m : MC} {owns : List Nat} {rd : List (Nat × RD)} {args : List AV} {st : List (Nat × Row)} {v : AV} {st' : List (Nat × Row)} {rvs : List RV}
  (hm : P.follows .mixedOrders = true) (hf : P.funcs[f]? = some fn) (hname : (fn.name == "runtime.NumGoroutine") = false) (hb : fn.body = some c) (hc : ofCode P owns fn.ntmps rd c = some m)
  (hr : rvsOf P fn.results.toList = some rvs) (hn : args.length ≤ fn.ntmps) (hsm : fn.ntmps ≤ 100000) (hk : (st'.map (·.1)).Nodup) (hv : run P (retS rvs v st') m [] ⟨entryA 0 args, st⟩) : FnS P f args st v st' := by
 refine FnS_of hm hf hname hb hc hr hn hsm hk ?_
 unfold run at hv
 refine Eq.mp ?_ hv
 congr 1
theorem cond_st (a : Bool) : (bif a then a else true) = true := by cases a <;> rfl
theorem cond_nt (a : Bool) : (bif a then true else !a) = true := by cases a <;> rfl
theorem beq_t (a : Bool) : (a == true) = a := by cases a <;> rfl
theorem beq_f (a : Bool) : (a == false) = !a := by cases a <;> rfl
theorem one_int {k : IntKind} {n : Int} : (Value.int k n).oneCell' = true := rfl
theorem one_bool {b : Bool} : (Value.bool b).oneCell' = true := rfl
theorem one_string {s : ByteArray} : (Value.string s).oneCell' = true := rfl
end
attribute [irreducible] runR run kont runG
end Go.Vc

namespace Go.Vc
open Go.RowKit
attribute [go_sem] runR_appn rowV ldcV ldcP run_bad idxaV idxaP isSc strV strP intsOf shfV shfP slcxP runR_mkx onesP runR_appg runR_appi runR_clr runR_capr runR_appz appzGo runR_cpy caprGo cpyGo cpyOf cpSrc appiGo clrGo chkP Int.toNat_natCast Option.getD_some List.take_length List.getD_nil Int.natCast_nonneg List.length_map run_grp runG_nil runG_q runG_qg runG_alloc runG_box runG_lits runG_mks inL St.add addRow St.strip stOut effAfter runR_mkm runR_mkmr runR_rngm runR_rngs runR_nxtm runR_nxts rngmGo rngsGo nxtmGo nxtsGo mlenV mlenP entV entP entryA AV.rn AV.rns Row.rn stBack stStrike lostBy keysNot St.afterS outS outSs heldRows RetS retS List.any_cons List.any_nil runR_mset msetRun mgetV mgetP keyIs keyLike keyEq keysLike lkp mput St.frz1 frFrz stFrz frzRow frzPtr AV.frz AV.frzs Row.frz idsOf allPvs false_implies true_implies cond_st cond_nt beq_t beq_f imp_self Bool.cond_true_left Bool.cond_false_right AV.pv.injEq PV.sc.injEq Value.bool.injEq Value.int.injEq Value.string.injEq Bool.or_not_self Bool.not_or_self Bool.not_eq_true' Bool.not_eq_false' Bool.or_eq_true Bool.and_eq_true Bool.or_eq_false_iff decide_eq_false_iff_not St.virts St.virt1 St.nil1 sameV sameP seqV seqP mmV mmP one_int one_bool one_string run_cond_eq condGo run_skip run_seq run_reg run_block run_exit run_ret kont_nil kont_code kont_code_ret kont_code_exit kont_blk kont_blk_ret kont_blk_exit kont_lp kont_lp_ret kont_lp_exit runR_nil runR_q runR_qg runR_alloc runR_box runR_lits runR_litsg runR_own runR_mks runR_st runR_app Opd.cd Opd.sv Opd.ev cds evs frGet frPut frDel frClip frKeep frSome stKeep stGet stDel stClip St.put St.norm St.newRow AV.clip AV.clips Row.clip only AV.un1 AV.cd okc AV.cells PV.cells entry Q.pre Q.val Q.cd optL faV faP iaV iaP rowS iaaV iaaP ldV ldP fldV fldP acut pcut ccut mkAgg mkAggN AV.isE0 mkLit allPv lenV lenP bnd isInt loOf hiOf bndP slcV sizeOfV slcP lkpx ksL runR_callsg boundOf convV cvwV convP lay mkV mkP idxV idxP notV pickV isBool boolOf beqV beqP extV extP binV binP fits vint vbool allOk allW AV.width AV.allOne AV.one PV.one stOk stTo pvsOf setElem layP flat srcP appOk appTo appRow appOld appLen rowXs rowIs intV AV.gok AV.gv AV.isB AV.gvB onesB retK RetOk resAV outAVs outAV outRows stDels snap_pv snap_e0 snap_agg snap_tup snap_fn snap_row snap_ptr snap_cptr snapL packAV packTup AV.ren AV.rens rowName St.after okRows AV.isPv calleeOf callArgs nilLen allPure AV.pure List.map_cons List.map_nil List.length_cons List.length_nil List.append_nil List.cons_append List.nil_append List.getD_cons_zero List.getD_cons_succ List.take_succ_cons List.take_zero List.drop_zero List.drop_succ_cons List.set_cons_zero List.set_cons_succ List.contains_cons List.contains_nil List.contains_eq_mem List.mem_cons List.not_mem_nil List.idxOf?_nil List.idxOf?_cons Option.map_none Option.map_some Nat.zero_add Nat.add_zero Nat.mul_zero Nat.zero_mul Nat.mul_one Nat.one_mul Nat.le_refl Nat.zero_le Bool.or_false Bool.false_or Bool.or_true Bool.true_or Bool.and_true Bool.true_and Bool.and_false Bool.false_and Bool.not_true Bool.not_false or_false false_or or_true true_or beq_self_eq_true decide_true decide_false decide_eq_true_eq Bool.decide_eq_true if_true if_false ite_true ite_false dite_true dite_false true_and and_true and_false false_and implies_true forall_const Bool.false_eq_true Bool.true_eq_false not_true not_false_eq_true Nat.lt_irrefl cond_true cond_false List.nodup_nil eq_self_iff_true exists_eq_left' Option.some.injEq exists_eq_left exists_and_left Nat.reduceEqDiff Nat.reduceBEq Nat.reduceAdd Nat.reduceMul Nat.reduceSub Nat.reduceLeDiff Nat.reduceLT reduceIte reduceCtorEq Int.reduceToNat Int.reduceLE Int.reduceLT Int.reduceNeg Bool.not_not and_self Bool.and_eq_false_iff Int.cast_ofNat_Int Int.reduceAdd Int.reduceSub Int.reduceMul Int.reduceEq Int.reduceNe
def mi (d n : Nat) : Inst := ⟨some d, none, .q (.mv (.t n))⟩
def qi (d : Nat) (x : Q) : Inst := ⟨some d, none, .q x⟩
def gi (d g : Nat) (b : Bool) (x : Q) : Inst := ⟨some d, some (g, b), .q x⟩
def ic (n : Int) : Opd := .c (.int .i64 n)
attribute [go_sem] mi qi gi ic
end Go.Vc

namespace Go.Vc
open Go.RowKit
inductive Sh where
 | int (k : IntKind)
 | bool
 | str
 | lst (agg : Bool) (cs : List Sh)
 deriving Inhabited
mutual
def OkSh : Sh → PV → Prop
 | .int k, p => ∃ n, p = .sc (.int k n) ∧ (Lit.int k n).wf = true
 | .bool, p => ∃ b, p = .sc (.bool b)
 | .str, p => ∃ s : ByteArray, p = .sc (.string s) ∧ s.size ≤ maxLen
 | .lst agg cs, p => ∃ xs, p = .lst xs ∧ xs.length ≤ maxLen ∧ ∀ x ∈ xs, (agg = true → ∃ qs, x = .agg qs ∧ OkShs cs qs) ∧ (agg = false → OkShs cs [x])
def OkShs : List Sh → List PV → Prop
 | [], ps => ps = []
 | s :: ss, ps => ∃ p r, ps = p :: r ∧ OkSh s p ∧ OkShs ss r
end
theorem OkShs.len : ∀ {ss : List Sh} {ps : List PV}, OkShs ss ps → ps.length = ss.length
 | [], _, h => by simp only [OkShs] at h; rw [h]; rfl
 | s :: ss, _, h => by
  simp only [OkShs] at h
  obtain ⟨p, r, rfl, _, h⟩ := h
  simp [OkShs.len h]
theorem OkShs.append : ∀ {ss ts : List Sh} {ps qs : List PV}, OkShs ss ps → OkShs ts qs → OkShs (ss ++ ts) (ps ++ qs)
 | [], _, _, _, h, h' => by simp only [OkShs] at h; subst h; exact h'
 | s :: ss, _, _, _, h, h' => by
  simp only [OkShs] at h
  obtain ⟨p, r, rfl, h1, h2⟩ := h
  simp only [List.cons_append, OkShs]
  exact ⟨p, _, rfl, h1, OkShs.append h2 h'⟩
theorem PRels.app {w : World} {F : Nat → Prop} : ∀ {ps qs : List PV} {cs ds : List Value}, PRels w F ps cs → PRels w F qs ds → PRels w F (ps ++ qs) (cs ++ ds)
 | [], _, _, _, h, h' => by simp only [PRels] at h; subst h; exact h'
 | p :: ps, _, _, _, h, h' => by
  simp only [PRels] at h
  obtain ⟨v, r, rfl, h1, h2⟩ := h
  simp only [List.cons_append, PRels]
  exact ⟨v, _, rfl, h1, PRels.app h2 h'⟩
def shFields (P : Program) (g : TypeId → Option (List Sh)) : Nat → List Field → Option (List Sh)
 | _, [] => some []
 | off, f :: fs => match g f.type with
  | some cs => if f.offset = off ∧ cs.length = P.cellsOf f.type then (match shFields P g (off + cs.length) fs with
   | some ds => some (cs ++ ds)
   | none => none) else none
  | none => none
def shOf (P : Program) : Nat → TypeId → Option (List Sh)
 | 0, _ => none
 | n + 1, t => match P.underlying t with
  | some .bool => some [.bool]
  | some (.int k) => some [.int k]
  | some .string => some [.str]
  | some (.slice e) => match shOf P n e with
   | some cs => if cs.length = P.cellsOf e ∧ 0 < cs.length ∧ (aggOf P e = true ∨ cs.length = 1) then some [.lst (aggOf P e) cs] else none
   | none => none
  | some (.struct fs) => match shFields P (shOf P n) 0 fs.toList with
   | some cs => if cs.length = P.cellsOf t then some cs else none
   | none => none
  | _ => none
section
variable {H : Type} {enc : TypeId × Value → H} {P : Program} {w : World} {base : Nat} {spare : Nat → Bool} {held : Bool}
theorem cells_at {a : Addr} {n : Nat} {cs : List Value} (h : w.cells? base a n = some cs) : cs.length = n ∧ ∀ i, i < n → w.cell? (a.add i) = cs[i]? := by
 unfold World.cells? at h
 split at h
 ·exact ⟨by simpa using mapM_some_length h, fun i hi => mapM_some_get h i i (by simp [hi])⟩
 ·cases h
theorem PCells_of {F : Nat → Prop} {b o : Nat} : ∀ {ps : List PV} {cs : List Value} {k : Nat}, PRels w F ps cs → (∀ i, i < cs.length → w.cell? ⟨b, o + k + i, none⟩ = cs[i]?) → PCells w F ps b (o + k)
 | [], _, _, _, _ => by simp only [PCells]
 | p :: ps, _, k, h, hc => by
  simp only [PRels] at h
  obtain ⟨v, r, rfl, h1, h2⟩ := h
  simp only [PCells]
  refine ⟨⟨v, by simpa using hc 0 (by simp), h1⟩, ?_⟩
  have := PCells_of (k := k + 1) (o := o) h2 (fun i hi => by
   have := hc (i + 1) (by simpa using hi)
   rw [List.getElem?_cons_succ] at this
   rw [← this]
   congr 2
   omega)
  rwa [Nat.add_assoc]
theorem OkShs_one {s : Sh} {p : PV} (h : OkShs [s] [p]) : OkSh s p := by
 simp only [OkShs] at h
 obtain ⟨q, r, e, h1, h2⟩ := h
 injection e with e1 e2
 subst e1
 exact h1
theorem OkSh_ne {s : Sh} {p : PV} (h : OkSh s p) : ∀ cs, p ≠ .agg cs := by
 intro cs e
 subst e
 cases s <;> simp [OkSh] at h
theorem PElems_cell {F : Nat → Prop} {p : PV} {xs : List PV} {b o : Nat} (hn : ∀ cs, p ≠ .agg cs) (h1 : ∃ v, w.cell? ⟨b, o, none⟩ = some v ∧ PRel w F p v) (h2 : PElems w F xs b (o + 1)) : PElems w F (p :: xs) b o := by
 cases p with
 | agg cs => exact absurd rfl (hn cs)
 | _ => simp only [PElems]; exact ⟨h1, h2⟩
theorem trod_sh : ∀ (f : Nat) (t : TypeId) (ss : List Sh), shOf P f t = some ss → ∀ (n : Nat) (cs : List Value) (x : DataW H × List MemPlace), DataW.trod enc P w base spare held n t cs = some x →
  ∃ ps, OkShs ss ps ∧ PRels w (fun _ => False) ps cs
 | 0, _, _, h => by simp [shOf] at h
 | f + 1, t, ss, h => by
  intro n cs x hx
  unfold shOf at h
  split at h
  ·rename_i ht
   injection h with h; subst h
   obtain ⟨b, rfl, _⟩ := DataW.trod_bool ht hx
   exact ⟨[.sc (.bool b)], by simp [OkShs, OkSh], by simp [PRels, PRel]⟩
  ·rename_i k ht
   injection h with h; subst h
   obtain ⟨m, rfl, _, hw⟩ := DataW.trod_int ht hx
   exact ⟨[.sc (.int k m)], by simp [OkShs, OkSh, hw], by simp [PRels, PRel]⟩
  ·rename_i ht
   injection h with h; subst h
   obtain ⟨s, rfl, _, hw⟩ := DataW.trod_string ht hx
   exact ⟨[.sc (.string s)], by simp [OkShs, OkSh, hw], by simp [PRels, PRel]⟩
  ·rename_i e ht
   split at h
   ·rename_i es hes
    split at h
    ·rename_i hc
     injection h with h; subst h
     obtain ⟨hc1, hc2, hc3⟩ := hc
     rcases DataW.trod_slice ht hx with ⟨rfl, _⟩ | ⟨a, len, cap, elems, rest, m, rfl, rfl, _, hb, hl, hm, hlen, hel, _, _⟩
     ·refine ⟨[.lst []], by simp [OkShs, OkSh], ?_⟩
      simp only [PRels, PRel]
      exact ⟨_, _, rfl, ⟨none, 0, 0, rfl, rfl, Nat.le_refl _, fun h => absurd h (by omega)⟩, rfl⟩
     ·by_cases h0 : len = 0
      ·subst h0
       refine ⟨[.lst []], by simp [OkShs, OkSh], ?_⟩
       simp only [PRels, PRel]
       exact ⟨_, _, rfl, ⟨some a, 0, cap, rfl, rfl, Nat.zero_le _, fun h => absurd h (by omega)⟩, rfl⟩
      ·have one : ∀ i, i < len → ∃ qs cs', OkShs es qs ∧ PRels w (fun _ => False) qs cs' ∧ cs'.length = es.length ∧ ∀ k, k < es.length → w.cell? ((a.add (i * P.cellsOf e)).add k) = cs'[k]? := by
        intro i hi
        have := hel i hi
        rw [List.getElem?_eq_getElem (show i < elems.length by omega)] at this
        simp only [Option.bind_eq_some_iff] at this
        obtain ⟨cs', h1, h2⟩ := this
        obtain ⟨qs, h3, h4⟩ := trod_sh f e es hes _ _ _ h2
        obtain ⟨h5, h6⟩ := cells_at h1
        exact ⟨qs, cs', h3, h4, by omega, fun k hk => h6 k (by omega)⟩
       obtain ⟨b, o, spot⟩ := a
       have hs : spot = none := by
        obtain ⟨qs, cs', h1, h2, h3, h4⟩ := one 0 (by omega)
        have h5 := h4 0 hc2
        rw [List.getElem?_eq_getElem (show 0 < cs'.length by omega)] at h5
        simpa [Addr.add] using World.cell?_spot h5
       subst hs
       have addr : ∀ i k : Nat, ((⟨b, o, none⟩ : Addr).add i).add k = ⟨b, o + i + k, none⟩ := by
        intro i k
        simp only [Addr.add]
        by_cases h1 : i = 0 <;> by_cases h2 : k = 0 <;> simp [h1, h2]
       have hbl : b < w.heap.size := by
        obtain ⟨qs, cs', h1, h2, h3, h4⟩ := one 0 (by omega)
        have h5 := h4 0 hc2
        rw [List.getElem?_eq_getElem (show 0 < cs'.length by omega), addr] at h5
        exact lt_of_cell h5
       have build : ∀ d, d ≤ len → ∃ xs : List PV, xs.length = d ∧ PElems w (fun _ => False) xs b (o + (len - d) * P.cellsOf e) ∧ ∀ x ∈ xs, (aggOf P e = true → ∃ qs, x = .agg qs ∧ OkShs es qs) ∧ (aggOf P e = false → OkShs es [x]) := by
        intro d
        induction d with
        | zero => intro _; exact ⟨[], rfl, by simp only [PElems], fun x hx => by cases hx⟩
        | succ d ih =>
         intro hd
         obtain ⟨xs, h1, h2, h3⟩ := ih (by omega)
         obtain ⟨qs, cs', k1, k2, k3, k4⟩ := one (len - (d + 1)) (by omega)
         have hql := OkShs.len k1
         have hpc : PCells w (fun _ => False) qs b (o + (len - (d + 1)) * P.cellsOf e) := PCells_of k2 (fun i hi => by
          have := k4 i (by omega)
          rw [addr] at this
          exact this)
         have hnext : o + (len - (d + 1)) * P.cellsOf e + es.length = o + (len - d) * P.cellsOf e := by
          rw [hc1, show len - d = (len - (d + 1)) + 1 by omega, Nat.add_mul]
          omega
         cases ha : aggOf P e with
         | true =>
          refine ⟨.agg qs :: xs, by simp [h1], ?_, ?_⟩
          ·simp only [PElems]
           exact ⟨hpc, by rw [hql, hnext]; exact h2⟩
          ·intro x hx
           rcases List.mem_cons.1 hx with rfl | hx
           ·exact ⟨fun _ => ⟨qs, rfl, k1⟩, fun h => (by cases h)⟩
           ·have := h3 x hx; rw [ha] at this; exact this
         | false =>
          have he1 : es.length = 1 := by rcases hc3 with h | h; rw [ha] at h; cases h; exact h
          obtain ⟨q, rfl⟩ := List.length_eq_one_iff.1 (hql.trans he1)
          obtain ⟨s, rfl⟩ := List.length_eq_one_iff.1 he1
          have hnext' : o + (len - (d + 1)) * P.cellsOf e + 1 = o + (len - d) * P.cellsOf e := hnext
          refine ⟨q :: xs, by simp [h1], ?_, ?_⟩
          ·simp only [PCells] at hpc
           exact PElems_cell (OkSh_ne (OkShs_one k1)) hpc.1 (by rw [hnext']; exact h2)
          ·intro x hx
           rcases List.mem_cons.1 hx with rfl | hx
           ·exact ⟨fun h => (by cases h), fun _ => k1⟩
           ·have := h3 x hx; rw [ha] at this; exact this
       obtain ⟨xs, h1, h2, h3⟩ := build len (Nat.le_refl _)
       rw [Nat.sub_self, Nat.zero_mul, Nat.add_zero] at h2
       refine ⟨[.lst xs], ?_, ?_⟩
       ·simp only [OkShs, OkSh]
        exact ⟨_, _, rfl, ⟨xs, rfl, by omega, h3⟩, rfl⟩
       ·simp only [PRels, PRel]
        exact ⟨_, _, rfl, ⟨_, len, cap, rfl, h1.symm, hl, fun _ => ⟨b, o, rfl, hbl, fun h => h, h2⟩⟩, rfl⟩
    ·cases h
   ·cases h
  ·rename_i fs ht
   split at h
   ·rename_i es hes
    split at h
    ·rename_i hc
     injection h with h; subst h
     obtain ⟨xs, m, rfl, _, hl, hxl, hf⟩ := DataW.trod_struct ht hx
     have go : ∀ (r : List Field) (i off : Nat) (ds : List Sh), fs.toList.drop i = r → shFields P (shOf P f) off r = some ds → cs.length = off + ds.length →
       ∃ ps, OkShs ds ps ∧ PRels w (fun _ => False) ps (cs.drop off) := by
      intro r
      induction r with
      | nil =>
       intro i off ds _ hd hlen
       simp only [shFields, Option.some.injEq] at hd
       subst hd
       refine ⟨[], by simp [OkShs], ?_⟩
       rw [List.drop_eq_nil_of_le (by simpa using Nat.le_of_eq hlen)]
       simp [PRels]
      | cons fl r ih =>
       intro i off ds hdrop hd hlen
       simp only [shFields] at hd
       split at hd
       ·rename_i c1 hc1
        split at hd
        ·rename_i ho
         split at hd
         ·rename_i d2 hd2
          injection hd with hd; subst hd
          obtain ⟨ho1, ho2⟩ := ho
          rw [List.length_append] at hlen
          have hfi : fs[i]? = some fl := by
           have : fs.toList[i]? = some fl := by
            have := congrArg List.head? hdrop
            rw [List.head?_drop] at this
            simpa using this
           simpa using this
          have hilt : i < fs.size := by
           rw [Array.getElem?_eq_some_iff] at hfi
           exact hfi.1
          have h1 := hf i fl hfi
          rw [List.getElem?_eq_getElem (show i < xs.length by omega), ho1] at h1
          obtain ⟨ps, p1, p2⟩ := trod_sh f fl.type c1 hc1 _ _ _ h1
          have hdrop' : fs.toList.drop (i + 1) = r := by
           rw [← List.tail_drop, hdrop]; rfl
          obtain ⟨qs, q1, q2⟩ := ih (i + 1) (off + c1.length) d2 hdrop' hd2 (by omega)
          refine ⟨ps ++ qs, p1.append q1, ?_⟩
          have : cs.drop off = (cs.drop off).take (P.cellsOf fl.type) ++ cs.drop (off + c1.length) := by
           rw [ho2, ← List.drop_drop, List.take_append_drop]
          rw [this]
          exact PRels.app p2 q2
         ·cases hd
        ·cases hd
       ·cases hd
     have := go fs.toList 0 0 es rfl hes (by omega)
     simpa using this
    ·cases h
   ·cases h
  ·cases h
end
end Go.Vc

namespace Go.Vc
open Go.RowKit Go.ChangeShapes Go.WideShapes Go.ChangeAt
def topOf (P : Program) (t : TypeId) : Option (Bool × List Sh) := match P.underlying t with
 | some (.struct _) => match shOf P 12 t with
  | some ss => some (true, ss)
  | none => none
 | some .bool | some (.int _) | some .string | some (.slice _) => match shOf P 12 t with
  | some ss => some (false, ss)
  | none => none
 | _ => none
def topsOf (P : Program) : List TypeId → Option (List (Bool × List Sh))
 | [] => some []
 | t :: ts => match topOf P t, topsOf P ts with
  | some a, some shs => some (a :: shs)
  | _, _ => none
def ArgOk : Bool × List Sh → PV → Prop
 | (true, ss), p => ∃ qs, p = .agg qs ∧ OkShs ss qs
 | (false, ss), p => OkShs ss [p]
def ArgsOk : List (Bool × List Sh) → List PV → Prop
 | [], ps => ps = []
 | a :: shs, ps => ∃ p r, ps = p :: r ∧ ArgOk a p ∧ ArgsOk shs r
section
variable {H : Type} {enc : TypeId × Value → H} {P : Program} {w : World} {base : Nat} {spare : Nat → Bool} {held : Bool} {r : Reach} {b0 : Nat}
theorem arg_one {t : TypeId} {ss : List Sh} {v : Value} {d : DataW H} {p : List MemPlace} (hv : v.cells.toList = [v]) (ht : shOf P 12 t = some ss) (h : DataW.Trod enc P w base spare held t v d p) :
  ∃ q, ArgOk (false, ss) q ∧ PRel w (fun _ => False) q v := by
 obtain ⟨n, hn⟩ := h
 obtain ⟨ps, h1, h2⟩ := trod_sh 12 t ss ht _ _ _ hn
 rw [hv] at h2
 have hl := PRels.length h2
 obtain ⟨q, rfl⟩ := List.length_eq_one_iff.1 (show ps.length = 1 from hl.symm)
 refine ⟨q, h1, ?_⟩
 simp only [PRels] at h2
 obtain ⟨v', r', e, h3, _⟩ := h2
 injection e with e1 e2
 subst e1
 exact h3
theorem arg_pv {t : TypeId} {a : Bool × List Sh} {v : Value} {d : DataW H} {p : List MemPlace} (ht : topOf P t = some a) (hv : Value.okWide P w r b0 t v) (h : DataW.Trod enc P w base spare held t v d p) :
  ∃ q, ArgOk a q ∧ PRel w (fun _ => False) q v := by
 unfold topOf at ht
 split at ht
 ·rename_i fs hu
  split at ht
  ·rename_i ss hs
   injection ht with ht; subst ht
   obtain ⟨cs, rfl, _⟩ := okWide_struct hu hv
   obtain ⟨n, hn⟩ := h
   obtain ⟨ps, h1, h2⟩ := trod_sh 12 t ss hs _ _ _ hn
   exact ⟨.agg ps, ⟨ps, rfl, h1⟩, by simp only [PRel]; exact ⟨cs.toList, rfl, h2⟩⟩
  ·cases ht
 ·rename_i hu
  split at ht
  ·rename_i ss hs
   injection ht with ht; subst ht
   obtain ⟨b, rfl⟩ := okWide_bool hu hv
   exact arg_one rfl hs h
  ·cases ht
 ·rename_i k hu
  split at ht
  ·rename_i ss hs
   injection ht with ht; subst ht
   obtain ⟨b, rfl⟩ := okWide_int hu hv
   exact arg_one rfl hs h
  ·cases ht
 ·rename_i hu
  split at ht
  ·rename_i ss hs
   injection ht with ht; subst ht
   obtain ⟨b, rfl⟩ := okWide_string hu hv
   exact arg_one rfl hs h
  ·cases ht
 ·rename_i e hu
  split at ht
  ·rename_i ss hs
   injection ht with ht; subst ht
   obtain ⟨_, _, _, rfl⟩ := okWide_slice hu hv
   exact arg_one rfl hs h
  ·cases ht
 ·cases ht
theorem args_pv : ∀ {ts : List TypeId} {shs : List (Bool × List Sh)} {vs : List Value} {ds : List (DataW H)} {ps : List MemPlace}, topsOf P ts = some shs → DataW.TrodAll enc P w base spare held ts vs ds ps →
  (∀ (j : Nat) t v, ts[j]? = some t → vs[j]? = some v → Value.okWide P w r b0 t v) → ds.length = ts.length ∧ ∃ qs, ArgsOk shs qs ∧ PRels w (fun _ => False) qs vs
 | [], shs, vs, ds, ps, ht, h, _ => by
  simp only [topsOf, Option.some.injEq] at ht
  subst ht
  obtain ⟨rfl, rfl, _⟩ := trodAll_nil h
  exact ⟨rfl, [], rfl, by simp only [PRels]⟩
 | t :: ts, shs, vs, ds, ps, ht, h, hv => by
  simp only [topsOf] at ht
  split at ht
  ·rename_i a as' h1 h2
   injection ht with ht; subst ht
   obtain ⟨v, vs', d, ds', p, q, rfl, rfl, rfl, h3, h4⟩ := trodAll_cons h
   obtain ⟨x, h5, h6⟩ := arg_pv h1 (hv 0 t v rfl rfl) h3
   obtain ⟨hl, xs, h7, h8⟩ := args_pv h2 h4 (fun j t' v' hj hj' => hv (j + 1) t' v' (by simpa using hj) (by simpa using hj'))
   exact ⟨by simp [hl], x :: xs, ⟨x, xs, rfl, h5, h7⟩, by simp only [PRels]; exact ⟨v, vs', rfl, h6, h8⟩⟩
  ·cases ht
theorem trodAll_stays (hl : laidOutB P = true) {W W' : World} (hb : Below W.heap.size W W') : ∀ {ts : List TypeId} {vs : List Value} {ds : List (DataW H)} {ps : List MemPlace},
  (∀ t ∈ ts, P.readableRec t = true ∧ t < P.types.size) → DataW.TrodAll enc P W 0 (fun _ => true) true ts vs ds ps →
  DataW.TrodAll enc P W' 0 (fun b => decide (b < W.heap.size)) true ts vs ds ps
 | [], _, _, _, _, h => by
  obtain ⟨rfl, rfl, rfl⟩ := trodAll_nil h
  exact trodAll_mk0
 | t :: ts, _, _, _, hr, h => by
  obtain ⟨v, vs', d, ds', p, q, rfl, rfl, rfl, h3, h4⟩ := trodAll_cons h
  have lt : ∀ x ∈ p, x.block < W.heap.size := by obtain ⟨m, hm⟩ := h3; exact DataW.trod_lt m _ _ _ hm
  exact trodAll_cons_mk (RowKit.Below.trod hl (hr t (by simp)).1 (hr t (by simp)).2 h3 hb.toGo lt) (trodAll_stays hl hb (fun t' ht' => hr t' (by simp [ht'])) h4)
end
end Go.Vc

namespace Go.Vc
open Go.RowKit
theorem Res.row_pv {w : World} {F : Nat → Prop} {y : Cx} {v : AV} {s : Nat} {xs : List PV} {cv cr : Value} (hF : ∀ b, F b → b < w.heap.size) (h : Res w F y v [(s, xs)] cv) (hr : VRel y (.row 0 0 xs.length) cr) :
  PRel y.w F (.lst xs) cr := by
 have hrow := h.rows 0 s xs rfl
 have hfr := h.fresh 0 (by simp)
 simp only [Row.rel] at hrow
 simp only [VRel] at hr
 simp only [PRel]
 rcases hr with ⟨h0, _, a, rfl⟩ | ⟨c, hok, rfl, h2, h3, h4⟩
 ·exact ⟨a, 0, 0, rfl, h0.symm, Nat.le_refl _, fun hn => absurd hn (by omega)⟩
 ·refine ⟨_, xs.length, c, rfl, rfl, h2, fun hn => ?_⟩
  rcases hrow with ⟨h5, _⟩ | ⟨hs, _, _, _, ⟨arr, et, hh, _⟩, hE⟩
  ·rw [h5] at hok; cases hok
  ·refine ⟨_, _, rfl, (Array.getElem?_eq_some_iff.1 hh).1, fun hb => ?_, ?_⟩
   ·have := hF _ hb
    have := hfr hok
    omega
   ·have := PElems.kept (x := y) (y := ⟨y.w, F, y.ρ⟩) ⟨Nat.le_refl _, fun _ _ _ => rfl, fun b _ hb => (h.F b).2 (.inl hb)⟩ xs (fun hc => hc) hE
    simpa using this
theorem Fn.map {P : Program} {f : FuncId} {args : List PV} {v v' : AV} {rs : List (Nat × List PV)} (h : Fn P f args v rs)
  (hm : ∀ (w : World) (F : Nat → Prop) (y : Cx) (cv : Value), (∀ b, F b → b < w.heap.size) → Res w F y v rs cv → VRel ⟨y.w, F, y.ρ⟩ v' cv) : Fn P f args v' [] := by
 refine ⟨h.1, fun w F vs hF htb hvs => ?_⟩
 refine Calls.mono (h.2 w F vs hF htb hvs) ?_
 rintro en w' ⟨cv, y, he, hw, hr⟩
 exact ⟨cv, ⟨y.w, F, y.ρ⟩, he, hw, ⟨hr.below, hm w F y cv hF hr, fun i s xs hi => by simp at hi, fun i j hi => by simp at hi, fun i hi => by simp at hi, fun b => by simp⟩⟩
theorem Fn.row {P : Program} {f : FuncId} {args : List PV} {s n : Nat} {xs : List PV} (h : Fn P f args (.row 0 0 n) [(s, xs)]) (hn : n = xs.length) : Fn P f args (.pv (.lst xs)) [] := by
 subst hn
 refine h.map fun w F y cv hF hr => ?_
 simp only [VRel]
 exact hr.row_pv hF hr.val
end Go.Vc

namespace Go.Vc
set_option linter.unusedSimpArgs false
abbrev pS (s : ByteArray) : PV := .sc (.string s)
abbrev pI (n : Int) : PV := .sc (.int .i64 n)
abbrev pU (n : Int) : PV := .sc (.int .u64 n)
abbrev pB (b : Bool) : PV := .sc (.bool b)
theorem getD_map {α : Type} {f : α → PV} {l : List α} {i : Nat} (h : i < l.length) : (l.map f).getD i default = f l[i] := by simp [List.getD_eq_getElem?_getD, h]
theorem wf_map {α : Type} {f : α → PV} {s : Nat} (h : ∀ a, (f a).cells.length = s ∧ ∀ c ∈ (f a).cells, c.one = true) (l : List α) : WfL s (l.map f) := fun p hp => by
 obtain ⟨a, _, rfl⟩ := List.mem_map.1 hp
 exact h a
abbrev us (l : List Int) : PV := .lst (l.map pU)
theorem bl_irrefl : ∀ x : List UInt8, Op.bytesLess x x = false
 | [] => rfl
 | a :: x => by simp [Op.bytesLess, bl_irrefl x]
theorem bl_asymm : ∀ {x y : List UInt8}, Op.bytesLess x y = true → Op.bytesLess y x = false
 | _, [], h => by simp [Op.bytesLess] at h
 | [], _ :: _, _ => rfl
 | a :: x, b :: y, h => by
  simp only [Op.bytesLess, Bool.or_eq_true, decide_eq_true_eq, Bool.and_eq_true, beq_iff_eq] at h
  simp only [Op.bytesLess, Bool.or_eq_false_iff, decide_eq_false_iff_not, Bool.and_eq_false_iff]
  rcases h with h | ⟨h1, h2⟩
  ·refine ⟨fun h' => ?_, .inl ?_⟩
   ·have g1 : a.toNat < b.toNat := h
    have g2 : b.toNat < a.toNat := h'
    omega
   ·rw [beq_eq_false_iff_ne]
    intro e; subst e
    have g1 : b.toNat < b.toNat := h
    omega
  ·subst h1
   refine ⟨fun h' => ?_, .inr (bl_asymm h2)⟩
   have g1 : a.toNat < a.toNat := h'
   omega
theorem bl_total : ∀ {x y : List UInt8}, Op.bytesLess x y = false → x ≠ y → Op.bytesLess y x = true
 | [], [], _, h => absurd rfl h
 | _ :: _, [], _, _ => rfl
 | [], _ :: _, h, _ => by simp [Op.bytesLess] at h
 | a :: x, b :: y, h, hn => by
  simp only [Op.bytesLess, Bool.or_eq_false_iff, decide_eq_false_iff_not, Bool.and_eq_false_iff] at h
  simp only [Op.bytesLess, Bool.or_eq_true, decide_eq_true_eq, Bool.and_eq_true, beq_iff_eq]
  by_cases hba : b < a
  ·exact .inl hba
  ·right
   have hab : a = b := by
    apply UInt8.toNat_inj.1
    have g1 : ¬ a.toNat < b.toNat := h.1
    have g2 : ¬ b.toNat < a.toNat := hba
    omega
   subst hab
   refine ⟨rfl, ?_⟩
   rcases h.2 with h2 | h2
   ·simp at h2
   ·exact bl_total h2 (fun e => hn (by rw [e]))
theorem bl_trans : ∀ {x y z : List UInt8}, Op.bytesLess x y = true → Op.bytesLess y z = true → Op.bytesLess x z = true
 | _, [], _, h, _ => by simp [Op.bytesLess] at h
 | _, _ :: _, [], _, h => by simp [Op.bytesLess] at h
 | [], _ :: _, _ :: _, _, _ => rfl
 | a :: x, b :: y, c :: z, h, k => by
  simp only [Op.bytesLess, Bool.or_eq_true, decide_eq_true_eq, Bool.and_eq_true, beq_iff_eq] at h k ⊢
  rcases h with h | ⟨h1, h2⟩ <;> rcases k with k | ⟨k1, k2⟩
  ·left
   have g1 : a.toNat < b.toNat := h
   have g2 : b.toNat < c.toNat := k
   exact (show a.toNat < c.toNat by omega)
  ·subst k1; exact .inl h
  ·subst h1; exact .inl k
  ·subst h1; subst k1; exact .inr ⟨rfl, bl_trans h2 k2⟩
end Go.Vc

namespace Go.Vc
open Go.RowKit
set_option linter.unusedSimpArgs false
set_option linter.unusedVariables false
theorem mem_stDel : ∀ {l : List (Nat × Row)} {k : Nat} {e : Nat × Row}, e ∈ l → e.1 ≠ k → e ∈ stDel l k
 | [], _, _, h, _ => by cases h
 | (k', v) :: l, k, e, h, hk => by
  simp only [stDel]
  rcases List.mem_cons.1 h with h | h
  ·subst h
   rw [if_neg hk]; simp
  ·have := mem_stDel h hk
   split
   ·exact this
   ·exact List.mem_cons_of_mem _ this
theorem ACells.reset {x : Cx} {v : AV} (hv : ∀ cv, VRel x .e0 cv → VRel x v cv) : ∀ {cs : List AV} {j b o : Nat}, cs.getD j .un = .e0 → ACells x cs b o → ACells x (cs.set j v) b o
 | [], j, b, o, h, _ => by simp at h
 | c :: cs, 0, b, o, h, hc => by
  simp only [List.getD_cons_zero] at h
  subst h
  simp only [ACells, List.set_cons_zero] at hc ⊢
  obtain ⟨⟨u, h1, h2⟩, h3⟩ := hc
  exact ⟨⟨u, h1, hv u h2⟩, h3⟩
 | c :: cs, j + 1, b, o, h, hc => by
  simp only [List.getD_cons_succ] at h
  simp only [ACells, List.set_cons_succ] at hc ⊢
  exact ⟨hc.1, ACells.reset hv h hc.2⟩
theorem SRel.recell {e : Env} {σ : St} {x : Cx} {a : Act} (h : SRel e σ x a) {b : Nat} {cs cs' : List AV} (hm : (b, .box cs) ∈ σ.st) (hl : cs'.length = cs.length) (hc : ∀ bl o, ACells x cs bl o → ACells x cs' bl o) :
  SRel e ⟨σ.fr, (b, .box cs') :: stDel σ.st b⟩ x a := by
 have old : ∀ q u, (q, u) ∈ (b, Row.box cs') :: stDel σ.st b → ∃ u', (q, u') ∈ σ.st ∧ ((q = b ∧ u = .box cs' ∧ u' = .box cs) ∨ u = u') := fun q u hq => by
  rcases List.mem_cons.1 hq with hq | hq
  ·injection hq with h1 h2; subst h1; subst h2
   exact ⟨_, hm, .inl ⟨rfl, rfl, rfl⟩⟩
  ·exact ⟨u, (stDel_mem hq).1, .inr rfl⟩
 have own : ∀ bb, Own ((b, Row.box cs') :: stDel σ.st b) x.ρ bb ↔ Own σ.st x.ρ bb := fun bb => by
  constructor
  ·rintro ⟨q, u, h1, h2⟩
   obtain ⟨u', h3, _⟩ := old q u h1
   exact ⟨q, u', h3, h2⟩
  ·rintro ⟨q, u, h1, h2⟩
   by_cases hq : q = b
   ·subst hq; exact ⟨q, _, List.mem_cons_self .., h2⟩
   ·exact ⟨q, u, List.mem_cons_of_mem _ (mem_stDel h1 hq), h2⟩
 exact { h with
  st := fun q u hq => by
   obtain ⟨u', h1, h2⟩ := old q u hq
   rcases h2 with ⟨rfl, rfl, rfl⟩ | rfl
   ·have := h.st q _ h1
    simp only [Row.rel, hl] at this ⊢
    exact ⟨this.1, this.2.1, hc _ _ this.2.2⟩
   ·exact h.st q u h1
  keys := by
   simp only [List.map_cons, List.nodup_cons]
   refine ⟨fun hk => ?_, stDel_keys h.keys⟩
   obtain ⟨⟨q, u⟩, h1, h2⟩ := List.mem_map.1 hk
   exact (stDel_mem h1).2 h2
  inj := fun q u q' u' hq hq' => by
   obtain ⟨u1, h1, _⟩ := old q u hq
   obtain ⟨u2, h2, _⟩ := old q' u' hq'
   exact h.inj q u1 q' u2 h1 h2
  F := fun bb => (h.F bb).trans (or_congr Iff.rfl (own bb).symm)
  own := fun q u hq => by
   obtain ⟨u1, h1, _⟩ := old q u hq
   exact h.own q u1 h1 }
def St.virtB (σ : St) (b j r s : Nat) : St := match stGet σ.st r with
 | none => if r < 200000 then (match stGet (σ.newRow r (.sl s [])).st b with
  | some (.box cs) => (match cs.getD j .un with
   | .e0 => ⟨(σ.newRow r (.sl s [])).fr, (b, .box (cs.set j (.row r 0 0))) :: stDel (σ.newRow r (.sl s [])).st b⟩
   | _ => σ)
  | _ => σ) else σ
 | some _ => σ
theorem SRel.virtB {e : Env} {σ : St} {x : Cx} {a : Act} (h : SRel e σ x a) (b j r s : Nat) : ∃ y, y.w = x.w ∧ SRel e (σ.virtB b j r s) y a := by
 unfold St.virtB
 split
 ·split
  ·rename_i hr2
   have h3 := h.fresh (w' := x.w) (Below.refl _ _) r (.sl s []) ⟨0, 0, 0, s, false, 0⟩ (fun hf => by cases hf) (.inl ⟨rfl, rfl⟩) hr2
   split
   ·rename_i cs hb
    split
    ·rename_i hj
     refine ⟨newCx e σ x x.w r (.sl s []) ⟨0, 0, 0, s, false, 0⟩, rfl, h3.recell (stGet_mem hb) (by simp) fun bl o hc => ACells.reset (fun cv h2 => ?_) hj hc⟩
     simp only [VRel] at h2
     unfold VRel
     exact .inl ⟨rfl, fun hk => by simp [newCx, updρ] at hk, h2⟩
    ·exact ⟨x, rfl, h⟩
   ·exact ⟨x, rfl, h⟩
  ·exact ⟨x, rfl, h⟩
 ·exact ⟨x, rfl, h⟩
def St.nilB (σ : St) (b j : Nat) : St := match stGet σ.st b with
 | some (.box cs) => (match cs.getD j .un with
  | .e0 => ⟨σ.fr, (b, .box (cs.set j (.pv (.lst [])))) :: stDel σ.st b⟩
  | _ => σ)
 | _ => σ
theorem SRel.nilB {e : Env} {σ : St} {x : Cx} {a : Act} (h : SRel e σ x a) (b j : Nat) : SRel e (σ.nilB b j) x a := by
 unfold St.nilB
 split
 ·rename_i cs hb
  split
  ·rename_i hj
   refine h.recell (stGet_mem hb) (by simp) fun bl o hc => ACells.reset (fun cv h2 => ?_) hj hc
   simp only [VRel] at h2
   obtain ⟨a, rfl⟩ := h2
   simp only [VRel, PRel]
   exact ⟨a, 0, 0, rfl, rfl, Nat.le_refl _, fun hn => absurd hn (by omega)⟩
  ·exact h
 ·exact h
def St.virtBs (σ : St) : List (Nat × Nat × Nat × Nat) → St
 | [] => σ
 | (b, j, r, s) :: l => (if s = 0 then σ.nilB b j else σ.virtB b j r s).virtBs l
theorem SRel.virtBs {e : Env} {a : Act} : ∀ (l : List (Nat × Nat × Nat × Nat)) {σ : St} {x : Cx}, SRel e σ x a → ∃ y, y.w = x.w ∧ SRel e (σ.virtBs l) y a
 | [], _, x, h => ⟨x, rfl, h⟩
 | (b, j, r, s) :: l, σ, x, h => by
  unfold St.virtBs
  split
  ·exact SRel.virtBs l (h.nilB b j)
  ·obtain ⟨y, h1, h2⟩ := h.virtB b j r s
   obtain ⟨z, h3, h4⟩ := SRel.virtBs l h2
   exact ⟨z, h3.trans h1, h4⟩
theorem Weak.virts (σ : St) (vs : List (Nat × Nat × Nat)) : Weak σ (σ.virts vs) := fun _ _ _ h => h.virts vs
theorem Weak.virtBs (σ : St) (l : List (Nat × Nat × Nat × Nat)) : Weak σ (σ.virtBs l) := fun _ _ _ h => h.virtBs l
theorem run_loopF {P : Program} {R : Exit → St → Prop} {k : List KI} {σ : St} {b : MC} {T : Type} (vs : T → List (Nat × Nat × Nat)) (bs : T → List (Nat × Nat × Nat × Nat)) (keep rows : List Nat) (I : T → St) (G : T → Prop) (μ : T → Nat) (t₀ : T)
  (h0 : ((σ.virts (vs t₀)).virtBs (bs t₀)).norm keep rows = I t₀) (hG : G t₀)
  (h : ∀ t, G t → run P R b (.lp (fun σ' => ∃ t', ((σ'.virts (vs t')).virtBs (bs t')).norm keep rows = I t' ∧ G t' ∧ μ t' < μ t) :: k) (I t)) : run P R (.loop b) k σ :=
 run_loopW I (fun σ' t => ((σ'.virts (vs t)).virtBs (bs t)).norm keep rows = I t) (fun σ' t hw => by rw [← hw]; exact ((Weak.virts _ _).trans (Weak.virtBs _ _)).trans (Weak.norm _ _ _)) G μ t₀ h0 hG h
def GH (vs : List (Nat × Nat × Nat)) (keep rows : List Nat) (σ τ : St) : Prop := (σ.virts vs).norm keep rows = τ
theorem run_loopG {P : Program} {R : Exit → St → Prop} {k : List KI} {σ : St} {b : MC} {T : Type} (vs : T → List (Nat × Nat × Nat)) (keep rows : List Nat) (I : T → St) (G : T → Prop) (μ : T → Nat) (t₀ : T)
  (h0 : (σ.virts (vs t₀)).norm keep rows = I t₀) (hG : G t₀)
  (h : ∀ t, G t → run P R b (.lp (fun σ' => ∃ t', GH (vs t') keep rows σ' (I t') ∧ G t' ∧ μ t' < μ t) :: k) (I t)) : run P R (.loop b) k σ :=
 run_loopW I (fun σ' t => GH (vs t) keep rows σ' (I t)) (fun σ' t hw => by rw [← hw]; exact (Weak.virts _ _).trans (Weak.norm _ _ _)) G μ t₀ h0 hG h
attribute [go_sem] St.virtBs St.virtB St.nilB
end Go.Vc

namespace Go.Vc
open Go.RowKit
set_option linter.unusedSimpArgs false
set_option linter.unusedVariables false
def tb {α : Type} (n : Nat) (f : Nat → α) : List α := (List.range n).map f
theorem tb_len {α : Type} (n : Nat) (f : Nat → α) : (tb n f).length = n := by simp [tb]
theorem tb_get {α : Type} {n : Nat} {f : Nat → α} {i : Nat} {d : α} (h : i < n) : (tb n f).getD i d = f i := by simp [tb, List.getD_eq_getElem?_getD, h]
theorem tb_set {α : Type} {n : Nat} {f : Nat → α} {i : Nat} {v : α} (h : i < n) : (tb n f).set i v = tb n (fun j => if j = i then v else f j) := by
 refine List.ext_getElem (by simp [tb]) fun j h1 h2 => ?_
 rw [List.getElem_set]
 simp only [tb, List.getElem_map, List.getElem_range]
 by_cases hj : j = i
 ·subst hj; simp
 ·rw [if_neg (Ne.symm hj), if_neg hj]
theorem tb_ext {α : Type} {n : Nat} {f g : Nat → α} (h : ∀ i, i < n → f i = g i) : tb n f = tb n g := by
 unfold tb
 exact List.map_congr_left fun i hi => h i (List.mem_range.1 hi)
theorem tb_rep {α : Type} (n : Nat) (v : α) : List.replicate n v = tb n (fun _ => v) := by simp [tb, List.map_const']
theorem tb_map {α β : Type} {n : Nat} {f : Nat → α} (g : α → β) : (tb n f).map g = tb n (fun i => g (f i)) := by simp [tb]
theorem frzs_eq (r : Nat) (row : Row) : ∀ l : List AV, AV.frzs r row l = l.map (AV.frz r row)
 | [] => rfl
 | v :: l => by simp only [AV.frzs, List.map_cons, frzs_eq r row l]
theorem clips_eq (D : Nat → Bool) : ∀ l : List AV, AV.clips D l = l.map (AV.clip D)
 | [] => rfl
 | v :: l => by simp only [AV.clips, List.map_cons, clips_eq D l]
def famN : List Nat := List.range' 100000 1000
def slots (n : Nat) (L : Nat → List PV) : List AV := tb n fun k => .row (100000 + k) 0 (L k).length
def famF (L : Nat → List PV) (k m : Nat) : List (Nat × Row) := (List.range' k m).map fun j => (100000 + j, Row.sl 1 (L j))
def fam (n : Nat) (L : Nat → List PV) : List (Nat × Row) := famF L 0 n
theorem famN_out {a : Nat} (h : a < 100000) : (a ∈ famN) = False := by
 unfold famN
 rw [List.mem_range']
 refine propext ⟨fun ⟨i, _, h2⟩ => by omega, False.elim⟩
theorem stKeep_ext {l l' : List (Nat × Row)} : ∀ {ts : List Nat}, (∀ t ∈ ts, stGet l t = stGet l' t) → stKeep l ts = stKeep l' ts
 | [], _ => rfl
 | t :: ts, h => by
  have ih := stKeep_ext (l := l) (l' := l') (ts := ts) fun u hu => h u (List.mem_cons_of_mem _ hu)
  simp only [stKeep, h t (by simp), ih]
theorem stKeep_skip {a : Nat} {u : Row} {l : List (Nat × Row)} (h : a < 100000) : stKeep ((a, u) :: l) famN = stKeep l famN := by
 refine stKeep_ext fun t ht => ?_
 have : a ≠ t := fun e => by subst e; rw [famN_out h] at ht; exact ht
 simp only [stGet, if_neg this]
theorem stGet_famF {L : Nat → List PV} : ∀ {m k j : Nat}, stGet (famF L k m) (100000 + j) = if k ≤ j ∧ j < k + m then some (.sl 1 (L j)) else none
 | 0, k, j => by rw [if_neg (by omega)]; rfl
 | m + 1, k, j => by
  have ih := stGet_famF (L := L) (m := m) (k := k + 1) (j := j)
  simp only [famF, List.range'_succ, List.map_cons, stGet] at ih ⊢
  by_cases h : k = j
  ·subst h; rw [if_pos rfl, if_pos (by omega)]
  ·rw [if_neg (by omega), ih]
   by_cases h2 : k + 1 ≤ j ∧ j < k + 1 + m
   ·rw [if_pos h2, if_pos (by omega)]
   ·rw [if_neg h2, if_neg (by omega)]
theorem stGet_fam {n k : Nat} {L : Nat → List PV} (h : k < n) : stGet (fam n L) (100000 + k) = some (.sl 1 (L k)) := by
 unfold fam; rw [stGet_famF, if_pos (by omega)]
theorem famF_keys {L : Nat → List PV} {k m : Nat} {e : Nat × Row} (h : e ∈ famF L k m) : 100000 + k ≤ e.1 ∧ e.1 < 100000 + k + m ∧ ∃ xs, e.2 = .sl 1 xs := by
 unfold famF at h
 obtain ⟨j, hj, rfl⟩ := List.mem_map.1 h
 rw [List.mem_range'] at hj
 obtain ⟨i, h1, h2⟩ := hj
 exact ⟨by simp only; omega, by simp only; omega, _, rfl⟩
theorem stKeep_famF {n : Nat} {L : Nat → List PV} (hn : n ≤ 1000) {l : List (Nat × Row)} (hl : ∀ j, j < 1000 → stGet l (100000 + j) = if j < n then some (.sl 1 (L j)) else none) : ∀ m j, j + m = 1000 → stKeep l (List.range' (100000 + j) m) = famF L j (n - j)
 | 0, j, h => by rw [show n - j = 0 by omega]; rfl
 | m + 1, j, h => by
  have ih := stKeep_famF hn hl m (j + 1) (by omega)
  rw [List.range'_succ, stKeep]
  have hc : (List.range' (100000 + j + 1) m).contains (100000 + j) = false := by
   rw [List.contains_eq_mem, decide_eq_false_iff_not, List.mem_range']
   rintro ⟨i, _, h2⟩; omega
  rw [hc, hl j (by omega)]
  simp only [Bool.false_eq_true, if_false]
  rw [show 100000 + j + 1 = 100000 + (j + 1) by omega, ih]
  by_cases hj : j < n
  ·rw [if_pos hj, show n - j = n - (j + 1) + 1 by omega]
   simp only [famF, List.range'_succ, List.map_cons]
  ·rw [if_neg hj, show n - (j + 1) = 0 by omega, show n - j = 0 by omega]
   rfl
theorem stKeep_of {n : Nat} {L : Nat → List PV} (hn : n ≤ 1000) {l : List (Nat × Row)} (hl : ∀ j, j < 1000 → stGet l (100000 + j) = if j < n then some (.sl 1 (L j)) else none) : stKeep l famN = fam n L := stKeep_famF hn hl 1000 0 (by omega)
theorem stKeep_fam {n : Nat} {L : Nat → List PV} (hn : n ≤ 1000) : stKeep (fam n L) famN = fam n L :=
 stKeep_of hn fun j _ => by
  unfold fam; rw [stGet_famF]
  by_cases h : j < n
  ·rw [if_pos h, if_pos (by omega)]
  ·rw [if_neg h, if_neg (by omega)]
theorem stDel_famF {L : Nat → List PV} {k m a : Nat} (h : a < 100000 + k ∨ 100000 + k + m ≤ a) : stDel (famF L k m) a = famF L k m := stDel_id fun q v hq => by
 obtain ⟨h1, h2, _⟩ := famF_keys hq
 simp only at h1 h2
 omega
theorem stFrz_famF {r : Nat} {row : Row} {L : Nat → List PV} : ∀ {m k : Nat}, stFrz r row (famF L k m) = famF L k m
 | 0, k => rfl
 | m + 1, k => by
  have ih := stFrz_famF (r := r) (row := row) (L := L) (m := m) (k := k + 1)
  simp only [famF, List.range'_succ, List.map_cons, stFrz, Row.frz] at ih ⊢
  rw [ih]
section
variable {e : Env} {σ : St} {x : Cx} {a : Act}
theorem SRel.recellx (h : SRel e σ x a) {b : Nat} {cs cs' : List AV} (hm : (b, .bxs cs) ∈ σ.st) (hl : cs'.length = cs.length) (hc : ∀ bl o, ACells x cs bl o → ACells x cs' bl o) :
  SRel e ⟨σ.fr, (b, .bxs cs') :: stDel σ.st b⟩ x a := by
 have old : ∀ q u, (q, u) ∈ (b, Row.bxs cs') :: stDel σ.st b → ∃ u', (q, u') ∈ σ.st ∧ ((q = b ∧ u = .bxs cs' ∧ u' = .bxs cs) ∨ u = u') := fun q u hq => by
  rcases List.mem_cons.1 hq with hq | hq
  ·injection hq with h1 h2; subst h1; subst h2
   exact ⟨_, hm, .inl ⟨rfl, rfl, rfl⟩⟩
  ·exact ⟨u, (stDel_mem hq).1, .inr rfl⟩
 have own : ∀ bb, Own ((b, Row.bxs cs') :: stDel σ.st b) x.ρ bb ↔ Own σ.st x.ρ bb := fun bb => by
  constructor
  ·rintro ⟨q, u, h1, h2⟩
   obtain ⟨u', h3, _⟩ := old q u h1
   exact ⟨q, u', h3, h2⟩
  ·rintro ⟨q, u, h1, h2⟩
   by_cases hq : q = b
   ·subst hq; exact ⟨q, _, List.mem_cons_self .., h2⟩
   ·exact ⟨q, u, List.mem_cons_of_mem _ (mem_stDel h1 hq), h2⟩
 exact { h with
  st := fun q u hq => by
   obtain ⟨u', h1, h2⟩ := old q u hq
   rcases h2 with ⟨rfl, rfl, rfl⟩ | rfl
   ·have := h.st q _ h1
    simp only [Row.rel, hl] at this ⊢
    exact ⟨this.1, this.2.1, this.2.2.1, hc _ _ this.2.2.2⟩
   ·exact h.st q u h1
  keys := by
   simp only [List.map_cons, List.nodup_cons]
   refine ⟨fun hk => ?_, stDel_keys h.keys⟩
   obtain ⟨⟨q, u⟩, h1, h2⟩ := List.mem_map.1 hk
   exact (stDel_mem h1).2 h2
  inj := fun q u q' u' hq hq' => by
   obtain ⟨u1, h1, _⟩ := old q u hq
   obtain ⟨u2, h2, _⟩ := old q' u' hq'
   exact h.inj q u1 q' u2 h1 h2
  F := fun bb => (h.F bb).trans (or_congr Iff.rfl (own bb).symm)
  own := fun q u hq => by
   obtain ⟨u1, h1, _⟩ := old q u hq
   exact h.own q u1 h1 }
end
def famR : Nat → List (Nat × Row)
 | 0 => []
 | k + 1 => (100000 + k, .sl 1 []) :: famR k
theorem famR_keys : ∀ {k : Nat} {e : Nat × Row}, e ∈ famR k → 100000 ≤ e.1 ∧ e.1 < 100000 + k ∧ e.2 = .sl 1 []
 | 0, e, h => by cases h
 | k + 1, e, h => by
  rcases List.mem_cons.1 h with rfl | h
  ·exact ⟨by simp only; omega, by simp only; omega, rfl⟩
  ·obtain ⟨h1, h2, h3⟩ := famR_keys h
   exact ⟨h1, by omega, h3⟩
theorem stGet_famR : ∀ {k j : Nat} {l : List (Nat × Row)}, stGet (famR k ++ l) (100000 + j) = if j < k then some (.sl 1 []) else stGet l (100000 + j)
 | 0, j, l => by rw [if_neg (by omega)]; rfl
 | k + 1, j, l => by
  have ih := stGet_famR (k := k) (j := j) (l := l)
  simp only [famR, List.cons_append, stGet]
  by_cases h : k = j
  ·subst h; rw [if_pos rfl, if_pos (by omega)]
  ·rw [if_neg (by omega), ih]
   by_cases h2 : j < k
   ·rw [if_pos h2, if_pos (by omega)]
   ·rw [if_neg h2, if_neg (by omega)]
abbrev cells0 (n k : Nat) : List AV := tb n fun j => if j < k then .row (100000 + j) 0 0 else .e0
theorem Weak.fan1 {fr : List (Nat × AV)} {rest : List (Nat × Row)} {b n k : Nat} (hb : b < 100000) (hk : k < n) (hn : n ≤ 1000) (hfr : frClip (only (100000 + k)) fr = fr) (hrest : ∀ q v, (q, v) ∈ rest → q < 100000 ∧ q ≠ b ∧ v.clip (only (100000 + k)) = v) :
  Weak ⟨fr, (b, .bxs (cells0 n k)) :: (famR k ++ rest)⟩ ⟨fr, (b, .bxs (cells0 n (k + 1))) :: (famR (k + 1) ++ rest)⟩ := fun e x a h => by
 have h3 := h.fresh (w' := x.w) (Below.refl _ _) (100000 + k) (.sl 1 []) ⟨0, 0, 0, 1, false, 0⟩ (fun hf => by cases hf) (.inl ⟨rfl, rfl⟩) (by omega)
 have hcl : AV.clips (only (100000 + k)) (cells0 n k) = cells0 n k := by
  rw [clips_eq, tb_map]
  refine tb_ext fun j hj => ?_
  by_cases hjk : j < k
  ·have hon : only (100000 + k) (100000 + j) = false := by simp [only]; omega
   simp only [if_pos hjk, AV.clip, hon, Bool.false_eq_true, if_false]
  ·simp only [if_neg hjk, AV.clip]
 have hst : (St.newRow ⟨fr, (b, .bxs (cells0 n k)) :: (famR k ++ rest)⟩ (100000 + k) (.sl 1 [])) = ⟨fr, (100000 + k, .sl 1 []) :: (b, .bxs (cells0 n k)) :: (famR k ++ rest)⟩ := by
  unfold St.newRow
  rw [hfr, stDel_id (r := 100000 + k), stClip_id]
  ·intro q v hq
   rcases List.mem_cons.1 hq with hq | hq
   ·injection hq with h1 h2; subst h1; subst h2
    simp only [Row.clip, hcl]
   ·rcases List.mem_append.1 hq with hq | hq
    ·obtain ⟨_, _, h9⟩ := famR_keys hq
     simp only at h9
     subst h9; rfl
    ·exact (hrest q v hq).2.2
  ·intro q v hq
   rcases List.mem_cons.1 hq with hq | hq
   ·injection hq with h1 h2; omega
   ·rcases List.mem_append.1 hq with hq | hq
    ·obtain ⟨_, h9, _⟩ := famR_keys hq
     simp only at h9; omega
    ·have := (hrest q v hq).1; omega
 rw [hst] at h3
 have hm : (b, Row.bxs (cells0 n k)) ∈ (100000 + k, Row.sl 1 []) :: (b, .bxs (cells0 n k)) :: (famR k ++ rest) := by simp
 have h4 := h3.recellx (cs' := (cells0 n k).set k (.row (100000 + k) 0 0)) hm (by simp) fun bl o hc => ACells.reset (fun cv h2 => by
  simp only [VRel] at h2
  unfold VRel
  exact .inl ⟨rfl, fun hk => by simp [newCx, updρ] at hk, h2⟩) (by rw [tb_get hk, if_neg (by omega)]) hc
 have hset : (cells0 n k).set k (.row (100000 + k) 0 0) = cells0 n (k + 1) := by
  rw [tb_set hk]
  refine tb_ext fun j hj => ?_
  by_cases h1 : j = k
  ·subst h1; rw [if_pos rfl, if_pos (by omega)]
  ·rw [if_neg h1]
   by_cases h2 : j < k
   ·rw [if_pos h2, if_pos (by omega)]
   ·rw [if_neg h2, if_neg (by omega)]
 have hdel : stDel ((100000 + k, Row.sl 1 []) :: (b, .bxs (cells0 n k)) :: (famR k ++ rest)) b = famR (k + 1) ++ rest := by
  have hz : stDel (famR k ++ rest) b = famR k ++ rest := stDel_id fun q v hq => by
   rcases List.mem_append.1 hq with hq | hq
   ·have h9 := (famR_keys hq).1
    simp only at h9
    omega
   ·exact (hrest q v hq).2.1
  simp only [stDel, if_neg (show ¬ 100000 + k = b by omega), if_true, hz, famR, List.cons_append]
 rw [hset, hdel] at h4
 refine ⟨_, ?_, h4⟩
 rfl
theorem Weak.fan {fr : List (Nat × AV)} {rest : List (Nat × Row)} {b n : Nat} (hb : b < 100000) (hn : n ≤ 1000) (hfr : ∀ k, frClip (only (100000 + k)) fr = fr) (hrest : ∀ q v, (q, v) ∈ rest → q < 100000 ∧ q ≠ b ∧ ∀ k, v.clip (only (100000 + k)) = v) :
  ∀ k, k ≤ n → Weak ⟨fr, (b, .bxs (cells0 n 0)) :: rest⟩ ⟨fr, (b, .bxs (cells0 n k)) :: (famR k ++ rest)⟩
 | 0, _ => fun e x a h => ⟨x, rfl, h⟩
 | k + 1, hk => (Weak.fan hb hn hfr hrest k (by omega)).trans (Weak.fan1 hb (by omega) hn (hfr k) fun q v hq => ⟨(hrest q v hq).1, (hrest q v hq).2.1, (hrest q v hq).2.2 k⟩)
theorem cells0_nil (n : Nat) : cells0 n 0 = List.replicate n .e0 := by
 rw [tb_rep]; exact tb_ext fun j _ => by simp
theorem cells0_all (n : Nat) : cells0 n n = slots n fun _ => [] := tb_ext fun j hj => by rw [if_pos hj]; rfl
abbrev cellsV (L : Nat → List PV) (n k : Nat) : List AV := tb n fun j => if j < k then .pv (.lst (L j)) else .row (100000 + j) 0 (L j).length
theorem Weak.unfan1 {fr : List (Nat × AV)} {A : Row} {L : Nat → List PV} {n k m : Nat} (hkm : k + (m + 1) = n) (hfr : ∀ row, frFrz (100000 + k) row fr = fr) (hA : ∀ row, A.frz (100000 + k) row = A) :
  Weak ⟨fr, (1, A) :: (18, .bxs (cellsV L n k)) :: famF L k (m + 1)⟩ ⟨fr, (1, A) :: (18, .bxs (cellsV L n (k + 1))) :: famF L (k + 1) m⟩ := fun e x a h => by
 have h1 := h.frz1 (100000 + k)
 have he : St.frz1 ⟨fr, (1, A) :: (18, .bxs (cellsV L n k)) :: famF L k (m + 1)⟩ (100000 + k) = ⟨fr, (1, A) :: (18, .bxs (cellsV L n (k + 1))) :: famF L (k + 1) m⟩ := by
  have hg : stGet ((1, A) :: (18, Row.bxs (cellsV L n k)) :: famF L k (m + 1)) (100000 + k) = some (.sl 1 (L k)) := by
   simp only [stGet, if_neg (show ¬ 1 = 100000 + k by omega), if_neg (show ¬ 18 = 100000 + k by omega)]
   rw [stGet_famF, if_pos (by omega)]
  have hd : stDel ((1, A) :: (18, Row.bxs (cellsV L n k)) :: famF L k (m + 1)) (100000 + k) = (1, A) :: (18, .bxs (cellsV L n k)) :: famF L (k + 1) m := by
   have hz := stDel_famF (L := L) (k := k + 1) (m := m) (a := 100000 + k) (.inl (by omega))
   simp only [stDel, if_neg (show ¬ 1 = 100000 + k by omega), if_neg (show ¬ 18 = 100000 + k by omega), famF, List.range'_succ, List.map_cons, if_true] at hz ⊢
   rw [hz]
  have : AV.frzs (100000 + k) (.sl 1 (L k)) (cellsV L n k) = cellsV L n (k + 1) := by
   rw [frzs_eq, tb_map]
   refine tb_ext fun j hj => ?_
   by_cases hjk : j < k
   ·simp only [if_pos hjk, if_pos (show j < k + 1 by omega), AV.frz]
   ·by_cases hje : j = k
    ·subst hje
     simp only [if_neg hjk, if_pos (show j < j + 1 by omega), AV.frz, if_true, frzRow, List.drop_zero, List.take_length]
    ·simp only [if_neg hjk, if_neg (show ¬ j < k + 1 by omega), AV.frz, if_neg (show ¬ 100000 + j = 100000 + k by omega)]
  have hbx : Row.frz (.bxs (cellsV L n k)) (100000 + k) (.sl 1 (L k)) = .bxs (cellsV L n (k + 1)) := by simp only [Row.frz, this]
  unfold St.frz1
  simp only [hg, hd, hfr, stFrz, hA, hbx, stFrz_famF]
 rw [he] at h1
 exact h1
theorem Weak.unfan {fr : List (Nat × AV)} {A : Row} {L : Nat → List PV} {n : Nat} (hfr : ∀ k row, frFrz (100000 + k) row fr = fr) (hA : ∀ k row, A.frz (100000 + k) row = A) :
  ∀ m k, k + m = n → Weak ⟨fr, (1, A) :: (18, .bxs (cellsV L n k)) :: famF L k m⟩ ⟨fr, [(1, A), (18, .bxs (cellsV L n n))]⟩
 | 0, k, h => fun e x a hs => by
  obtain rfl : k = n := by omega
  exact ⟨x, rfl, hs⟩
 | m + 1, k, h => (Weak.unfan1 h (hfr k) (hA k)).trans (Weak.unfan hfr hA m (k + 1) (by omega))
theorem slots_cells (n : Nat) (L : Nat → List PV) : slots n L = cellsV L n 0 := tb_ext fun j hj => by rw [if_neg (by omega)]
theorem cellsV_all (n : Nat) (L : Nat → List PV) : cellsV L n n = (tb n fun j => PV.lst (L j)).map .pv := by
 rw [tb_map]; exact tb_ext fun j hj => by rw [if_pos hj]
def GX (keep rows : List Nat) (σ τ : St) : Prop := ∃ υ, Weak σ υ ∧ υ.norm keep rows = τ
theorem run_loopX {P : Program} {R : Exit → St → Prop} {k : List KI} {σ : St} {b : MC} {T : Type} (keep rows : List Nat) (I : T → St) (G : T → Prop) (μ : T → Nat) (t₀ : T)
  (h0 : GX keep rows σ (I t₀)) (hG : G t₀)
  (h : ∀ t, G t → run P R b (.lp (fun σ' => ∃ t', GX keep rows σ' (I t') ∧ G t' ∧ μ t' < μ t) :: k) (I t)) : run P R (.loop b) k σ :=
 run_loopW I (fun σ' t => GX keep rows σ' (I t)) (fun σ' t ⟨τ, h1, h2⟩ => by rw [← h2]; exact h1.trans (Weak.norm _ _ _)) G μ t₀ h0 hG h
theorem Weak.refl' (σ : St) : Weak σ σ := fun e x a h => ⟨x, rfl, h⟩
theorem stKeep_grow {n k : Nat} {L : Nat → List PV} {xs : List PV} (hn : n ≤ 1000) (hk : k < n) : stKeep ((100000 + k, .sl 1 xs) :: stDel (fam n L) (100000 + k)) famN = fam n (fun j => if j = k then xs else L j) := by
 refine stKeep_of hn fun j _ => ?_
 simp only [stGet]
 by_cases h : j = k
 ·subst h; rw [if_pos rfl, if_pos hk, if_pos rfl]
 ·rw [if_neg (by omega), stGet_del (by omega)]
  unfold fam
  rw [stGet_famF]
  simp only [if_neg h]
  by_cases h2 : j < n
  ·rw [if_pos (by omega), if_pos h2]
  ·rw [if_neg (by omega), if_neg h2]
end Go.Vc

namespace Go.Vc
open Go.RowKit Go.Sort
set_option linter.unusedSimpArgs false
set_option linter.unusedVariables false
set_option linter.constructorNameAsVariable false
section
variable {P : Program} {α : Type} [Inhabited α] {pv : α → PV} {enc : α → Value}
omit [Inhabited α] in
theorem rels_one {w : World} {F : Nat → Prop} (he : ∀ x, pv x = .sc (enc x)) : ∀ {d : List α} {vs : List Value}, PRels w F (d.map pv) vs ↔ vs = d.map enc
 | [], vs => by simp [PRels]
 | x :: d, vs => by
  simp only [List.map_cons, PRels, he, PRel]
  constructor
  ·rintro ⟨v, r, rfl, rfl, h⟩
   rw [(rels_one he).1 h]
  ·rintro rfl
   exact ⟨_, _, rfl, rfl, (rels_one he).2 rfl⟩
omit [Inhabited α] in
theorem flat_1 (he : ∀ x, pv x = .sc (enc x)) : ∀ d : List α, flat (d.map pv) = d.map pv
 | [] => rfl
 | x :: d => by simp only [List.map_cons, flat, flat_1 he d, he, PV.cells]; rfl
theorem fnS_sort1 {f : FuncId} (hent : ∀ args w, (callFunc f args).run P w = .ok (.enter f args) w) (he : ∀ x, pv x = .sc (enc x)) (h1 : ∀ x, (enc x).oneCell' = true) (srt : List α → List α) (hsl : ∀ d, (srt d).length = d.length) (hs0 : srt [] = [])
  (hC : ∀ (blk off cap : Nat) (zs : List α) (w : World), Holds enc w blk off zs.toArray → blk < w.heap.size → zs.length < 4611686018427387904 →
   Calls P f #[.slice (some ⟨blk, off, none⟩) zs.length cap] w fun e w' => e = .returned (.tuple #[]) ∧ ∃ n os, w' = grow (putRow enc (Sort.ahead w n) blk off (srt zs).toArray) os)
  (hN : ∀ (p : Option Addr) (cap : Nat) (w : World), Calls P f #[.slice p 0 cap] w fun e w' => e = .returned (.tuple #[]) ∧ w' = w)
  (d : List α) (hd : d.length < 1000000) (nm : Nat) : FnS P f [.row nm 0 d.length] [(nm, .sl 1 (d.map pv))] (.tup []) [(nm, .sl 1 ((srt d).map pv))] := by
 have hwf : ∀ d : List α, WfL 1 (d.map pv) := fun d p hp => by
  obtain ⟨x, _, rfl⟩ := List.mem_map.1 hp
  rw [he]
  refine ⟨rfl, fun c hc => ?_⟩
  simp only [PV.cells, List.mem_singleton] at hc
  subst hc
  exact h1 x
 refine ⟨hent, fun x vs hlt htb hlent hv => ?_⟩
 simp only [VRels] at hv
 obtain ⟨u, r, rfl, hu, rfl⟩ := hv
 have hrow := hlent.st nm (.sl 1 (d.map pv)) (by simp)
 have own0 : ∀ {b : Nat} {row : Row}, Own [(nm, row)] x.ρ b ↔ (x.ρ nm).ok = true ∧ (x.ρ nm).blk = b := fun {b row} => by
  constructor
  ·rintro ⟨r, w, h1, h2, h3⟩
   simp only [List.mem_singleton, Prod.mk.injEq] at h1
   obtain ⟨rfl, _⟩ := h1
   exact ⟨h2, h3⟩
  ·exact fun h => ⟨nm, row, by simp, h.1, h.2⟩
 have fin : ∀ {w' : World} {row' : Row}, BelowL (Own [(nm, Row.sl 1 (d.map pv))] x.ρ) x.w w' → row'.rel ⟨w', x.F, x.ρ⟩ (x.ρ nm) → ResS x [(nm, .sl 1 (d.map pv))] ⟨w', x.F, x.ρ⟩ (.tup []) [(nm, row')] (.tuple #[]) := fun {w' row'} hb hr => {
  below := hb
  val := by simp only [VRel, VRels]; exact ⟨[], rfl, rfl⟩
  st := fun r row hm => by
   simp only [List.mem_singleton, Prod.mk.injEq] at hm
   obtain ⟨rfl, rfl⟩ := hm
   exact hr
  keys := by simp
  inj := fun r row r' row' hm hm' hne => by
   simp only [List.mem_singleton, Prod.mk.injEq] at hm hm'
   exact absurd (hm.1.trans hm'.1.symm) hne
  own := fun r row hm hok => by
   simp only [List.mem_singleton, Prod.mk.injEq] at hm
   obtain ⟨rfl, _⟩ := hm
   exact .inr (own0.2 ⟨hok, rfl⟩)
  F := fun b => by
   rw [own0, own0]
   by_cases h : (x.ρ nm).ok = true ∧ (x.ρ nm).blk = b
   ·refine ⟨fun _ => .inr h, fun _ => ?_⟩
    rw [← h.2]; exact hlent.F nm (.sl 1 (d.map pv)) (by simp) h.1
   ·exact ⟨fun hF => .inl ⟨hF, h⟩, fun hF => hF.elim (·.1) fun h' => absurd h' h⟩
  stay := fun _ _ => rfl }
 have none_ : ∀ (p : Option Addr) (cap : Nat), u = .slice p 0 cap → d = [] → Calls P f ⟨[u]⟩ x.w fun en w' => ∃ cv y, en = .returned cv ∧ y.w = w' ∧ ResS x [(nm, .sl 1 (d.map pv))] y (.tup []) [(nm, .sl 1 ((srt d).map pv))] cv := by
  intro p cap hu0 hd0
  subst hd0; subst hu0
  refine (hN p cap x.w).mono fun en w' ⟨e1, e2⟩ => ?_
  subst e1; subst e2
  exact ⟨_, ⟨x.w, x.F, x.ρ⟩, rfl, rfl, fin (BelowL.refl _ _) (by rw [hs0]; exact hrow)⟩
 simp only [VRel] at hu
 simp only [Row.rel] at hrow
 rcases hu with ⟨hn, _, ad, e1⟩ | ⟨c, hok, e1, hnc, hcap, hlen⟩
 ·have : d = [] := List.eq_nil_of_length_eq_zero hn
  exact none_ ad 0 (by rw [e1]) this
 rcases hrow with ⟨h0, _⟩ | ⟨hls, _, ⟨hln, hxc⟩, hwfd, ⟨⟨arr⟩, tb, hh, harr, hao⟩, hE⟩
 ·rw [h0] at hok; cases hok
 have hlenk : (d.map pv).length = d.length := List.length_map _
 rw [hls] at harr
 have hbase : (x.ρ nm).base + 0 * (x.ρ nm).s = (x.ρ nm).base := by omega
 rw [hbase] at e1
 have hblk : (x.ρ nm).blk < x.w.heap.size := (Array.getElem?_eq_some_iff.1 hh).1
 have hcells : CellsAt x.w (x.ρ nm).blk (x.ρ nm).base (d.map enc) := by
  rw [PElems.flat_iff, flat_1 he] at hE
  obtain ⟨cvs, k1, k2⟩ := hE.list
  rw [(rels_one he).1 k1] at k2
  exact k2
 have gets : ∀ (D : List α) (j : Nat), j < D.length → (D.map enc)[j]? = some (enc D.toArray[j]!) := fun D j hj => by
  rw [List.getElem?_map, List.getElem?_eq_getElem hj]
  simp [getElem!_pos, hj]
 have hH : Holds enc x.w (x.ρ nm).blk (x.ρ nm).base d.toArray := fun j hj => by
  have hj' : j < d.length := by simpa using hj
  exact ⟨hcells j _ (gets d j hj'), by simp [World.frozen?, hh]⟩
 rw [e1]
 have hS := hC (x.ρ nm).blk (x.ρ nm).base c d x.w hH hblk (by omega)
 refine hS.mono fun en w' ⟨e2, n, os, e3⟩ => ?_
 subst e2
 obtain ⟨D, hD⟩ : ∃ D : List α, D = srt d := ⟨_, rfl⟩
 have hDl : D.length = d.length := by rw [hD]; exact hsl d
 rw [← hD] at e3 ⊢
 have heap0 : (putRow enc (Sort.ahead x.w n) (x.ρ nm).blk (x.ρ nm).base D.toArray).heap = x.w.heap.modify (x.ρ nm).blk (onCells (putCells enc (x.ρ nm).base D.toArray)) := rfl
 have hsz0 : (putRow enc (Sort.ahead x.w n) (x.ρ nm).blk (x.ρ nm).base D.toArray).heap.size = x.w.heap.size := by rw [heap0]; simp
 have hheap : ∀ b, b < x.w.heap.size → w'.heap[b]? = (x.w.heap.modify (x.ρ nm).blk (onCells (putCells enc (x.ρ nm).base D.toArray)))[b]? := fun b hb => by
  rw [e3]
  unfold grow
  simp only
  rw [Array.getElem?_append_left (by rw [hsz0]; exact hb), heap0]
 have hat : w'.heap[(x.ρ nm).blk]? = some (.cells (putCells enc (x.ρ nm).base D.toArray ⟨arr⟩) tb (0, 0)) := by
  rw [hheap _ hblk, Array.getElem?_modify, if_pos rfl, hh]
  rfl
 have hcells' : CellsAt w' (x.ρ nm).blk (x.ρ nm).base (D.map enc) := fun j v hj => by
  have hj' : j < D.length := by simpa using (List.getElem?_eq_some_iff.1 hj).1
  have h2 : Holds enc w' (x.ρ nm).blk (x.ρ nm).base D.toArray := by
   rw [e3]
   exact holds_grow _ _ _ _ _ _ (by rw [hsz0]; exact hblk) (holds_putRow _ _ _ _ d.toArray _ (fun j hj => hH j hj) (by simpa using hDl))
  rw [(h2 j (by simpa using hj')).1]
  rw [gets D j hj'] at hj
  exact hj
 refine ⟨_, ⟨w', x.F, x.ρ⟩, rfl, rfl, fin ?_ ?_⟩
 ·refine ⟨by rw [e3]; rfl, by rw [e3]; rfl, by rw [e3]; rfl, ?_, fun b hb hL => ?_, ?_⟩
  ·rw [e3]; unfold grow; simp only [Array.size_append, hsz0]; omega
  ·rw [hheap b hb, Array.getElem?_modify, if_neg]
   intro hbe
   exact hL (own0.2 ⟨hok, hbe⟩)
  ·rw [e3]
   show x.w.drawn ≤ x.w.drawn + n
   omega
 ·simp only [Row.rel]
  refine .inr ⟨hls, hok, ⟨by rw [List.length_map, hDl]; rw [hlenk] at hln; exact hln, by rw [List.length_map, hDl]; rw [hlenk] at hxc; exact hxc⟩, hwf D, ⟨_, tb, hat, ?_, ?_⟩, ?_⟩
  ·rw [hls]
   simp only [putCells, Array.size_mapIdx]
   simpa using harr
  ·intro cc hcc
   simp only [putCells, Array.toList_mapIdx, List.mem_mapIdx] at hcc
   obtain ⟨i, hi, rfl⟩ := hcc
   split
   ·exact h1 _
   ·exact hao _ (List.getElem_mem hi)
  ·rw [PElems.flat_iff, flat_1 he]
   exact PCells.of ((rels_one he).2 rfl) hcells'
end
end Go.Vc

namespace Go.Vc
theorem args2 {a b : Bool × List Sh} {qs : List PV} (h : ArgsOk [a, b] qs) : ∃ p q, qs = [p, q] ∧ ArgOk a p ∧ ArgOk b q := by
 simp only [ArgsOk] at h
 obtain ⟨p, _, rfl, h1, q, _, rfl, h2, rfl⟩ := h
 exact ⟨p, q, rfl, h1, h2⟩
theorem map_of {α : Type} {f : α → PV} : ∀ {xs : List PV}, (∀ x ∈ xs, ∃ a, x = f a) → ∃ l : List α, xs = l.map f
 | [], _ => ⟨[], rfl⟩
 | x :: xs, h => by
  obtain ⟨a, rfl⟩ := h x (by simp)
  obtain ⟨l, rfl⟩ := map_of (xs := xs) (fun y hy => h y (by simp [hy]))
  exact ⟨a :: l, rfl⟩
end Go.Vc

namespace Go.Vc
open Go.RowKit Go.ChangeShapes Go.WideShapes Go.ChangeAt
def lit0 {H : Type} : DataW H → List Value
 | .lit (.int k n) => [.int k n]
 | _ => []
def lit1 {H : Type} : DataW H → List Value
 | .agg cs => cs.flatMap lit0
 | d => lit0 d
def litsOf {H : Type} : DataW H → List Value
 | .agg cs => cs.flatMap lit1
 | d => lit0 d
def layAt (w : World) (b : Nat) (vs : List Value) : World := { w with heap := w.heap.modify b fun
 | .cells _ t frozen => .cells vs.toArray t frozen
 | o => o }
section
variable {H : Type} {enc : TypeId × Value → H}
theorem law_laid {C : Checked} {os : Os} {f : FuncId} {fn : Func} {s : ChangeSpec} {conds : List PathCond} {shs : List (Bool × List Sh)} {tb : TypeId} {X : World → Prop}
  (hX : ∀ (w w' : World), w.heap = w'.heap → X w → X w') (hT : ∀ w, X w → Tabs C.prog w (fun _ => False))
  (own : ownKnob C.prog.godebug = none) (started : os.Started) (noInit : C.prog.inits.idxOf? f = none) (hfn : C.prog.funcs[f]? = some fn)
  (witness : ∃ (w : World) (tape : Tape) (i : Input), w.os = os ∧ (w.forCall tape i).Shaped C.prog ∧ i.vars = [] ∧ Input.okWide C.prog (w.forCall tape i) .any w.heap.size f i ∧
   ((s.pre enc C.prog fn conds false (w.forCall tape i).memory i.args ∧ X (w.forCall tape i).memory) ∧ sizedMet enc C.prog fn (OpenSpec.ofChange s) false (w.forCall tape i).memory i.args) ∧ ({} : Assume).holds C.prog (lone (Frame.enter C.prog f i.args .normal) [] (w.forCall tape i)))
  (hvars : s.vars = []) (hres : fn.resultTypes = #[tb]) (htb : C.prog.underlying tb = some .bool) (laid : laidOutB C.prog = true)
  (hread : fn.params.toList.all (fun t => C.prog.readableRec t && decide (t < C.prog.types.size)) = true) (htop : topsOf C.prog fn.params.toList = some shs)
  (hs : ∀ ds : List (DataW H), ds.length = fn.params.toList.length → s.fn H ds = { results := [.lit (.bool true)], args := ds })
  (law : ∀ qs, ArgsOk shs qs → Fn C.prog f qs (.pv (.sc (.bool true))) []) :
  ReturnsInHanded {} C os f .any (fun w args => (s.pre enc C.prog fn conds false w args ∧ X w) ∧ sizedMet enc C.prog fn (OpenSpec.ofChange s) false w args) (s.post enc C.prog fn false true false false) := by
 refine returnsInHanded_of_change_and (X := fun w _ => X w) (fun w w' _ hh h => hX w w' hh h) own started noInit hfn witness ?_
 intro W base args ds gs before hval hW hx1 hx2 hx3 hx4
 have hW' := hW
 obtain ⟨p, q, hA0, hV, rfl, _, _⟩ := hW
 have hA : DataW.TrodAll enc C.prog W 0 (fun _ => true) true fn.params.toList args.toList ds p := hA0
 rw [hvars] at hV
 obtain ⟨rfl, rfl⟩ := trodVars_none hV
 obtain ⟨hl, qs, hok, hrel⟩ := args_pv (r := .any) (b0 := base) htop hA (fun j t v h1 h2 => hval j t v (by simpa using h1) (by simpa using h2))
 have hf := (law qs hok).2 W (fun _ => False) args.toList (fun b h => h.elim) (hT W (by assumption)) hrel
 refine hf.mono fun e W' h => ?_
 obtain ⟨cv, y, rfl, rfl, hr⟩ := h
 have hcv := hr.val
 simp only [VRel, PRel] at hcv
 subst hcv
 have hread' : ∀ t ∈ fn.params.toList, C.prog.readableRec t = true ∧ t < C.prog.types.size := by
  intro t ht
  have := List.all_eq_true.1 hread t ht
  simpa using this
 have hst := trodAll_stays laid hr.below hread' hA
 refine ⟨_, rfl, ds, [], p ++ [], [], p, [], hW', ?_, ?_, ?_, hr.below.toGo.frame _, fun h => by cases h⟩
 ·rw [List.append_nil, hs ds hl, hres]
  exact trodAll_mk1 (shut_bool htb true)
 ·rw [List.append_nil, hs ds hl]
  exact hst
 ·rw [List.append_nil, hs ds hl, hvars]
  rfl
end
end Go.Vc

namespace Go.Vc
open Go.RowKit
set_option linter.unusedSimpArgs false
set_option linter.unusedVariables false
def swp (a b q : Nat) : Nat := if q = a then b else if q = b then a else q
theorem swp_inv (a b q : Nat) : swp a b (swp a b q) = q := by
 unfold swp
 by_cases h1 : q = a
 ·rw [if_pos h1]
  by_cases h2 : b = a
  ·rw [if_pos h2, h1, h2]
  ·rw [if_neg h2, if_pos rfl, h1]
 ·rw [if_neg h1]
  by_cases h2 : q = b
  ·rw [if_pos h2, if_pos rfl, h2]
  ·rw [if_neg h2, if_neg h1, if_neg h2]
theorem swp_inj {a b p q : Nat} (h : swp a b p = swp a b q) : p = q := by rw [← swp_inv a b p, h, swp_inv]
theorem swp_out {a b q : Nat} (h1 : q ≠ a) (h2 : q ≠ b) : swp a b q = q := by unfold swp; rw [if_neg h1, if_neg h2]
def St.renA (m : Nat → Nat) (σ : St) : St := ⟨σ.fr.map fun e => (e.1, e.2.rn m), σ.st.map fun e => (m e.1, e.2.rn m)⟩
theorem Weak.ren {a b : Nat} (ha : a < 200000) (hb : b < 200000) (σ : St) : Weak σ (σ.renA (swp a b)) := fun e x act h => by
 have hpp : (x.pull (swp a b)).pull (swp a b) = x := by
  obtain ⟨w, F, ρ⟩ := x
  simp only [Cx.pull, swp_inv]
 have hρ : ∀ r, (x.pull (swp a b)).ρ (swp a b r) = x.ρ r := fun r => by show x.ρ (swp a b (swp a b r)) = _; rw [swp_inv]
 have old : ∀ q row, (q, row) ∈ (σ.renA (swp a b)).st → ∃ r u, (r, u) ∈ σ.st ∧ q = swp a b r ∧ row = u.rn (swp a b) := fun q row hm => by
  obtain ⟨⟨r, u⟩, h1, h2⟩ := List.mem_map.1 hm
  injection h2 with h3 h4
  exact ⟨r, u, h1, h3.symm, h4.symm⟩
 have ownI : ∀ bl, Own (σ.renA (swp a b)).st (x.pull (swp a b)).ρ bl ↔ Own σ.st x.ρ bl := fun bl => by
  constructor
  ·rintro ⟨q, row, hm, h1, h2⟩
   obtain ⟨r, u, h3, rfl, rfl⟩ := old q row hm
   rw [hρ] at h1 h2
   exact ⟨r, u, h3, h1, h2⟩
  ·rintro ⟨r, u, hm, h1, h2⟩
   exact ⟨swp a b r, u.rn (swp a b), List.mem_map.2 ⟨_, hm, rfl⟩, by rw [hρ]; exact h1, by rw [hρ]; exact h2⟩
 refine ⟨x.pull (swp a b), rfl, ?_⟩
 exact {
  defers := h.defers
  size := h.size
  fr := fun k v hm => by
   obtain ⟨⟨k', u⟩, h1, h2⟩ := List.mem_map.1 hm
   injection h2 with h3 h4
   subst h3; subst h4
   obtain ⟨cv, h5, h6⟩ := h.fr _ _ h1
   exact ⟨cv, h5, (VRel_rn (x.pull (swp a b)) (swp a b) u).2 (by rw [hpp]; exact h6)⟩
  st := fun q row hm => by
   obtain ⟨r, u, h1, rfl, rfl⟩ := old q row hm
   rw [hρ]
   exact (Row_rn (x.pull (swp a b)) (swp a b) (x.ρ r) u).2 (by rw [hpp]; exact h.st r u h1)
  keys := by
   show ((σ.st.map fun e => (swp a b e.1, e.2.rn (swp a b))).map (·.1)).Nodup
   rw [List.map_map]
   have := h.keys
   rw [List.Nodup, List.pairwise_map] at this ⊢
   exact this.imp fun hab e => hab (swp_inj e)
  inj := fun q row q' row' hm hm' hne h1 h2 => by
   obtain ⟨r, u, h3, rfl, rfl⟩ := old q row hm
   obtain ⟨r', u', h4, rfl, rfl⟩ := old q' row' hm'
   rw [hρ] at h1 h2 ⊢
   rw [hρ]
   exact h.inj r u r' u' h3 h4 (fun e => hne (by rw [e])) h1 h2
  F := fun bl => by rw [ownI]; exact h.F bl
  own := fun q row hm h1 => by
   obtain ⟨r, u, h3, rfl, rfl⟩ := old q row hm
   rw [hρ] at h1 ⊢
   exact h.own r u h3 h1
  f0 := h.f0
  below := h.below
  fix := fun r hr => by
   show x.ρ (swp a b r) = _
   rw [swp_out (by omega) (by omega)]
   exact h.fix r hr
  small := h.small
  tabs := h.tabs }
end Go.Vc

namespace Go.Vc
open Go.RowKit
set_option linter.unusedSimpArgs false
set_option linter.unusedVariables false
def FnD (P : Program) (f : FuncId) (args : List AV) (st : List (Nat × Row)) (v : AV) (st' : List (Nat × Row)) : Prop :=
 Enters P f ∧ ∀ (x : Cx) (vs : List Value), (∀ b, x.F b → b < x.w.heap.size) → Tabs P x.w x.F → Lent x st → VRels x args vs →
  ∀ u, CallsD P f ⟨vs⟩ u x.w fun en u' w' => u' = u ∧ ∃ cv y, en = .returned cv ∧ y.w = w' ∧ ResS x st y v st' cv
theorem FnD_of {P : Program} {f : FuncId} {fn : Func} {c : Code} {m : MC} {owns : List Nat} {rd : List (Nat × RD)} {args : List AV} {st : List (Nat × Row)} {v : AV} {st' : List (Nat × Row)} {rvs : List RV}
  (hm : P.follows .mixedOrders = true) (hf : P.funcs[f]? = some fn) (hname : (fn.name == "runtime.NumGoroutine") = false) (hb : fn.body = some c) (hc : ofCode P owns fn.ntmps rd c = some m)
  (hr : rvsOf P fn.results.toList = some rvs) (hn : args.length ≤ fn.ntmps) (hsm : fn.ntmps ≤ 100000) (hk : (st'.map (·.1)).Nodup) (hv : m.vc P (retS rvs v st') ⟨entryA 0 args, st⟩) : FnD P f args st v st' := by
 refine ⟨enters_of hf hname hb, fun x vs hF htb hl hargs u => callsD_of_wp hf hb ?_⟩
 let e : Env := ⟨P, x.w, fun b => x.F b ∧ ¬ Own st x.ρ b, fn.ntmps, Own st x.ρ, x.ρ, []⟩
 have : EP e P := ⟨rfl⟩
 have hlen := VRels_length hargs
 have hown : ∀ b, Own st x.ρ b → x.F b := fun b ⟨r, row, h1, h2, h3⟩ => h3 ▸ hl.F r row h1 h2
 have hS : SRel e ⟨entryA 0 args, st⟩ x { tmps := (⟨vs⟩ : Array Value) ++ Array.replicate (fn.ntmps - (⟨vs⟩ : Array Value).size) undef, defers := [] } := {
  defers := rfl
  size := by simp [e, hlen]; omega
  fr := fun k u hm => by
   obtain ⟨cv, j, h1, h2, h3⟩ := entryA_rel hargs hm
   refine ⟨cv, ?_, h3⟩
   have hj : j < vs.length := (List.getElem?_eq_some_iff.1 h2).1
   have hkj : k = j := by omega
   subst hkj
   rw [Array.getElem?_append_left (by simpa using hj)]
   simpa using h2
  st := hl.st
  keys := hl.keys
  inj := hl.inj
  F := fun b => by
   show x.F b ↔ (x.F b ∧ ¬ Own st x.ρ b) ∨ Own st x.ρ b
   constructor
   ·intro hb
    by_cases ho : Own st x.ρ b
    ·exact .inr ho
    ·exact .inl ⟨hb, ho⟩
   ·rintro (hb | hb)
    ·exact hb.1
    ·exact hown b hb
  own := fun r row hm hok => .inr ⟨r, row, hm, hok, rfl⟩
  f0 := fun b hb => ⟨hF b hb.1, hb.2⟩
  tabs := htb.sub fun b h => h.elim (fun h => h.1) (fun h => hown b h)
  below := BelowL.refl _ _
  fix := fun _ _ => rfl
  small := hsm }
 refine wp_mono (MC.sound (e := e) hm c m hc _ _ _ _ hS hv) fun ex a w' hq => ?_
 have fin : ∀ {σ : St} {y : Cx}, SRel e σ y a → y.w = w' → RetS rvs v st' σ → a.defers = [] ∧ ∃ cv, (results fn a.tmps).run P w' = .ok cv w' ∧ ∃ cv' z, Ending.returned cv = Ending.returned cv' ∧ z.w = w' ∧ ResS x st z v st' cv' := fun {σ y} hs hw hk' => by
  unfold RetS at hk'
  split at hk'
  ·rename_i us k1
   split at hk'
   ·rename_i vs' k2
    obtain ⟨k3, k4⟩ := hk'
    obtain ⟨cvs, g1, g2⟩ := results_run hs hr k1
    obtain ⟨z, l1, l2⟩ := resS_of hs (x0 := x) (st := st) rfl rfl rfl rfl k2 hk k4 g1
    subst hw
    rw [k3] at l2
    exact ⟨hs.defers, _, g2, _, z, rfl, l1, l2⟩
   ·exact hk'.elim
  ·exact hk'.elim
 cases ex with
 | normal => obtain ⟨σ, y, h1, h2, h3⟩ := hq; exact fin h1 h2 h3
 | ret => obtain ⟨σ, y, h1, h2, h3⟩ := hq; exact fin h1 h2 h3
 | exit id => obtain ⟨σ, y, h1, h2, h3⟩ := hq; exact h3.elim
 | _ => exact hq.elim
section
variable {P : Program} {e : Env} {σ : St} {x : Cx} {a : Act}
theorem SRel.renQ [EP e P] (h : SRel e σ x a) (p q : Nat) : SRel { e.at σ x with ρ0 := (x.pull (swp p q)).ρ } (σ.renA (swp p q)) (x.pull (swp p q)) a := by
 have h' := h.at (P := P)
 have hpp : (x.pull (swp p q)).pull (swp p q) = x := by
  obtain ⟨w, F, ρ⟩ := x
  simp only [Cx.pull, swp_inv]
 have hρ : ∀ r, (x.pull (swp p q)).ρ (swp p q r) = x.ρ r := fun r => by show x.ρ (swp p q (swp p q r)) = _; rw [swp_inv]
 have old : ∀ k row, (k, row) ∈ (σ.renA (swp p q)).st → ∃ r u, (r, u) ∈ σ.st ∧ k = swp p q r ∧ row = u.rn (swp p q) := fun k row hm => by
  obtain ⟨⟨r, u⟩, h1, h2⟩ := List.mem_map.1 hm
  injection h2 with h3 h4
  exact ⟨r, u, h1, h3.symm, h4.symm⟩
 have ownI : ∀ bl, Own (σ.renA (swp p q)).st (x.pull (swp p q)).ρ bl ↔ Own σ.st x.ρ bl := fun bl => by
  constructor
  ·rintro ⟨k, row, hm, h1, h2⟩
   obtain ⟨r, u, h3, rfl, rfl⟩ := old k row hm
   rw [hρ] at h1 h2
   exact ⟨r, u, h3, h1, h2⟩
  ·rintro ⟨r, u, hm, h1, h2⟩
   exact ⟨swp p q r, u.rn (swp p q), List.mem_map.2 ⟨_, hm, rfl⟩, by rw [hρ]; exact h1, by rw [hρ]; exact h2⟩
 exact {
  defers := h'.defers
  size := h'.size
  fr := fun k v hm => by
   obtain ⟨⟨k', u⟩, h1, h2⟩ := List.mem_map.1 hm
   injection h2 with h3 h4
   subst h3; subst h4
   obtain ⟨cv, h5, h6⟩ := h'.fr _ _ h1
   exact ⟨cv, h5, (VRel_rn (x.pull (swp p q)) (swp p q) u).2 (by rw [hpp]; exact h6)⟩
  st := fun k row hm => by
   obtain ⟨r, u, h1, rfl, rfl⟩ := old k row hm
   rw [hρ]
   exact (Row_rn (x.pull (swp p q)) (swp p q) (x.ρ r) u).2 (by rw [hpp]; exact h'.st r u h1)
  keys := by
   show ((σ.st.map fun e => (swp p q e.1, e.2.rn (swp p q))).map (·.1)).Nodup
   rw [List.map_map]
   have := h'.keys
   rw [List.Nodup, List.pairwise_map] at this ⊢
   exact this.imp fun hab e => hab (swp_inj e)
  inj := fun k row k' row' hm hm' hne h1 h2 => by
   obtain ⟨r, u, h3, rfl, rfl⟩ := old k row hm
   obtain ⟨r', u', h4, rfl, rfl⟩ := old k' row' hm'
   rw [hρ] at h1 h2 ⊢
   rw [hρ]
   exact h'.inj r u r' u' h3 h4 (fun e => hne (by rw [e])) h1 h2
  F := fun bl => by
   rw [ownI]; exact h'.F bl
  own := fun k row hm h1 => by
   obtain ⟨r, u, h3, rfl, rfl⟩ := old k row hm
   rw [hρ] at h1 ⊢
   exact h'.own r u h3 h1
  f0 := h'.f0
  below := h'.below
  fix := fun _ _ => rfl
  small := h'.small
  tabs := h'.tabs }
theorem SRel.dfr (h : SRel e σ x a) (t : Nat) (cv : Value) (ds : List Deferred) : SRel { e with D := ds } ⟨frDel σ.fr t, σ.st⟩ x { a.put (some t) cv with defers := ds } :=
 {h with
  defers := rfl
  size := by simp only [Act.put, Array.size_setIfInBounds]; exact h.size
  fr := fun k v hm => by
   obtain ⟨h1, h2⟩ := frDel_mem hm
   obtain ⟨cu, h3, h4⟩ := h.fr k v h1
   exact ⟨cu, by simp only [Act.put]; rw [Array.getElem?_setIfInBounds_ne (fun e => h2 e.symm)]; exact h3, h4⟩ }
theorem SRel.unput {d : Nat} {cv : Value} (h : SRel e σ x (a.put (some d) cv)) : SRel e ⟨frDel σ.fr d, σ.st⟩ x a :=
 {h with
  defers := h.defers
  size := by have := h.size; simp only [Act.put, Array.size_setIfInBounds] at this; exact this
  fr := fun k v hm => by
   obtain ⟨h1, h2⟩ := frDel_mem hm
   obtain ⟨cu, h3, h4⟩ := h.fr k v h1
   simp only [Act.put] at h3
   rw [Array.getElem?_setIfInBounds_ne (fun e => h2 e.symm)] at h3
   exact ⟨cu, h3, h4⟩ }
end
abbrev idN : Nat → Nat := fun q => q
mutual
theorem AV.rn_id : ∀ v : AV, v.rn idN = v
 | .un => rfl
 | .pv p => rfl
 | .agg cs => by simp only [AV.rn, AV.rns_id cs]
 | .tup cs => by simp only [AV.rn, AV.rns_id cs]
 | .e0 => rfl
 | .lit cs => by simp only [AV.rn, AV.rns_id cs]
 | .row r off n => rfl
 | .ptr r off => rfl
 | .rptr r i off => rfl
 | .eptr xs i off => rfl
 | .cptr cs off => rfl
 | .fn f cs => by simp only [AV.rn, AV.rns_id cs]
 | .bnd f cs => by simp only [AV.rn, AV.rns_id cs]
 | .mp r => rfl
 | .it r => rfl
 | .whn c v => by simp only [AV.rn, AV.rn_id v]
theorem AV.rns_id : ∀ vs : List AV, AV.rns idN vs = vs
 | [] => rfl
 | v :: vs => by simp only [AV.rns, AV.rn_id v, AV.rns_id vs]
end
theorem Row.rn_id : ∀ r : Row, r.rn idN = r
 | .box cs => by simp only [Row.rn, AV.rns_id]
 | .sl s xs => rfl
 | .slf s xs => rfl
 | .bxs cs => by simp only [Row.rn, AV.rns_id]
 | .mp es => rfl
 | .sit s pos => rfl
 | .mit q n rem cur => rfl
 | .mpx ks vs => by simp only [Row.rn, AV.rns_id]
 | .gone => rfl
def dfrEnd (P : Program) (g : FuncId) (Q d : Nat) (rvs : List RV) (v : AV) (st' : List (Nat × Row)) (σ : St) : Prop :=
 ∃ row row' vd, stGet σ.st Q = some row ∧ FnD P g [.ptr Q 0] [(Q, row)] vd [(Q, row')] ∧ RetS rvs v st' ⟨frDel (σ.afterS d idN [(Q, row)] vd [(Q, row')]).fr d, (σ.afterS d idN [(Q, row)] vd [(Q, row')]).st⟩
def dfrK (P : Program) (g : FuncId) (Q d : Nat) (rvs : List RV) (v : AV) (st' : List (Nat × Row)) : Exit → St → Prop
 | .normal, σ => dfrEnd P g Q d rvs v st' σ
 | .ret, σ => dfrEnd P g Q d rvs v st' σ
 | _, _ => False
def dfrRest (P : Program) (m1 : MC) (g : FuncId) (tb tc Q d : Nat) (rvs : List RV) (v : AV) (st' : List (Nat × Row)) : Exit → St → Prop
 | .normal, σ => ∃ rb, frGet σ.fr tb = .ptr rb 0 ∧ rb < 200000 ∧ m1.vc P (dfrK P g Q d rvs v st') ⟨frDel (σ.renA (swp rb Q)).fr tc, (σ.renA (swp rb Q)).st⟩
 | _, _ => False
def c0Of : Code → Code
 | .seq a _ => a
 | c => c
def mfOf : Code → Oper
 | .seq _ (.seq (.region _ ops _) _) => ops.getD 0 default
 | _ => default
def dfOf : Code → Oper
 | .seq _ (.seq (.region _ ops _) _) => ops.getD 1 default
 | _ => default
def idOf : Code → Nat
 | .seq _ (.seq (.region n _ _) _) => n
 | _ => 0
def c1Of : Code → Code
 | .seq _ (.seq _ c) => c
 | c => c
theorem FnS_of_defer {P : Program} {f g : FuncId} {fn : Func} {c0 c1 : Code} {m0 m1 : MC} {id : Nat} {mf df : Oper} {owns : List Nat} {rd rd1 : List (Nat × RD)} {args : List AV} {st : List (Nat × Row)} {v : AV} {st' : List (Nat × Row)} {rvs : List RV} {tb tc Q d : Nat}
  (hm : P.follows .mixedOrders = true) (hf : P.funcs[f]? = some fn) (hname : (fn.name == "runtime.NumGoroutine") = false) (hb : fn.body = some (.seq c0 (.seq (.region id #[mf, df] false) c1)))
  (hc0 : ofCode P owns fn.ntmps rd c0 = some m0) (hc1 : ofCode P owns fn.ntmps rd1 c1 = some m1)
  (hmf : mf.op = .makeFunc (.func g) #[] #[.tmp tb]) (hmd : mf.dst = some tc) (hmg : mf.guard = none) (hdf : df.op = .defer { callee := .value (.tmp tc), args := #[], argTypes := #[] }) (hdd : df.dst = none) (hdg : df.guard = none)
  (htc : tc < fn.ntmps) (hd : d < fn.ntmps) (hQ : 200000 ≤ Q)
  (hr : rvsOf P fn.results.toList = some rvs) (hn : args.length ≤ fn.ntmps) (hsm : fn.ntmps ≤ 100000) (hk : (st'.map (·.1)).Nodup)
  (hst : ∀ r row, (r, row) ∈ st → 200000 ≤ r ∧ r ≠ Q) (hst' : ∀ r row, (r, row) ∈ st' → 200000 ≤ r ∧ r ≠ Q)
  (hpv : ∀ w F ρ ρ' cv, VRel ⟨w, F, ρ⟩ v cv → VRel ⟨w, F, ρ'⟩ v cv) (hps : ∀ r row, (r, row) ∈ st' → ∀ w F ρ ρ' l, row.rel ⟨w, F, ρ⟩ l → row.rel ⟨w, F, ρ'⟩ l)
  (hv : m0.vc P (dfrRest P m1 g tb tc Q d rvs v st') ⟨entryA 0 args, st⟩) : FnS P f args st v st' := by
 refine ⟨enters_of hf hname hb, fun x vs hF htb hl hargs => calls_of_wp_defers hf hb ?_⟩
 let e : Env := ⟨P, x.w, fun b => x.F b ∧ ¬ Own st x.ρ b, fn.ntmps, Own st x.ρ, x.ρ, []⟩
 have : EP e P := ⟨rfl⟩
 have hlen := VRels_length hargs
 have hown : ∀ b, Own st x.ρ b → x.F b := fun b ⟨r, row, h1, h2, h3⟩ => h3 ▸ hl.F r row h1 h2
 have hS : SRel e ⟨entryA 0 args, st⟩ x { tmps := (⟨vs⟩ : Array Value) ++ Array.replicate (fn.ntmps - (⟨vs⟩ : Array Value).size) undef, defers := [] } := {
  defers := rfl
  size := by simp [e, hlen]; omega
  fr := fun k u hm => by
   obtain ⟨cv, j, h1, h2, h3⟩ := entryA_rel hargs hm
   refine ⟨cv, ?_, h3⟩
   have hj : j < vs.length := (List.getElem?_eq_some_iff.1 h2).1
   have hkj : k = j := by omega
   subst hkj
   rw [Array.getElem?_append_left (by simpa using hj)]
   simpa using h2
  st := hl.st
  keys := hl.keys
  inj := hl.inj
  F := fun b => by
   show x.F b ↔ (x.F b ∧ ¬ Own st x.ρ b) ∨ Own st x.ρ b
   constructor
   ·intro hb
    by_cases ho : Own st x.ρ b
    ·exact .inr ho
    ·exact .inl ⟨hb, ho⟩
   ·rintro (hb | hb)
    ·exact hb.1
    ·exact hown b hb
  own := fun r row hm hok => .inr ⟨r, row, hm, hok, rfl⟩
  f0 := fun b hb => ⟨hF b hb.1, hb.2⟩
  tabs := htb.sub fun b h => h.elim (fun h => h.1) (fun h => hown b h)
  below := BelowL.refl _ _
  fix := fun _ _ => rfl
  small := hsm }
 refine wp_seq ?_
 refine wp_mono (MC.sound (e := e) hm c0 m0 hc0 _ _ _ _ hS hv) fun ex a1 w1 hq => ?_
 cases ex with
 | ret => obtain ⟨_, _, _, _, h3⟩ := hq; exact h3.elim
 | exit id => obtain ⟨_, _, _, _, h3⟩ := hq; exact h3.elim
 | normal =>
  obtain ⟨σ1, x1, hS1, rfl, rb, hrb, hrl, hv1⟩ := hq
  show (Code.seq (.region id #[mf, df] false) c1).wp P _ a1 x1.w
  have hptr := hS1.get tb
  rw [hrb] at hptr
  obtain ⟨pv, hpvv⟩ : ∃ pv, pv = a1.eval (.tmp tb) := ⟨_, rfl⟩
  have hptr : VRel x1 (.ptr rb 0) pv := by rw [hpvv]; exact hptr
  obtain ⟨cl, hcl⟩ : ∃ cl, cl = Value.func (.func g) #[] #[pv] := ⟨_, rfl⟩
  obtain ⟨dd, hdd'⟩ : ∃ dd : Deferred, dd = { target := .fn (.func g) #[pv], args := #[] } := ⟨_, rfl⟩
  have hd1 : a1.defers = [] := hS1.defers
  have e1 : (execOp a1.eval mf).run P x1.w = .ok (.value cl) x1.w := by
   simp [execOp, hmf, Instr.makeFunc, hcl, hpvv]
  have hev : (a1.put (some tc) cl).eval (.tmp tc) = cl := by
   have hsz : tc < a1.tmps.size := by rw [hS1.size]; exact htc
   simp [Act.eval, Act.put, hsz]
  have e2 : (execOp (a1.put (some tc) cl).eval df).run P x1.w = .ok (.defer dd) x1.w := by
   simp only [execOp, hdf, resolve]
   rw [hev]
   simp [hcl, Deferred.ofValue, hdd']
  refine wp_seq (wp_region_list ?_)
  show wpList P #[mf, df] _ [mf, df] a1 x1.w
  unfold wpList
  rw [if_pos (by simp [Region.wanted, hmg])]
  left
  unfold Oper.wp
  rw [e1, Oper.upon_value, hmd]
  unfold wpList
  rw [if_pos (by simp [Region.wanted, hdg])]
  left
  unfold Oper.wp
  rw [e2, Oper.upon_defer, hdd]
  unfold wpList
  show c1.wp P _ _ x1.w
  have ha3 : ({ a1.put (some tc) cl with defers := dd :: (a1.put (some tc) cl).defers } : Act).put none undef = { a1.put (some tc) cl with defers := [dd] } := by
   simp [Act.put, hd1]
  rw [ha3]
  have hR := hS1.renQ (P := P) rb Q
  have hD := hR.dfr tc cl [dd]
  let e2 : Env := { { e.at σ1 x1 with ρ0 := (x1.pull (swp rb Q)).ρ } with D := [dd] }
  have : EP e2 P := ⟨rfl⟩
  have hswQ : swp rb Q Q = rb := by
   unfold swp
   by_cases h : Q = rb
   ·rw [if_pos h]; exact h
   ·rw [if_neg h, if_pos rfl]
  have hρ0 : ∀ r, 200000 ≤ r → r ≠ Q → e2.ρ0 r = x.ρ r := fun r h1 h2 => by
   show x1.ρ (swp rb Q r) = x.ρ r
   rw [swp_out (by omega) h2]
   exact hS1.fix r h1
  have hOwn : ∀ b, Own st e2.ρ0 b ↔ Own st x.ρ b := fun b => by
   constructor
   ·rintro ⟨r, row, h1, h2, h3⟩
    obtain ⟨h4, h5⟩ := hst r row h1
    rw [hρ0 r h4 h5] at h2 h3
    exact ⟨r, row, h1, h2, h3⟩
   ·rintro ⟨r, row, h1, h2, h3⟩
    obtain ⟨h4, h5⟩ := hst r row h1
    exact ⟨r, row, h1, by rw [hρ0 r h4 h5]; exact h2, by rw [hρ0 r h4 h5]; exact h3⟩
  refine wp_mono (MC.sound (e := e2) hm c1 m1 hc1 _ _ (x1.pull (swp rb Q)) _ hD hv1) fun ex a4 w4 hq => ?_
  have fin : ∀ {σ2 : St} {y : Cx}, SRel e2 σ2 y a4 → y.w = w4 → dfrEnd P g Q d rvs v st' σ2 → Leaves P fn a4.tmps (fun en w' => ∃ cv y, en = .returned cv ∧ y.w = w' ∧ ResS x st y v st' cv) a4.defers .returning w4 := fun {σ2 y} hS2 hw hend => by
   subst hw
   obtain ⟨row, row', vd, hrow, hF, hret⟩ := hend
   have hd4 : a4.defers = [dd] := hS2.defers
   rw [hd4, hdd']
   have hi : (invoke (.fn (.func g) #[pv]) #[]).run P y.w = .ok (.enter g #[pv]) y.w := by
    have := hF.1 #[pv] y.w
    simpa [invoke] using this
   refine leaves_cons (by simp) hi ?_
   have hρ : y.ρ Q = x1.ρ rb := by
    rw [hS2.fix Q hQ]
    show x1.ρ (swp rb Q Q) = _
    rw [hswQ]
   have hptr' : VRel y (.ptr Q 0) pv := by
    simp only [VRel] at hptr ⊢
    rw [hρ]; exact hptr
   have hmem := stGet_mem hrow
   have hlent : Lent y [(Q, row)] := {
    st := fun r u hm => by
     simp only [List.mem_singleton, Prod.mk.injEq] at hm
     obtain ⟨rfl, rfl⟩ := hm
     exact hS2.st _ _ hmem
    keys := by simp
    inj := fun r u r' u' hm hm' hne => by
     simp only [List.mem_singleton, Prod.mk.injEq] at hm hm'
     exact absurd (hm.1.trans hm'.1.symm) hne
    F := fun r u hm hok => by
     simp only [List.mem_singleton, Prod.mk.injEq] at hm
     obtain ⟨rfl, rfl⟩ := hm
     exact (hS2.F _).2 (.inr ⟨_, _, hmem, hok, rfl⟩) }
   refine ((hF.2 y [pv] (fun b hb => F_lt hS2 hb) hS2.now hlent (by simp only [VRels]; exact ⟨pv, [], rfl, hptr', rfl⟩)) .returning).mono fun en u' w' ⟨hu, cv, z, g1, g2, hr'⟩ => ?_
   subst g1
   subst hu
   show Leaves P fn a4.tmps _ [] .returning w'
   obtain ⟨z', k1, k2⟩ := hS2.lent (d := d) hd (m := idN) (st := [(Q, row)]) (st' := [(Q, row')]) (fun r u hm => by
    simp only [List.mem_singleton, Prod.mk.injEq] at hm
    obtain ⟨rfl, rfl⟩ := hm
    rw [Row.rn_id]; exact hmem) hr' (by simp) (fun r u hm hlt => by
    simp only [List.mem_singleton, Prod.mk.injEq] at hm
    exact hlt)
   have k3 := k1.unput
   generalize (⟨frDel (σ2.afterS d idN [(Q, row)] vd [(Q, row')]).fr d, (σ2.afterS d idN [(Q, row)] vd [(Q, row')]).st⟩ : St) = σ3 at hret k3
   unfold RetS at hret
   split at hret
   ·rename_i us q1
    split at hret
    ·rename_i vs' q2
     obtain ⟨q3, q4⟩ := hret
     obtain ⟨cvs, q5, q6⟩ := results_run k3 hr q1
     let e3 : Env := { e with ρ0 := e2.ρ0, D := [dd] }
     have k4 : SRel e3 σ3 z' a4 := { k3 with
      own := fun r u h1 h2 => by
       rcases k3.own r u h1 h2 with h3 | h3
       ·exact .inl (Nat.le_trans hS1.below.size h3)
       ·exact Own.old hS1 h3
      f0 := hS1.f0
      below := ⟨k3.below.os.trans hS1.below.os, k3.below.tape.trans hS1.below.tape, k3.below.output.trans hS1.below.output, Nat.le_trans hS1.below.size k3.below.size,
       fun b hb hlb => (k3.below.block b (Nat.lt_of_lt_of_le hb hS1.below.size) fun ho => by
        rcases Own.old hS1 ho with h1 | h1
        ·exact absurd hb (Nat.not_lt.2 h1)
        ·exact hlb h1).trans (hS1.below.block b hb hlb), Nat.le_trans hS1.below.drawn k3.below.drawn⟩
      fix := k3.fix
      tabs := hS1.tabs }
     obtain ⟨zz, l1, l2⟩ := resS_of k4 (x0 := ⟨x.w, x.F, e2.ρ0⟩) (st := st) rfl (funext fun b => by
      show (x.F b ∧ ¬ Own st x.ρ b) = (x.F b ∧ ¬ Own st e2.ρ0 b)
      rw [propext (hOwn b)]) (funext fun b => propext (hOwn b).symm) rfl q2 hk q4 q5
     rw [q3] at l2
     have hz : ∀ r, r ≠ Q → (fun r => if r = Q then x.ρ Q else zz.ρ r) r = zz.ρ r := fun r h => if_neg h
     subst g2
     refine ⟨_, by rw [← k2]; exact q6, _, ⟨zz.w, zz.F, fun r => if r = Q then x.ρ Q else zz.ρ r⟩, rfl, l1.trans k2, {
      below := by
       have := l2.below
       rw [show (Own st (⟨x.w, x.F, e2.ρ0⟩ : Cx).ρ) = Own st x.ρ from funext fun b => propext (hOwn b)] at this
       exact this
      val := hpv _ _ _ _ _ l2.val
      st := fun r u h1 => by
       obtain ⟨_, h3⟩ := hst' r u h1
       show u.rel _ (if r = Q then x.ρ Q else zz.ρ r)
       rw [if_neg h3]
       exact hps r u h1 _ _ _ _ _ (l2.st r u h1)
      keys := l2.keys
      inj := fun r u r' u' h1 h2 hne h3 h4 => by
       obtain ⟨_, n1⟩ := hst' r u h1
       obtain ⟨_, n2⟩ := hst' r' u' h2
       simp only [if_neg n1, if_neg n2] at h3 h4 ⊢
       exact l2.inj r u r' u' h1 h2 hne h3 h4
      own := fun r u h1 h2 => by
       obtain ⟨_, n1⟩ := hst' r u h1
       simp only [if_neg n1] at h2 ⊢
       exact (l2.own r u h1 h2).imp (fun h => h) (hOwn _).1
      F := fun b => by
       have h1 := l2.F b
       have h2 : Own st' (fun r => if r = Q then x.ρ Q else zz.ρ r) b ↔ Own st' zz.ρ b := by
        constructor
        ·rintro ⟨r, u, h1, h2, h3⟩
         obtain ⟨_, n1⟩ := hst' r u h1
         simp only [if_neg n1] at h2 h3
         exact ⟨r, u, h1, h2, h3⟩
        ·rintro ⟨r, u, h1, h2, h3⟩
         obtain ⟨_, n1⟩ := hst' r u h1
         exact ⟨r, u, h1, by simp only [if_neg n1]; exact h2, by simp only [if_neg n1]; exact h3⟩
       show zz.F b ↔ (x.F b ∧ ¬ Own st x.ρ b) ∨ Own st' (fun r => if r = Q then x.ρ Q else zz.ρ r) b
       rw [h1, h2]
       show ((x.F b ∧ ¬ Own st e2.ρ0 b) ∨ _) ↔ _
       rw [propext (hOwn b)]
      stay := fun r hr' => by
       show (if r = Q then x.ρ Q else zz.ρ r) = x.ρ r
       by_cases hq : r = Q
       ·rw [if_pos hq, hq]
       ·rw [if_neg hq, l2.stay r hr']
        exact hρ0 r hr' hq }⟩
    ·exact hret.elim
   ·exact hret.elim
  cases ex with
  | normal => obtain ⟨σ2, y, h1, h2, h3⟩ := hq; exact fin h1 h2 h3
  | ret => obtain ⟨σ2, y, h1, h2, h3⟩ := hq; exact fin h1 h2 h3
  | exit id => obtain ⟨σ2, y, h1, h2, h3⟩ := hq; exact h3.elim
  | _ => exact hq.elim
 | _ => exact hq.elim
theorem vc_run {P : Program} {m : MC} {K : Exit → St → Prop} {σ : St} : m.vc P K σ = run P K m [] σ := by
 unfold run
 congr 1
 funext ex τ
 exact kont_nil.symm
theorem FnD_run {P : Program} {f : FuncId} {fn : Func} {c : Code} {m : MC} {owns : List Nat} {rd : List (Nat × RD)} {args : List AV} {st : List (Nat × Row)} {v : AV} {st' : List (Nat × Row)} {rvs : List RV}
  (hm : P.follows .mixedOrders = true) (hf : P.funcs[f]? = some fn) (hname : (fn.name == "runtime.NumGoroutine") = false) (hb : fn.body = some c) (hc : ofCode P owns fn.ntmps rd c = some m)
  (hr : rvsOf P fn.results.toList = some rvs) (hn : args.length ≤ fn.ntmps) (hsm : fn.ntmps ≤ 100000) (hk : (st'.map (·.1)).Nodup) (hv : run P (retS rvs v st') m [] ⟨entryA 0 args, st⟩) : FnD P f args st v st' :=
 FnD_of hm hf hname hb hc hr hn hsm hk (by rw [vc_run]; exact hv)
end Go.Vc
