/- A part of the proofs of the seat YtblffnoimmmpeaaGreatDoor: the layer that turns the code of a function into what is to be shown (verification conditions), proved sound. -/
import Derived.WalkKit
import Derived.Lib.LaidTab
import Derived.Lib.ItoaNum
import Derived.Lib.TrailingZeros
import Derived.ChangeKeysEq
import Derived.Laws.IdiomRangeMap
import Derived.Maps.RangeRun
namespace Go.Vc
open Go.RowKit
inductive PV where
 | sc (v:Value)
 | agg (cs:List PV)
 | lst (xs:List PV)
 | tup (vs:List PV)
 | fn (f:FuncId) (caps:List PV)
 | pt (cs:List PV)
 deriving Inhabited
def PV.cells:PV→List PV
 | .agg cs=>cs
 | p=>[p]
mutual
def aG (w:World) (F:Nat→Prop):PV→Value→Prop
 | .sc v,cv=>cv=v
 | .agg cs,cv=>∃vs:List Value,cv=.agg ⟨vs⟩∧aE w F cs vs
 | .lst xs,cv=>∃a n c,cv=.slice a n c∧n=xs.length∧n≤c∧(0<n→∃b o,a=some ⟨b,o,none⟩∧b<w.heap.size∧¬F b∧aJ w F xs b o)
 | .tup ps,cv=>∃vs:List Value,cv=.tuple ⟨vs⟩∧aE w F ps vs
 | .fn f caps,cv=>∃vs:List Value,cv=.func (.func f) #[] ⟨vs⟩∧aE w F caps vs
 | .pt cs,cv=>∃b o,cv=.pointer (some ⟨b,o,none⟩)∧b<w.heap.size∧¬F b∧aN w F cs b o
def aE (w:World) (F:Nat→Prop):List PV→List Value→Prop
 | [],vs=>vs=[]
 | p::ps,vs=>∃v r,vs=v::r∧aG w F p v∧aE w F ps r
def aJ (w:World) (F:Nat→Prop):List PV→Nat→Nat→Prop
 | [],_,_=>True
 | .agg cs::xs,b,o=>aN w F cs b o∧aJ w F xs b (o+cs.length)
 | x::xs,b,o=>(∃v,w.cell? ⟨b,o,none⟩=some v∧aG w F x v)∧aJ w F xs b (o+1)
def aN (w:World) (F:Nat→Prop):List PV→Nat→Nat→Prop
 | [],_,_=>True
 | x::xs,b,o=>(∃v,w.cell? ⟨b,o,none⟩=some v∧aG w F x v)∧aN w F xs b (o+1)
end
inductive AV where
 | un
 | pv (p:PV)
 | agg (cs:List AV)
 | tup (vs:List AV)
 | e0
 | lit (xs:List AV)
 | row (r off n:Nat)
 | ptr (r off:Nat)
 | rptr (r i off:Nat)
 | eptr (xs:List PV) (i off:Nat)
 | cptr (cs:List PV) (off:Nat)
 | ful (xs:List PV)
 | fn (f:FuncId) (caps:List AV)
 | bnd (f:FuncId) (caps:List AV)
 | mp (r:Nat)
 | it (r:Nat)
 | whn (c:Bool) (v:AV)
 deriving Inhabited
structure Loc where
 blk:Nat
 base:Nat
 cap:Nat
 s:Nat
 ok:Bool
 len:Nat
 deriving Inhabited
structure Cx where
 w:World
 F:Nat→Prop
 ρ:Nat→Loc
mutual
def aB (x:Cx):AV→Value→Prop
 | .un,_=>True
 | .pv p,cv=>aG x.w x.F p cv
 | .agg cs,cv=>∃vs:List Value,cv=.agg ⟨vs⟩∧aD x cs vs
 | .tup ps,cv=>∃vs:List Value,cv=.tuple ⟨vs⟩∧aD x ps vs
 | .e0,cv=>∃a,cv=.slice a 0 0
 | .lit xs,cv=>∃a n c,cv=.slice a n c∧n=xs.length∧n≤c∧(0<n→∃b o,a=some ⟨b,o,none⟩∧b<x.w.heap.size∧¬x.F b∧aS x xs b o)
 | .row r off n,cv=>(n=0∧((x.ρ r).ok=true→(x.ρ r).cap≤off)∧∃a,cv=.slice a 0 0)∨(∃c,(x.ρ r).ok=true∧cv=.slice (some ⟨(x.ρ r).blk,(x.ρ r).base+off*(x.ρ r).s,none⟩) n c∧n≤c∧off+c=(x.ρ r).cap∧off+n≤(x.ρ r).len)
 | .ptr r off,cv=>cv=.pointer (some ⟨(x.ρ r).blk,(x.ρ r).base+off,none⟩)
 | .rptr r i off,cv=>cv=.pointer (some ⟨(x.ρ r).blk,(x.ρ r).base+i*(x.ρ r).s+off,none⟩)
 | .eptr xs i off,cv=>∃b o,cv=.pointer (some ⟨b,o+((xs.take i).map (·.cells.length)).sum+off,none⟩)∧b<x.w.heap.size∧¬x.F b∧aJ x.w x.F xs b o∧i<xs.length
 | .ful xs,cv=>∃a n,cv=.slice a n n∧n=xs.length∧(0<n→∃b o,a=some ⟨b,o,none⟩∧b<x.w.heap.size∧¬x.F b∧aJ x.w x.F xs b o)
 | .cptr cs off,cv=>∃b o,cv=.pointer (some ⟨b,o+off,none⟩)∧b<x.w.heap.size∧¬x.F b∧aN x.w x.F cs b o
 | .fn f caps,cv=>∃vs:List Value,cv=.func (.func f) #[] ⟨vs⟩∧aD x caps vs
 | .bnd f caps,cv=>∃vs:List Value,cv=.func (.func f) ⟨vs⟩ #[]∧aD x caps vs
 | .mp r,cv=>cv=.map (some (x.ρ r).blk)
 | .it r,cv=>cv=.pointer (some ⟨(x.ρ r).blk,0,none⟩)
 | .whn c v,cv=>(c=true→aB x v cv)∧(c=false→cv=undef)
def aD (x:Cx):List AV→List Value→Prop
 | [],vs=>vs=[]
 | p::ps,vs=>∃v r,vs=v::r∧aB x p v∧aD x ps r
def aS (x:Cx):List AV→Nat→Nat→Prop
 | [],_,_=>True
 | .agg cs::xs,b,o=>aO x cs b o∧aS x xs b (o+cs.length)
 | .pv (.agg cs)::xs,b,o=>aN x.w x.F cs b o∧aS x xs b (o+cs.length)
 | y::xs,b,o=>(∃v,x.w.cell? ⟨b,o,none⟩=some v∧aB x y v)∧aS x xs b (o+1)
def aO (x:Cx):List AV→Nat→Nat→Prop
 | [],_,_=>True
 | y::xs,b,o=>(∃v,x.w.cell? ⟨b,o,none⟩=some v∧aB x y v)∧aO x xs b (o+1)
end
structure Kept (x y:Cx):Prop where
 size:x.w.heap.size≤y.w.heap.size
 heap:∀b,¬x.F b→b<x.w.heap.size→y.w.heap[b]?=x.w.heap[b]?
 F:∀b,b<x.w.heap.size→y.F b→x.F b
theorem oA {w:World} {b o:Nat} {v:Value} (h:w.cell? ⟨b,o,none⟩=some v):b<w.heap.size:=by
 unfold World.cell? at h
 rcases Nat.lt_or_ge b w.heap.size with h1|h1
 ·exact h1
 ·simp[Array.getElem?_eq_none h1]at h
theorem gS {w w':World} {b o:Nat} {v:Value} (h:w.cell? ⟨b,o,none⟩=some v) (hb:w'.heap[b]?=w.heap[b]?):w'.cell? ⟨b,o,none⟩=some v:=by
 rw[←h];unfold World.cell?;simp only[hb]
theorem Kept.cell {x y:Cx} (k:Kept x y) {b o:Nat} {v:Value} (hF:¬x.F b) (h:x.w.cell? ⟨b,o,none⟩=some v):y.w.cell? ⟨b,o,none⟩=some v:=
 gS h (k.heap b hF (oA h))
mutual
theorem aG.kept {x y:Cx} (k:Kept x y):∀(p:PV) {v:Value},aG x.w x.F p v→aG y.w y.F p v
 | .sc _,_,h=>by simpa only[aG]using h
 | .agg cs,_,h=>by
  simp only[aG]at h ⊢
  obtain⟨vs,e,h⟩:=h
  exact⟨vs,e,aE.kept k cs h⟩
 | .tup cs,_,h=>by
  simp only[aG]at h ⊢
  obtain⟨vs,e,h⟩:=h
  exact⟨vs,e,aE.kept k cs h⟩
 | .fn _ cs,_,h=>by
  simp only[aG]at h ⊢
  obtain⟨vs,e,h⟩:=h
  exact⟨vs,e,aE.kept k cs h⟩
 | .pt cs,_,h=>by
  simp only[aG]at h ⊢
  obtain⟨b,o,e,hlt,hF,he⟩:=h
  exact⟨b,o,e,Nat.lt_of_lt_of_le hlt k.size,fun hy=>hF (k.F b hlt hy),aN.kept k cs (fun h=>k.cell hF h) he⟩
 | .lst zs,_,h=>by
  simp only[aG]at h ⊢
  obtain⟨a,n,c,e,h1,h2,h3⟩:=h
  refine⟨a,n,c,e,h1,h2,fun hn=>?_⟩
  obtain⟨b,o,ha,hlt,hF,he⟩:=h3 hn
  exact⟨b,o,ha,Nat.lt_of_lt_of_le hlt k.size,fun hy=>hF (k.F b hlt hy),aJ.kept k zs (fun h=>k.cell hF h) he⟩
theorem aE.kept {x y:Cx} (k:Kept x y):∀(ps:List PV) {vs:List Value},aE x.w x.F ps vs→aE y.w y.F ps vs
 | [],_,h=>by simpa only[aE]using h
 | p::ps,_,h=>by
  simp only[aE]at h ⊢
  obtain⟨v,r,e,h1,h2⟩:=h
  exact⟨v,r,e,aG.kept k p h1,aE.kept k ps h2⟩
theorem aJ.kept {x y:Cx} (k:Kept x y):∀(zs:List PV) {b o:Nat},(∀{o:Nat} {v:Value},x.w.cell? ⟨b,o,none⟩=some v→y.w.cell? ⟨b,o,none⟩=some v)→aJ x.w x.F zs b o→aJ y.w y.F zs b o
 | [],_,_,_,_=>by simp only[aJ]
 | .agg cs::xs,b,o,hc,h=>by
  simp only[aJ]at h ⊢
  exact⟨aN.kept k cs hc h.1,aJ.kept k xs hc h.2⟩
 | .sc v::xs,b,o,hc,h=>by
  simp only[aJ]at h ⊢
  obtain⟨⟨u,h1,h2⟩,h3⟩:=h
  exact⟨⟨u,hc h1,aG.kept k (.sc v) h2⟩,aJ.kept k xs hc h3⟩
 | .lst v::xs,b,o,hc,h=>by
  simp only[aJ]at h ⊢
  obtain⟨⟨u,h1,h2⟩,h3⟩:=h
  exact⟨⟨u,hc h1,aG.kept k (.lst v) h2⟩,aJ.kept k xs hc h3⟩
 | .tup v::xs,b,o,hc,h=>by
  simp only[aJ]at h ⊢
  obtain⟨⟨u,h1,h2⟩,h3⟩:=h
  exact⟨⟨u,hc h1,aG.kept k (.tup v) h2⟩,aJ.kept k xs hc h3⟩
 | .fn g v::xs,b,o,hc,h=>by
  simp only[aJ]at h ⊢
  obtain⟨⟨u,h1,h2⟩,h3⟩:=h
  exact⟨⟨u,hc h1,aG.kept k (.fn g v) h2⟩,aJ.kept k xs hc h3⟩
 | .pt v::xs,b,o,hc,h=>by
  simp only[aJ]at h ⊢
  obtain⟨⟨u,h1,h2⟩,h3⟩:=h
  exact⟨⟨u,hc h1,aG.kept k (.pt v) h2⟩,aJ.kept k xs hc h3⟩
theorem aN.kept {x y:Cx} (k:Kept x y):∀(zs:List PV) {b o:Nat},(∀{o:Nat} {v:Value},x.w.cell? ⟨b,o,none⟩=some v→y.w.cell? ⟨b,o,none⟩=some v)→aN x.w x.F zs b o→aN y.w y.F zs b o
 | [],_,_,_,_=>by simp only[aN]
 | z::xs,b,o,hc,h=>by
  simp only[aN]at h ⊢
  obtain⟨⟨u,h1,h2⟩,h3⟩:=h
  exact⟨⟨u,hc h1,aG.kept k z h2⟩,aN.kept k xs hc h3⟩
end
end Go.Vc

namespace Go.Vc
open Go.RowKit
mutual
def AV.clip (D:Nat→Bool):AV→AV
 | .un=>.un
 | .pv p=>.pv p
 | .agg cs=>.agg (AV.clips D cs)
 | .tup cs=>.tup (AV.clips D cs)
 | .e0=>.e0
 | .lit xs=>.lit (AV.clips D xs)
 | .row r off n=>if D r then .un else .row r off n
 | .ptr r off=>if D r then .un else .ptr r off
 | .rptr r i off=>if D r then .un else .rptr r i off
 | .eptr xs i off=>.eptr xs i off
 | .cptr cs off=>.cptr cs off
 | .ful xs=>.ful xs
 | .fn f caps=>.fn f (AV.clips D caps)
 | .bnd f caps=>.bnd f (AV.clips D caps)
 | .mp r=>if D r then .un else .mp r
 | .it r=>if D r then .un else .it r
 | .whn c v=>.whn c (AV.clip D v)
def AV.clips (D:Nat→Bool):List AV→List AV
 | []=>[]
 | v::vs=>AV.clip D v::AV.clips D vs
end
theorem bV (D:Nat→Bool):∀l:List AV,(AV.clips D l).length=l.length
 | []=>rfl
 | _::l=>by simp only[AV.clips,List.length_cons,bV D l]
theorem gO {x:Cx} {y:AV} {ys:List AV} {b o:Nat} (h1:∀cs,y≠.agg cs) (h2:∀cs,y≠.pv (.agg cs)):
  aS x (y::ys) b o↔(∃v,x.w.cell? ⟨b,o,none⟩=some v∧aB x y v)∧aS x ys b (o+1):=by
 cases y with
 | agg cs=>exact absurd rfl (h1 cs)
 | pv p=>
  cases p with
  | agg cs=>exact absurd rfl (h2 cs)
  | _=>simp only[aS]
 | _=>simp only[aS]
theorem D6 {D:Nat→Bool} {y:AV} (h1:∀cs,y≠.agg cs):∀cs,y.clip D≠.agg cs:=by
 intro cs
 cases y<;>simp only[AV.clip]<;>first|(split<;>simp)|simp
 rename_i l;exact(h1 l rfl).elim
theorem Fb {D:Nat→Bool} {y:AV} (h1:∀cs,y≠.pv (.agg cs)):∀cs,y.clip D≠.pv (.agg cs):=by
 intro cs
 cases y<;>simp only[AV.clip]<;>first|(split<;>simp)|simp
 rename_i l;exact fun e=>h1 cs (by rw[e])
mutual
theorem aB.clip {x y:Cx} (k:Kept x y) {D:Nat→Bool} (hρ:∀r,D r=false→y.ρ r=x.ρ r):∀(a:AV) {v:Value},aB x a v→aB y (a.clip D) v
 | .un,_,_=>by simp only[AV.clip,aB]
 | .pv p,_,h=>by
  simp only[AV.clip,aB]at h ⊢
  exact aG.kept k p h
 | .agg cs,_,h=>by
  simp only[AV.clip,aB]at h ⊢
  obtain⟨vs,e,h⟩:=h
  exact⟨vs,e,aD.clip k hρ cs h⟩
 | .tup cs,_,h=>by
  simp only[AV.clip,aB]at h ⊢
  obtain⟨vs,e,h⟩:=h
  exact⟨vs,e,aD.clip k hρ cs h⟩
 | .e0,_,h=>by simpa only[AV.clip,aB]using h
 | .lit zs,_,h=>by
  simp only[AV.clip,aB]at h ⊢
  obtain⟨a,n,c,e,h1,h2,h3⟩:=h
  refine⟨a,n,c,e,by rw[bV];exact h1,h2,fun hn=>?_⟩
  obtain⟨b,o,ha,hlt,hF,he⟩:=h3 hn
  exact⟨b,o,ha,Nat.lt_of_lt_of_le hlt k.size,fun hy=>hF (k.F b hlt hy),aS.clip k hρ zs (fun h=>k.cell hF h) he⟩
 | .row r off n,_,h=>by
  simp only[AV.clip]
  cases hD:D r
  ·simp only[aB,Bool.false_eq_true,if_false,hρ r hD]at h ⊢
   exact h
  ·simp only[if_true,aB]
 | .ptr r off,_,h=>by
  simp only[AV.clip]
  cases hD:D r
  ·simp only[aB,Bool.false_eq_true,if_false,hρ r hD]at h ⊢
   exact h
  ·simp only[if_true,aB]
 | .rptr r i off,_,h=>by
  simp only[AV.clip]
  cases hD:D r
  ·simp only[aB,Bool.false_eq_true,if_false,hρ r hD]at h ⊢
   exact h
  ·simp only[if_true,aB]
 | .eptr zs i off,_,h=>by
  simp only[AV.clip,aB]at h ⊢
  obtain⟨b,o,e,hlt,hF,he,hi⟩:=h
  exact⟨b,o,e,Nat.lt_of_lt_of_le hlt k.size,fun hy=>hF (k.F b hlt hy),aJ.kept k zs (fun h=>k.cell hF h) he,hi⟩
 | .ful zs,_,h=>by
  simp only[AV.clip,aB]at h ⊢
  obtain⟨a,n,e,h1,h3⟩:=h
  refine⟨a,n,e,h1,fun hn=>?_⟩
  obtain⟨b,o,ha,hlt,hF,he⟩:=h3 hn
  exact⟨b,o,ha,Nat.lt_of_lt_of_le hlt k.size,fun hy=>hF (k.F b hlt hy),aJ.kept k zs (fun h=>k.cell hF h) he⟩
 | .cptr zs off,_,h=>by
  simp only[AV.clip,aB]at h ⊢
  obtain⟨b,o,e,hlt,hF,he⟩:=h
  exact⟨b,o,e,Nat.lt_of_lt_of_le hlt k.size,fun hy=>hF (k.F b hlt hy),aN.kept k zs (fun h=>k.cell hF h) he⟩
 | .fn _ cs,_,h=>by
  simp only[AV.clip,aB]at h ⊢
  obtain⟨vs,e,h⟩:=h
  exact⟨vs,e,aD.clip k hρ cs h⟩
 | .bnd _ cs,_,h=>by
  simp only[AV.clip,aB]at h ⊢
  obtain⟨vs,e,h⟩:=h
  exact⟨vs,e,aD.clip k hρ cs h⟩
 | .mp r,_,h=>by
  simp only[AV.clip]
  cases hD:D r
  ·simp only[aB,Bool.false_eq_true,if_false,hρ r hD]at h ⊢
   exact h
  ·simp only[if_true,aB]
 | .it r,_,h=>by
  simp only[AV.clip]
  cases hD:D r
  ·simp only[aB,Bool.false_eq_true,if_false,hρ r hD]at h ⊢
   exact h
  ·simp only[if_true,aB]
 | .whn c a,_,h=>by
  simp only[AV.clip,aB]at h ⊢
  exact⟨fun hc=>aB.clip k hρ a (h.1 hc),h.2⟩
theorem aD.clip {x y:Cx} (k:Kept x y) {D:Nat→Bool} (hρ:∀r,D r=false→y.ρ r=x.ρ r):∀(as:List AV) {vs:List Value},aD x as vs→aD y (AV.clips D as) vs
 | [],_,h=>by simpa only[AV.clips,aD]using h
 | p::ps,_,h=>by
  simp only[AV.clips,aD]at h ⊢
  obtain⟨v,r,e,h1,h2⟩:=h
  exact⟨v,r,e,aB.clip k hρ p h1,aD.clip k hρ ps h2⟩
theorem aS.clip {x y:Cx} (k:Kept x y) {D:Nat→Bool} (hρ:∀r,D r=false→y.ρ r=x.ρ r):∀(zs:List AV) {b o:Nat},(∀{o:Nat} {v:Value},x.w.cell? ⟨b,o,none⟩=some v→y.w.cell? ⟨b,o,none⟩=some v)→aS x zs b o→aS y (AV.clips D zs) b o
 | [],_,_,_,_=>by simp only[AV.clips,aS]
 | .agg cs::xs,b,o,hc,h=>by
  simp only[AV.clips,AV.clip,aS,bV]at h ⊢
  exact⟨aO.clip k hρ cs hc h.1,aS.clip k hρ xs hc h.2⟩
 | .pv (.agg cs)::xs,b,o,hc,h=>by
  simp only[AV.clips,AV.clip,aS]at h ⊢
  exact⟨aN.kept k cs hc h.1,aS.clip k hρ xs hc h.2⟩
 | z::xs,b,o,hc,h=>by
  by_cases h1:∃cs,z=.agg cs
  ·obtain⟨cs,rfl⟩:=h1
   simp only[AV.clips,AV.clip,aS,bV]at h ⊢
   exact⟨aO.clip k hρ cs hc h.1,aS.clip k hρ xs hc h.2⟩
  by_cases h2:∃cs,z=.pv (.agg cs)
  ·obtain⟨cs,rfl⟩:=h2
   simp only[AV.clips,AV.clip,aS]at h ⊢
   exact⟨aN.kept k cs hc h.1,aS.clip k hρ xs hc h.2⟩
  have h1':∀cs,z≠.agg cs:=fun cs e=>h1 ⟨cs,e⟩
  have h2':∀cs,z≠.pv (.agg cs):=fun cs e=>h2 ⟨cs,e⟩
  rw[gO h1' h2']at h
  simp only[AV.clips]
  rw[gO (D6 h1') (Fb h2')]
  obtain⟨⟨u,h3,h4⟩,h5⟩:=h
  exact⟨⟨u,hc h3,aB.clip k hρ z h4⟩,aS.clip k hρ xs hc h5⟩
theorem aO.clip {x y:Cx} (k:Kept x y) {D:Nat→Bool} (hρ:∀r,D r=false→y.ρ r=x.ρ r):∀(zs:List AV) {b o:Nat},(∀{o:Nat} {v:Value},x.w.cell? ⟨b,o,none⟩=some v→y.w.cell? ⟨b,o,none⟩=some v)→aO x zs b o→aO y (AV.clips D zs) b o
 | [],_,_,_,_=>by simp only[AV.clips,aO]
 | z::xs,b,o,hc,h=>by
  simp only[AV.clips,aO]at h ⊢
  obtain⟨⟨u,h1,h2⟩,h3⟩:=h
  exact⟨⟨u,hc h1,aB.clip k hρ z h2⟩,aO.clip k hρ xs hc h3⟩
end
mutual
theorem nJ:∀v:AV,v.clip (fun _=>false)=v
 | .un|.pv _|.e0|.row _ _ _|.ptr _ _|.rptr _ _ _|.eptr _ _ _|.cptr _ _|.ful _|.mp _|.it _=>by simp[AV.clip]
 | .agg cs=>by simp only[AV.clip,dJ cs]
 | .tup cs=>by simp only[AV.clip,dJ cs]
 | .lit cs=>by simp only[AV.clip,dJ cs]
 | .fn _ cs=>by simp only[AV.clip,dJ cs]
 | .bnd _ cs=>by simp only[AV.clip,dJ cs]
 | .whn _ v=>by simp only[AV.clip,nJ v]
theorem dJ:∀l:List AV,AV.clips (fun _=>false) l=l
 | []=>rfl
 | v::l=>by simp only[AV.clips,nJ v,dJ l]
end
theorem aB.kept {x y:Cx} (k:Kept x y) (hρ:y.ρ=x.ρ) {a:AV} {v:Value} (h:aB x a v):aB y a v:=by
 have:=aB.clip k (D:=fun _=>false) (fun r _=>by rw[hρ]) a h
 rwa [nJ]at this
theorem aD.kept {x y:Cx} (k:Kept x y) (hρ:y.ρ=x.ρ) {a:List AV} {v:List Value} (h:aD x a v):aD y a v:=by
 have:=aD.clip k (D:=fun _=>false) (fun r _=>by rw[hρ]) a h
 rwa [dJ]at this
end Go.Vc

namespace Go.Vc
open Go.RowKit
inductive Row where
 | box (cells:List AV)
 | sl (s:Nat) (xs:List PV)
 | slf (s:Nat) (xs:List PV)
 | bxs (cells:List AV)
 | mp (es:List (PV×PV))
 | sit (s:ByteArray) (pos:Nat)
 | mit (m n:Nat) (rem:List Nat) (cur:Option Nat)
 | mpd (es:List (Nat×PV×PV)) (clock:Nat)
 | mpx (ks:List PV) (vs:List AV)
 | mid (m n:Nat) (bs rem:List Nat) (cur:Option Nat)
 | gone
 deriving Inhabited
def PV.one:PV→Bool
 | .sc v=>v.oneCell'
 | .agg _|.tup _=>false
 | _=>true
def cY (s:Nat) (xs:List PV):Prop:=∀p∈xs,p.cells.length=s∧∀c∈p.cells,c.one=true
def AV.width:AV→Nat
 | .agg cs=>cs.length
 | .pv p=>p.cells.length
 | _=>1
def L0 (w:World) (b n:Nat):Prop:=∃cs t,w.heap[b]?=some (.cells cs t (0,0))∧n≤cs.size
def BN (w:World) (b n:Nat):Prop:=∃cs t,w.heap[b]?=some (.cells cs t (0,0))∧n≤cs.size∧∀c∈cs.toList,c.oneCell'=true
theorem BN.arr {w:World} {b n:Nat} (h:BN w b n):L0 w b n:=let⟨cs,t,h1,h2,_⟩:=h;⟨cs,t,h1,h2⟩
def iP (x:Cx) (p:PV×PV) (e:MapEntry):Prop:=aG x.w x.F p.1 e.key∧aG x.w x.F p.2 e.val
def Row.rel (x:Cx) (l:Loc):Row→Prop
 | .box cells=>l.ok=true∧L0 x.w l.blk (l.base+cells.length)∧aO x cells l.blk l.base
 | .sl s xs=>(l.ok=false∧xs=[])∨(l.s=s∧l.ok=true∧(l.len=xs.length∧xs.length≤l.cap)∧cY s xs∧BN x.w l.blk (l.base+l.cap*l.s)∧aJ x.w x.F xs l.blk l.base)
 | .slf s xs=>(l.ok=false∧xs=[])∨(l.s=s∧l.ok=true∧(l.len=xs.length∧xs.length=l.cap)∧cY s xs∧BN x.w l.blk (l.base+l.cap*l.s)∧aJ x.w x.F xs l.blk l.base)
 | .bxs cells=>l.ok=true∧(l.s=1∧l.len=cells.length∧cells.length≤l.cap)∧L0 x.w l.blk (l.base+l.cap)∧aO x cells l.blk l.base
 | .mp es=>l.ok=true∧∃(ents:List MapEntry) (clock:Nat),x.w.heap[l.blk]?=some (.map ⟨ents⟩ clock)∧ents.length=es.length∧(∀(i:Nat) p e,es[i]?=some p→ents[i]?=some e→iP x p e)∧
   clock=ents.length∧(∀(i:Nat) e,ents[i]?=some e→e.born=i)
 | .sit s pos=>l.ok=true∧x.w.heap[l.blk]?=some (.stringIter s pos)
 | .mit m n rem cur=>l.ok=true∧∃seen:Array Nat,x.w.heap[l.blk]?=some (.mapIter (some (x.ρ m).blk) n seen n)∧rem.Nodup∧(∀i,i∈rem↔i<n∧seen.contains i=false)∧cur=seen.back?∧(∀c,cur=some c→c<n)
 | .mpd es clock=>l.ok=true∧∃ents:List MapEntry,x.w.heap[l.blk]?=some (.map ⟨ents⟩ clock)∧ents.length=es.length∧(∀(i:Nat) p e,es[i]?=some p→ents[i]?=some e→iP x p.2 e∧e.born=p.1)∧
   (es.map (·.1)).Nodup∧(∀p∈es,p.1<clock)
 | .mpx ks vs=>l.ok=true∧∃(ents:List MapEntry) (clock:Nat),x.w.heap[l.blk]?=some (.map ⟨ents⟩ clock)∧ents.length=ks.length∧vs.length=ks.length∧(∀(i:Nat) k v e,ks[i]?=some k→vs[i]?=some v→ents[i]?=some e→aG x.w x.F k e.key∧aB x v e.val)∧
   clock=ents.length∧(∀(i:Nat) e,ents[i]?=some e→e.born=i)
 | .mid m n bs rem cur=>l.ok=true∧∃seen:Array Nat,x.w.heap[l.blk]?=some (.mapIter (some (x.ρ m).blk) n seen n)∧rem.Nodup∧(∀i,i∈rem↔∃b,bs[i]?=some b∧seen.contains b=false)∧
   (∀c,cur=some c→∃b,bs[c]?=some b∧seen.back?=some b)
 | .gone=>l.ok=true∧l.blk<x.w.heap.size
def Row.clip (D:Nat→Bool):Row→Row
 | .box cells=>.box (AV.clips D cells)
 | .sl s xs=>.sl s xs
 | .slf s xs=>.slf s xs
 | .bxs cells=>.bxs (AV.clips D cells)
 | .mp es=>.mp es
 | .sit s pos=>.sit s pos
 | .mit m n rem cur=>if D m then .gone else .mit m n rem cur
 | .mpd es clock=>.mpd es clock
 | .mpx ks vs=>.mpx ks (AV.clips D vs)
 | .mid m n bs rem cur=>if D m then .gone else .mid m n bs rem cur
 | .gone=>.gone
structure St where
 fr:List (Nat×AV)
 st:List (Nat×Row)
def bC:List (Nat×AV)→Nat→AV
 | [],_=>.un
 | (k',v)::r,k=>if k'=k then v else bC r k
def kF:List (Nat×AV)→Nat→List (Nat×AV)
 | [],_=>[]
 | (k',v)::r,k=>if k'=k then kF r k else(k',v)::kF r k
def gB (l:List (Nat×AV)) (k:Nat) (v:AV):List (Nat×AV):=(k,v)::kF l k
def iH (D:Nat→Bool):List (Nat×AV)→List (Nat×AV)
 | []=>[]
 | (k,v)::r=>(k,v.clip D)::iH D r
def aL:List (Nat×Row)→Nat→Option Row
 | [],_=>none
 | (k',v)::r,k=>if k'=k then some v else aL r k
def aQ:List (Nat×Row)→Nat→List (Nat×Row)
 | [],_=>[]
 | (k',v)::r,k=>if k'=k then aQ r k else(k',v)::aQ r k
def eG (D:Nat→Bool):List (Nat×Row)→List (Nat×Row)
 | []=>[]
 | (k,v)::r=>(k,v.clip D)::eG D r
theorem vH:∀{l:List (Nat×AV)} {k:Nat},bC l k=.un∨(k,bC l k)∈l
 | [],k=>.inl rfl
 | (k',v)::r,k=>by
  simp only[bC]
  by_cases h:k'=k
  ·subst h;simp
  ·rw[if_neg h]
   rcases vH (l:=r) (k:=k)with h1|h1
   ·exact .inl h1
   ·exact .inr (List.mem_cons_of_mem _ h1)
theorem fS:∀{l:List (Nat×AV)} {k:Nat} {e:Nat×AV},e∈kF l k→e∈l∧e.1≠k
 | [],_,_,h=>by simp[kF]at h
 | (k',v)::r,k,e,h=>by
  simp only[kF]at h
  by_cases hk:k'=k
  ·rw[if_pos hk]at h;exact⟨List.mem_cons_of_mem _ (fS h).1,(fS h).2⟩
  ·rw[if_neg hk]at h
   rcases List.mem_cons.1 h with rfl|h
   ·exact⟨by simp,hk⟩
   ·exact⟨List.mem_cons_of_mem _ (fS h).1,(fS h).2⟩
theorem lM {D:Nat→Bool}:∀{l:List (Nat×AV)} {k:Nat} {v:AV},(k,v)∈iH D l→∃u,(k,u)∈l∧v=u.clip D
 | [],_,_,h=>by simp[iH]at h
 | (k',u)::r,k,v,h=>by
  simp only[iH]at h
  rcases List.mem_cons.1 h with h|h
  ·injection h with h1 h2;subst h1;subst h2;exact⟨u,by simp,rfl⟩
  ·obtain⟨u',h1,h2⟩:=lM h;exact⟨u',List.mem_cons_of_mem _ h1,h2⟩
theorem aH:∀{l:List (Nat×Row)} {k:Nat} {v:Row},aL l k=some v→(k,v)∈l
 | [],_,_,h=>by simp[aL]at h
 | (k',u)::r,k,v,h=>by
  simp only[aL]at h
  by_cases hk:k'=k
  ·rw[if_pos hk]at h;subst hk;injection h with h;subst h;simp
  ·rw[if_neg hk]at h;exact List.mem_cons_of_mem _ (aH h)
theorem bE:∀{l:List (Nat×Row)} {k:Nat} {e:Nat×Row},e∈aQ l k→e∈l∧e.1≠k
 | [],_,_,h=>by simp[aQ]at h
 | (k',v)::r,k,e,h=>by
  simp only[aQ]at h
  by_cases hk:k'=k
  ·rw[if_pos hk]at h;exact⟨List.mem_cons_of_mem _ (bE h).1,(bE h).2⟩
  ·rw[if_neg hk]at h
   rcases List.mem_cons.1 h with rfl|h
   ·exact⟨by simp,hk⟩
   ·exact⟨List.mem_cons_of_mem _ (bE h).1,(bE h).2⟩
theorem gL {D:Nat→Bool}:∀{l:List (Nat×Row)} {k:Nat} {v:Row},(k,v)∈eG D l→∃u,(k,u)∈l∧v=u.clip D
 | [],_,_,h=>by simp[eG]at h
 | (k',u)::r,k,v,h=>by
  simp only[eG]at h
  rcases List.mem_cons.1 h with h|h
  ·injection h with h1 h2;subst h1;subst h2;exact⟨u,by simp,rfl⟩
  ·obtain⟨u',h1,h2⟩:=gL h;exact⟨u',List.mem_cons_of_mem _ h1,h2⟩
theorem qA {D:Nat→Bool}:∀(l:List (Nat×Row)),(eG D l).map (·.1)=l.map (·.1)
 | []=>rfl
 | (k,v)::r=>by simp only[eG,List.map_cons,qA r]
theorem fC:∀{l:List (Nat×Row)} {k:Nat},(l.map (·.1)).Nodup→((aQ l k).map (·.1)).Nodup
 | [],_,_=>by simp[aQ]
 | (k',v)::r,k,h=>by
  simp only[List.map_cons,List.nodup_cons]at h
  simp only[aQ]
  by_cases hk:k'=k
  ·rw[if_pos hk];exact fC h.2
  ·rw[if_neg hk]
   simp only[List.map_cons,List.nodup_cons]
   refine⟨fun hm=>h.1 ?_,fC h.2⟩
   obtain⟨e,h1,h2⟩:=List.mem_map.1 hm
   exact List.mem_map.2 ⟨e,(bE h1).1,h2⟩
structure Env where
 P:Program
 w0:World
 F0:Nat→Prop
 n:Nat
 L:Nat→Prop
 ρ0:Nat→Loc
 D:List Deferred
structure Below (B:Nat) (w w':World):Prop where
 os:w'.os=w.os
 tape:w'.tape=w.tape
 output:w'.output=w.output
 size:w.heap.size≤w'.heap.size
 block:∀k,k<B→w'.heap[k]?=w.heap[k]?
 drawn:True
theorem Below.toGo {B:Nat} {w w':World} (h:Below B w w'):Go.RowKit.Below B w w':=⟨h.os,h.tape,h.output,h.size,h.block⟩
theorem Below.refl (B:Nat) (w:World):Below B w w:=⟨rfl,rfl,rfl,Nat.le_refl _,fun _ _=>rfl,trivial⟩
theorem Below.drew {B:Nat} {a w:World} (h:Below B a w):Below B a w.drew:=⟨h.os,h.tape,h.output,h.size,h.block,trivial⟩
theorem Below.alloc {B:Nat} {a w:World} (h:Below B a w) (hB:B≤w.heap.size) (o:Obj):Below B a (w.alloc o):=
 ⟨h.os,h.tape,h.output,(h.toGo.alloc hB o).size,(h.toGo.alloc hB o).block,h.drawn⟩
structure BelowL (L:Nat→Prop) (w w':World):Prop where
 os:w'.os=w.os
 tape:w'.tape=w.tape
 output:w'.output=w.output
 size:w.heap.size≤w'.heap.size
 block:∀k,k<w.heap.size→¬L k→w'.heap[k]?=w.heap[k]?
 drawn:True
theorem BelowL.refl (L:Nat→Prop) (w:World):BelowL L w w:=⟨rfl,rfl,rfl,Nat.le_refl _,fun _ _ _=>rfl,trivial⟩
theorem BelowL.trans {L:Nat→Prop} {a b c:World} (h:BelowL L a b) (k:Below b.heap.size b c):BelowL L a c:=
 ⟨k.os.trans h.os,k.tape.trans h.tape,k.output.trans h.output,Nat.le_trans h.size k.size,fun i hi hl=>(k.block i (Nat.lt_of_lt_of_le hi h.size)).trans (h.block i hi hl),trivial⟩
def d6 (st:List (Nat×Row)) (ρ:Nat→Loc) (b:Nat):Prop:=∃r row,(r,row)∈st∧(ρ r).ok=true∧(ρ r).blk=b
def Ce:List (String×IntKind×List Int):=[("math/bits.deBruijn64tab",.u8,Lib.deBruijn64tab.map fun n:Nat=>(n:Int)),("internal/strconv.uint64pow10",.u64,Lib.pow10Tab)]
def o8 (P:Program) (w:World) (F:Nat→Prop):Prop:=∀t∈Ce,∀g,P.globalNamed t.1=some g→¬F g∧g<w.heap.size∧Lib.TabIs P w t.1 t.2.1 t.2.2
theorem o8.on {P:Program} {w w':World} {F F':Nat→Prop} (h:o8 P w F) (hw:∀b,b<w.heap.size→¬F b→w'.heap[b]?=w.heap[b]?) (hs:w.heap.size≤w'.heap.size) (hF:∀b,b<w.heap.size→F' b→F b):o8 P w' F':=fun t ht g hg=>by
 obtain⟨h1,h2,h3⟩:=h t ht g hg
 refine⟨fun h4=>h1 (hF g h2 h4),Nat.lt_of_lt_of_le h2 hs,?_⟩
 unfold Lib.TabIs World.var? at*
 rw[hg]at h3 ⊢
 simp only[Option.bind_some]at h3 ⊢
 rw[hw g h2 h1];exact h3
theorem o8.sub {P:Program} {w:World} {F F':Nat→Prop} (h:o8 P w F) (hF:∀b,F' b→F b):o8 P w F':=h.on (fun _ _ _=>rfl) (Nat.le_refl _) (fun b _=>hF b)
class EP (e:Env) (P:outParam Program):Prop where
 eq:e.P=P
structure SRel (e:Env) (σ:St) (x:Cx) (a:Act):Prop where
 defers:a.defers=e.D
 size:a.tmps.size=e.n
 fr:∀k v,(k,v)∈σ.fr→∃cv,a.tmps[k]?=some cv∧aB x v cv
 st:∀r row,(r,row)∈σ.st→row.rel x (x.ρ r)
 keys:(σ.st.map (·.1)).Nodup
 inj:∀r row r' row',(r,row)∈σ.st→(r',row')∈σ.st→r≠r'→(x.ρ r).ok=true→(x.ρ r').ok=true→(x.ρ r).blk≠(x.ρ r').blk
 F:∀b,x.F b↔e.F0 b∨d6 σ.st x.ρ b
 own:∀r row,(r,row)∈σ.st→(x.ρ r).ok=true→e.w0.heap.size≤(x.ρ r).blk∨e.L (x.ρ r).blk
 f0:∀b,e.F0 b→b<e.w0.heap.size∧¬e.L b
 below:BelowL e.L e.w0 x.w
 fix:∀r,200000≤r→x.ρ r=e.ρ0 r
 small:e.n≤100000
 tabs:o8 e.P e.w0 (fun b=>e.F0 b∨e.L b)
theorem SRel.now {P:Program} {e:Env} [EP e P] {σ:St} {x:Cx} {a:Act} (h:SRel e σ x a):o8 P x.w x.F:=by
 have:=EP.eq (e:=e) (P:=P)
 subst this
 refine h.tabs.on (fun b hb hn=>h.below.block b hb fun hl=>hn (.inr hl)) h.below.size fun b hb hF=>?_
 rcases(h.F b).1 hF with h1|⟨r,row,h1,h2,h3⟩
 ·exact .inl h1
 ·rcases h.own r row h1 h2 with h4|h4
  ·omega
  ·exact .inr (h3▸h4)
theorem SRel.get {e:Env} {σ:St} {x:Cx} {a:Act} (h:SRel e σ x a) (k:Nat):aB x (bC σ.fr k) (a.tmps.getD k undef):=by
 rcases vH (l:=σ.fr) (k:=k)with h1|h1
 ·rw[h1];simp only[aB]
 ·obtain⟨cv,h2,h3⟩:=h.fr _ _ h1
  simp only[Array.getD_eq_getD_getElem?,h2,Option.getD_some]
  exact h3
theorem SRel.put {e:Env} {σ:St} {x:Cx} {a:Act} (h:SRel e σ x a) {d:Nat} (hd:d<e.n) {v:AV} {cv:Value} (hv:aB x v cv):
  SRel e ⟨gB σ.fr d v,σ.st⟩ x (a.put (some d) cv):=
 {h with
  size:=by simp only[Act.put,Array.size_setIfInBounds];exact h.size
  fr:=fun k u hm=>by
   simp only[gB]at hm
   rcases List.mem_cons.1 hm with hm|hm
   ·injection hm with h1 h2
    subst h1;subst h2
    exact⟨cv,by simp[Act.put,h.size,hd],hv⟩
   ·obtain⟨h1,h2⟩:=fS hm
    obtain⟨cu,h3,h4⟩:=h.fr k u h1
    exact⟨cu,by simp only[Act.put];rw[Array.getElem?_setIfInBounds_ne (fun e=>h2 e.symm)];exact h3,h4⟩ }
theorem L0.kept {w w':World} {b n:Nat} (h:L0 w b n) (hb:w'.heap[b]?=w.heap[b]?):L0 w' b n:=by
 obtain⟨cs,t,h1,h2⟩:=h
 exact⟨cs,t,hb.trans h1,h2⟩
theorem BN.kept {w w':World} {b n:Nat} (h:BN w b n) (hb:w'.heap[b]?=w.heap[b]?):BN w' b n:=by
 obtain⟨cs,t,h1,h2,h3⟩:=h
 exact⟨cs,t,hb.trans h1,h2,h3⟩
theorem DQ {D:Nat→Bool}:∀{l:List AV} {i:Nat} {v:AV},(AV.clips D l)[i]?=some v→∃u,l[i]?=some u∧v=u.clip D
 | [],i,v,h=>by simp[AV.clips]at h
 | u::l,0,v,h=>by
  simp only[AV.clips,List.getElem?_cons_zero,Option.some.injEq]at h
  exact⟨u,rfl,h.symm⟩
 | u::l,i+1,v,h=>by
  simp only[AV.clips,List.getElem?_cons_succ]at h
  obtain⟨u',h1,h2⟩:=DQ h
  exact⟨u',by simpa using h1,h2⟩
theorem Row.clip_rel {x y:Cx} (k:Kept x y) {D:Nat→Bool} (hρ:∀r,D r=false→y.ρ r=x.ρ r) {l:Loc} (hb:l.ok=true→y.w.heap[l.blk]?=x.w.heap[l.blk]?):
  ∀{row:Row},row.rel x l→(row.clip D).rel y l
 | .box cells,h=>by
  simp only[Row.rel,Row.clip,bV]at h ⊢
  exact⟨h.1,h.2.1.kept (hb h.1),aO.clip k hρ cells (fun hc=>gS hc (hb h.1)) h.2.2⟩
 | .sl _ xs,h=>by
  simp only[Row.rel,Row.clip]at h ⊢
  exact h.imp id fun⟨h0,h1,h2,h3,h4,h5⟩=>⟨h0,h1,h2,h3,h4.kept (hb h1),aJ.kept k xs (fun hc=>gS hc (hb h1)) h5⟩
 | .slf _ xs,h=>by
  simp only[Row.rel,Row.clip]at h ⊢
  exact h.imp id fun⟨h0,h1,h2,h3,h4,h5⟩=>⟨h0,h1,h2,h3,h4.kept (hb h1),aJ.kept k xs (fun hc=>gS hc (hb h1)) h5⟩
 | .bxs cells,h=>by
  simp only[Row.rel,Row.clip,bV]at h ⊢
  exact⟨h.1,h.2.1,h.2.2.1.kept (hb h.1),aO.clip k hρ cells (fun hc=>gS hc (hb h.1)) h.2.2.2⟩
 | .mp es,h=>by
  simp only[Row.rel,Row.clip]at h ⊢
  obtain⟨h0,ents,clock,h1,h2,h3,h4,h5⟩:=h
  exact⟨h0,ents,clock,(hb h0).trans h1,h2,fun i p e hp he=>⟨aG.kept k _ (h3 i p e hp he).1,aG.kept k _ (h3 i p e hp he).2⟩,h4,h5⟩
 | .sit s pos,h=>by
  simp only[Row.rel,Row.clip]at h ⊢
  exact⟨h.1,(hb h.1).trans h.2⟩
 | .mit m n rem cur,h=>by
  simp only[Row.clip]
  simp only[Row.rel]at h
  obtain⟨h0,seen,h1,h2⟩:=h
  cases hD:D m
  ·simp only[Bool.false_eq_true,if_false,Row.rel]
   refine⟨h0,seen,?_,h2⟩
   rw[hρ m hD]
   exact(hb h0).trans h1
  ·simp only[if_true,Row.rel]
   exact⟨h0,Nat.lt_of_lt_of_le (Array.getElem?_eq_some_iff.1 h1).1 k.size⟩
 | .mpd es clock,h=>by
  simp only[Row.rel,Row.clip]at h ⊢
  obtain⟨h0,ents,h1,h2,h3,h4⟩:=h
  exact⟨h0,ents,(hb h0).trans h1,h2,fun i p e hp he=>⟨⟨aG.kept k _ (h3 i p e hp he).1.1,aG.kept k _ (h3 i p e hp he).1.2⟩,(h3 i p e hp he).2⟩,h4⟩
 | .mpx ks vs,h=>by
  simp only[Row.rel,Row.clip,bV]at h ⊢
  obtain⟨h0,ents,clock,h1,h2,h3,h4,h5⟩:=h
  refine⟨h0,ents,clock,(hb h0).trans h1,h2,h3,fun i q v e hq hv he=>?_,h5⟩
  obtain⟨u,hu,rfl⟩:=DQ hv
  exact⟨aG.kept k _ (h4 i q u e hq hu he).1,aB.clip k hρ u (h4 i q u e hq hu he).2⟩
 | .mid m n bs rem cur,h=>by
  simp only[Row.clip]
  simp only[Row.rel]at h
  obtain⟨h0,seen,h1,h2⟩:=h
  cases hD:D m
  ·simp only[Bool.false_eq_true,if_false,Row.rel]
   refine⟨h0,seen,?_,h2⟩
   rw[hρ m hD]
   exact(hb h0).trans h1
  ·simp only[if_true,Row.rel]
   exact⟨h0,Nat.lt_of_lt_of_le (Array.getElem?_eq_some_iff.1 h1).1 k.size⟩
 | .gone,h=>by
  simp only[Row.rel,Row.clip]at h ⊢
  exact⟨h.1,Nat.lt_of_lt_of_le h.2 k.size⟩
theorem SRel.blk_lt {e:Env} {σ:St} {x:Cx} {a:Act} (h:SRel e σ x a):∀q row,(q,row)∈σ.st→(x.ρ q).ok=true→(x.ρ q).blk<x.w.heap.size:=fun q row hm hok=>by
  have h1:=h.st q row hm
  have arr:∀b n,L0 x.w b n→b<x.w.heap.size:=fun b n ⟨cs,t,hh,_⟩=>(Array.getElem?_eq_some_iff.1 hh).1
  have arr1:∀b n,BN x.w b n→b<x.w.heap.size:=fun b n h=>arr b n h.arr
  cases row with
  | box cells=>exact arr _ _ h1.2.1
  | sl _ xs=>
   rcases h1 with h1|h1
   ·rw[h1.1]at hok;cases hok
   ·exact arr1 _ _ h1.2.2.2.2.1
  | slf _ xs=>
   rcases h1 with h1|h1
   ·rw[h1.1]at hok;cases hok
   ·exact arr1 _ _ h1.2.2.2.2.1
  | bxs cells=>exact arr _ _ h1.2.2.1
  | mp es=>obtain⟨_,ents,clock,hh,_⟩:=h1;exact(Array.getElem?_eq_some_iff.1 hh).1
  | sit s pos=>exact(Array.getElem?_eq_some_iff.1 h1.2).1
  | mit m n rem cur=>obtain⟨_,seen,hh,_⟩:=h1;exact(Array.getElem?_eq_some_iff.1 hh).1
  | mpd es clock=>obtain⟨_,ents,hh,_⟩:=h1;exact(Array.getElem?_eq_some_iff.1 hh).1
  | mpx ks vs=>obtain⟨_,ents,clock,hh,_⟩:=h1;exact(Array.getElem?_eq_some_iff.1 hh).1
  | mid m n bs rem cur=>obtain⟨_,seen,hh,_⟩:=h1;exact(Array.getElem?_eq_some_iff.1 hh).1
  | gone=>exact h1.2
theorem SRel.turn {e:Env} {σ:St} {x y:Cx} {a:Act} (h:SRel e σ x a) (r:Nat) (row':Row) (D:Nat→Bool)
  (hsize:x.w.heap.size≤y.w.heap.size) (hos:y.w.os=x.w.os) (htape:y.w.tape=x.w.tape) (hout:y.w.output=x.w.output) (hdr:True)
  (hheap:∀b,b<x.w.heap.size→(∀row,(r,row)∈σ.st→(x.ρ r).ok=true→b≠(x.ρ r).blk)→y.w.heap[b]?=x.w.heap[b]?)
  (hD:∀q,D q=false→y.ρ q=x.ρ q) (hDr:∀q,D q=true→q=r) (hne:∀q,q≠r→y.ρ q=x.ρ q)
  (hblk:(y.ρ r).ok=true→x.w.heap.size≤(y.ρ r).blk∨((∃row,(r,row)∈σ.st)∧(x.ρ r).ok=true∧(y.ρ r).blk=(x.ρ r).blk))
  (hF:∀b,y.F b↔e.F0 b∨d6 ((r,row')::eG D (aQ σ.st r)) y.ρ b)
  (hrow:row'.rel y (y.ρ r)) (hr:r<200000∨y.ρ r=x.ρ r):SRel e ⟨iH D σ.fr,(r,row')::eG D (aQ σ.st r)⟩ y a:=by
 have old:∀q row,(q,row)∈eG D (aQ σ.st r)→q≠r∧∃u,(q,u)∈σ.st∧row=u.clip D:=fun q row hm=>by
  obtain⟨u,h1,h2⟩:=gL hm
  obtain⟨h3,h4⟩:=bE h1
  exact⟨h4,u,h3,h2⟩
 have hlt:=h.blk_lt
 have kept:Kept x y:={
  size:=hsize
  heap:=fun b hb hl=>hheap b hl fun row hm hok hbe=>hb ((h.F b).2 (.inr ⟨r,row,hm,hok,hbe.symm⟩))
  F:=fun b hl hy=>by
   rcases(hF b).1 hy with h0|⟨q,row,hm,hok,hb⟩
   ·exact(h.F b).2 (.inl h0)
   ·rcases List.mem_cons.1 hm with hm|hm
    ·injection hm with h1 _
     subst h1
     rcases hblk hok with h2|⟨⟨row1,h2⟩,h3,h4⟩
     ·omega
     ·exact(h.F b).2 (.inr ⟨q,row1,h2,h3,by rw[←h4];exact hb⟩)
    ·obtain⟨hq,u,hu,_⟩:=old q row hm
     rw[hne q hq]at hok hb
     exact(h.F b).2 (.inr ⟨q,u,hu,hok,hb⟩) }
 exact {
  defers:=h.defers
  size:=h.size
  fr:=fun k v hm=>by
   obtain⟨u,hu,rfl⟩:=lM hm
   obtain⟨cv,h1,h2⟩:=h.fr k u hu
   exact⟨cv,h1,aB.clip kept hD u h2⟩
  st:=fun q row hm=>by
   rcases List.mem_cons.1 hm with hm|hm
   ·injection hm with h1 h2;subst h1;subst h2;exact hrow
   ·obtain⟨hq,u,hu,rfl⟩:=old q row hm
    rw[hne q hq]
    refine Row.clip_rel kept hD (fun hok=>hheap _ (hlt q u hu hok) fun row1 hm1 hok1=>?_) (h.st q u hu)
    exact h.inj q u r row1 hu hm1 hq hok hok1
  keys:=by
   simp only[List.map_cons,List.nodup_cons,qA]
   refine⟨fun hm=>?_,fC h.keys⟩
   obtain⟨q,h1,h2⟩:=List.mem_map.1 hm
   exact(bE h1).2 h2
  inj:=fun q row q' row' hm hm' hqq hok hok'=>by
   have key:∀q u,(q,u)∈σ.st→q≠r→(x.ρ q).ok=true→(y.ρ r).ok=true→(x.ρ q).blk≠(y.ρ r).blk:=fun q u hu hq hok hokr=>by
    rcases hblk hokr with h2|⟨⟨row1,h2⟩,h3,h4⟩
    ·have:=hlt q u hu hok;omega
    ·rw[h4];exact h.inj q u r row1 hu h2 hq hok h3
   rcases List.mem_cons.1 hm with hm|hm<;>rcases List.mem_cons.1 hm' with hm'|hm'
   ·injection hm with h1 _;injection hm' with h2 _;exact absurd (h1.trans h2.symm) hqq
   ·injection hm with h1 _
    subst h1
    obtain⟨hq,u,hu,_⟩:=old _ _ hm'
    rw[hne q' hq]at hok' ⊢
    exact fun hb=>key q' u hu hq hok' hok hb.symm
   ·injection hm' with h1 _
    subst h1
    obtain⟨hq,u,hu,_⟩:=old _ _ hm
    rw[hne q hq]at hok ⊢
    exact key q u hu hq hok hok'
   ·obtain⟨hq,u,hu,_⟩:=old _ _ hm
    obtain⟨hq',u',hu',_⟩:=old _ _ hm'
    rw[hne q hq]at hok ⊢
    rw[hne q' hq']at hok' ⊢
    exact h.inj q u q' u' hu hu' hqq hok hok'
  F:=hF
  own:=fun q row hm hok=>by
   rcases List.mem_cons.1 hm with hm|hm
   ·injection hm with h1 _
    subst h1
    rcases hblk hok with h2|⟨⟨row1,h2⟩,h3,h4⟩
    ·exact .inl (Nat.le_trans h.below.size h2)
    ·rw[h4];exact h.own q row1 h2 h3
   ·obtain⟨hq,u,hu,_⟩:=old _ _ hm
    rw[hne q hq]at hok ⊢
    exact h.own q u hu hok
  f0:=h.f0
  below:=⟨hos.trans h.below.os,htape.trans h.below.tape,hout.trans h.below.output,Nat.le_trans h.below.size hsize,fun k hk hl=>(hheap k (Nat.lt_of_lt_of_le hk h.below.size) fun row hm hok hbe=>by
   rcases h.own r row hm hok with h1|h1
   ·omega
   ·exact hl (hbe▸h1)).trans (h.below.block k hk hl),trivial⟩
  fix:=fun q hq=>by
   rcases hr with hr|hr
   ·rw[hne q (by omega)];exact h.fix q hq
   ·by_cases hqr:q=r
    ·subst hqr;rw[hr];exact h.fix q hq
    ·rw[hne q hqr];exact h.fix q hq
  small:=h.small
  tabs:=h.tabs }
structure Agr (w w':World):Prop where
 size:w.heap.size≤w'.heap.size
 heap:∀b,b<w.heap.size→w'.heap[b]?=w.heap[b]?
theorem Agr.refl (w:World):Agr w w:=⟨Nat.le_refl _,fun _ _=>rfl⟩
theorem Agr.trans {a b c:World} (h:Agr a b) (k:Agr b c):Agr a c:=
 ⟨Nat.le_trans h.size k.size,fun i hi=>(k.heap i (Nat.lt_of_lt_of_le hi h.size)).trans (h.heap i hi)⟩
theorem cP {w w':World} (h:Below w.heap.size w w'):Agr w w':=⟨h.size,h.block⟩
theorem Agr.cell {w w':World} (h:Agr w w') {b o:Nat} {v:Value} (hc:w.cell? ⟨b,o,none⟩=some v):w'.cell? ⟨b,o,none⟩=some v:=
 gS hc (h.heap b (oA hc))
theorem SRel.ext {e:Env} {σ:St} {x:Cx} {a:Act} (h:SRel e σ x a) {w':World} (hb:Below x.w.heap.size x.w w'):SRel e σ ⟨w',x.F,x.ρ⟩ a:=by
 have kept:Kept x ⟨w',x.F,x.ρ⟩:=⟨hb.size,fun b _ hl=>hb.block b hl,fun b _ hy=>hy⟩
 exact { h with
  fr:=fun k v hm=>let⟨cv,h1,h2⟩:=h.fr k v hm;⟨cv,h1,h2.kept kept rfl⟩
  st:=fun r row hm=>by
   have:=Row.clip_rel (y:=⟨w',x.F,x.ρ⟩) kept (D:=fun _=>false) (fun _ _=>rfl) (fun hok=>hb.block _ (h.blk_lt r row hm hok)) (h.st r row hm)
   cases row<;>simp only[Row.clip,dJ,Bool.false_eq_true,if_false]at this<;>exact this
  below:=h.below.trans hb
  fix:=h.fix }
end Go.Vc

namespace Go.Vc
open Go.RowKit
inductive Opd where
 | t (n:Nat)
 | c (v:Value)
 | nil
 | f (g:FuncId)
 deriving Inhabited
inductive Kk where
 | int
 | str
 | st (ks:List Nat)
 deriving Inhabited
inductive Q where
 | mv (x:Opd)
 | bin (op:BinOp) (x y:Opd)
 | beq (neg:Bool) (x y:Opd)
 | not (x:Opd)
 | pick (c a b:Opd)
 | ext (x:Opd) (i:Nat)
 | fa (x:Opd) (off:Nat)
 | ia (x i:Opd) (s:Nat)
 | iaa (x i:Opd) (len s:Nat)
 | ld (x:Opd) (n:Nat) (agg:Bool)
 | ldc (x:Opd) (n:Nat) (agg:Bool)
 | fld (x:Opd) (off n:Nat) (agg:Bool)
 | len (x:Opd) (str:Bool)
 | slc (x:Opd) (lo hi:Option Opd) (s:Nat) (str:Bool)
 | conv (k:IntKind) (x:Opd)
 | cvw (k:IntKind) (x:Opd)
 | shw (x y:Opd)
 | bnd (f:FuncId) (caps:List Opd)
 | nch (x:Opd)
 | mk (zero:List AV) (parts:List (Nat×Nat×Opd))
 | clo (f:FuncId) (caps:List Opd)
 | idx (x i:Opd)
 | idxa (x i:Opd) (len:Nat)
 | seq (neg:Bool) (ks:List Nat) (x y:Opd)
 | mm (mx:Bool) (x y:Opd)
 | mget (m k:Opd) (comma:Bool) (kk:Kk) (zero:AV)
 | mlen (m:Opd)
 | ent (it:Opd)
 | chk (x lo hi mx:Opd)
 | ful (x hi mx:Opd)
 | slcx (x:Opd) (lo hi:Option Opd) (s:Nat)
 | shf (left:Bool) (x y:Opd)
 | sob (x:Opd)
 deriving Inhabited
inductive IOp where
 | q (x:Q)
 | alloc (zero:List AV)
 | box (x:Opd)
 | lits (xs:List Opd) (s:Nat)
 | own (xs:List Opd) (s:Nat)
 | mks (len cap:Opd) (s bytes:Nat) (z:PV)
 | mkx (len cap:Opd) (bytes:Nat) (z:AV)
 | st (p x:Opd) (n:Nat)
 | app (b src:Opd) (s bytes:Nat)
 | appn (b src:Opd) (s bytes:Nat)
 | appx (b src:Opd) (bytes:Nat)
 | appi (b src:Opd) (s bytes:Nat)
 | clr (x:Opd) (s:Nat) (z:PV)
 | capr (x:Opd)
 | appz (b x:Opd) (s bytes:Nat) (z:PV)
 | cpy (b x:Opd) (s:Nat)
 | call (f:Opd) (args:List Opd)
 | isnil (x:Opd) (neg:Bool)
 | mkm
 | mkmr (x:Opd)
 | mset (m k v:Opd) (kk:Kk)
 | mdel (m k:Opd) (kk:Kk)
 | calls (f:Opd) (args:List Opd)
 | rngm (m:Opd)
 | rngs (x:Opd)
 | nxtm (it:Opd)
 | nxts (it:Opd)
 deriving Inhabited
structure Inst where
 d:Option Nat
 g:Option (Nat×Bool)
 op:IOp
 deriving Inhabited
structure GI where
 d:Nat
 g:Option (Nat×Bool)
 op:IOp
 U:List Nat
 R:List Nat
 deriving Inhabited
inductive MC where
 | skip
 | bad
 | grp (N:List Nat) (l:List GI) (keep rows:List Nat)
 | reg (l:List Inst) (vs:List (Nat×Nat×Nat)) (keep rows:List Nat)
 | alt (a b:MC)
 | seq (a b:MC)
 | cond (c:Opd) (a b:MC)
 | block (id:Nat) (b:MC)
 | loop (b:MC)
 | exit (id:Nat)
 | ret
 deriving Inhabited
def Opd.ev (σ:St):Opd→AV
 | .t n=>bC σ.fr n
 | .c v=>.pv (.sc v)
 | .nil=>.e0
 | .f g=>.fn g []
def AV.un1:AV→AV
 | .whn _ v=>v
 | v=>v
def AV.cd:AV→Bool
 | .whn c _=>c
 | _=>true
def Opd.sv (σ:St) (x:Opd):AV:=(x.ev σ).un1
def Opd.cd (σ:St) (x:Opd):Bool:=(x.ev σ).cd
def e8 (σ:St):List Opd→Bool
 | []=>true
 | x::xs=>x.cd σ&&e8 σ xs
def cH:List AV→Option (List PV)
 | []=>some []
 | .pv p::r=>match cH r with
  | some ps=>some (p::ps)
  | none=>none
 | .e0::r=>match cH r with
  | some ps=>some (.lst []::ps)
  | none=>none
 | _::_=>none
def yA (cs:List AV):AV:=match cH cs with
 | some ps=>.pv (.agg ps)
 | none=>.agg cs
def AV.isE0:AV→Bool
 | .e0=>true
 | _=>false
def uP (cs:List AV):AV:=if cs.any AV.isE0=true then .agg cs else yA cs
def oP (cs:List AV):AV:=match cH cs with
 | some []=>.e0
 | some ps=>.pv (.lst ps)
 | none=>.lit cs
def AV.cells:AV→List AV
 | .agg cs=>cs
 | .pv p=>p.cells.map .pv
 | v=>[v]
def Kg (p:PV) (off n:Nat) (agg:Bool):PV:=if agg then .agg ((p.cells.drop off).take n)else p.cells.getD off default
def x3 (cs:List PV) (off n:Nat) (agg:Bool):PV:=if agg then .agg ((cs.drop off).take n)else cs.getD off default
def BL (cs:List AV) (off n:Nat) (agg:Bool):AV:=if agg then yA ((cs.drop off).take n)else cs.getD off .un
def BG:IntKind→Int→Prop
 | .i8,n => -128≤n∧n≤127
 | .i16,n => -32768≤n∧n≤32767
 | .i32,n => -2147483648≤n∧n≤2147483647
 | .i64,n => -9223372036854775808≤n∧n≤9223372036854775807
 | .u8,n=>0≤n∧n≤255
 | .u16,n=>0≤n∧n≤65535
 | .u32,n=>0≤n∧n≤4294967295
 | .u64,n=>0≤n∧n≤18446744073709551615
def dZ (k:IntKind) (n:Int):AV:=.pv (.sc (.int k n))
def aY (b:Bool):AV:=.pv (.sc (.bool b))
def rN (op:BinOp) (k:IntKind) (x y:Int):Int:=match op with
 | .and=>k.wrap (BitVec.ofInt k.bits x&&&BitVec.ofInt k.bits y).toNat
 | .or=>k.wrap (BitVec.ofInt k.bits x|||BitVec.ofInt k.bits y).toNat
 | .xor=>k.wrap (BitVec.ofInt k.bits x ^^^ BitVec.ofInt k.bits y).toNat
 | _=>k.wrap (BitVec.ofInt k.bits x &&& ~~~(BitVec.ofInt k.bits y)).toNat
def KA (op:BinOp):AV→AV→AV
 | .pv (.sc (.int k a)),.pv (.sc (.int _ b))=>match op with
  | .add=>dZ k (a+b)
  | .sub=>dZ k (a-b)
  | .mul=>dZ k (a*b)
  | .quo=>dZ k (a.tdiv b)
  | .rem=>dZ k (a.tmod b)
  | .eql=>aY (decide (a=b))
  | .neq=>aY (!decide (a=b))
  | .lss=>aY (decide (a<b))
  | .leq=>aY (decide (a≤b))
  | .gtr=>aY (decide (b<a))
  | .geq=>aY (decide (b≤a))
  | .and=>dZ k (rN .and k a b)
  | .or=>dZ k (rN .or k a b)
  | .xor=>dZ k (rN .xor k a b)
  | .andNot=>dZ k (rN .andNot k a b)
  | _=>.un
 | .pv (.sc (.string s)),.pv (.sc (.string t))=>match op with
  | .eql=>aY (decide (s=t))
  | .neq=>aY (!decide (s=t))
  | .lss=>aY (Op.bytesLess s.toList t.toList)
  | .geq=>aY (!Op.bytesLess s.toList t.toList)
  | .leq=>aY (Op.bytesLess s.toList t.toList||decide (s=t))
  | .gtr=>aY (!(Op.bytesLess s.toList t.toList||decide (s=t)))
  | .add=>.pv (.sc (.string (s++t)))
  | _=>.un
 | _,_=>.un
def Gk (op:BinOp):AV→AV→Prop
 | .pv (.sc (.int k a)),.pv (.sc (.int k' b))=>k=k'∧match op with
  | .add=>BG k (a+b)
  | .sub=>BG k (a-b)
  | .mul=>BG k (a*b)
  | .quo=>b≠0∧BG k (a.tdiv b)
  | .rem=>b≠0
  | .eql|.neq|.lss|.leq|.gtr|.geq|.and|.or|.xor|.andNot=>True
  | _=>False
 | .pv (.sc (.string s)),.pv (.sc (.string t))=>match op with
  | .eql|.neq|.lss|.geq|.leq|.gtr=>True
  | .add=>s.size+t.size≤9223372036854775807
  | _=>False
 | _,_=>False
def Nr (neg:Bool):AV→AV→AV
 | .pv (.sc (.bool a)),.pv (.sc (.bool b))=>aY (if neg then !(a==b)else a==b)
 | _,_=>.un
def KB:AV→AV→Prop
 | .pv (.sc (.bool _)),.pv (.sc (.bool _))=>True
 | _,_=>False
def HR (i:Nat):AV→AV
 | .tup vs=>vs.getD i .un
 | .pv (.tup ps)=>.pv (ps.getD i default)
 | _=>.un
def HS (i:Nat):AV→Prop
 | .tup vs=>i<vs.length
 | .pv (.tup ps)=>i<ps.length
 | _=>False
def HJ (off:Nat):AV→AV
 | .ptr r o=>.ptr r (o+off)
 | .rptr r i o=>.rptr r i (o+off)
 | .eptr xs i o=>.eptr xs i (o+off)
 | .cptr cs o=>.cptr cs (o+off)
 | .pv (.pt cs)=>.cptr cs off
 | _=>.un
def J8:AV→Prop
 | .ptr _ _|.rptr _ _ _|.eptr _ _ _|.cptr _ _|.pv (.pt _)=>True
 | _=>False
def OE:AV→AV→AV
 | .pv (.lst xs),.pv (.sc (.int _ n))=>.eptr xs n.toNat 0
 | .row r off _,.pv (.sc (.int _ n))=>.rptr r (off+n.toNat) 0
 | _,_=>.un
def CI:Option Row→Option Nat
 | some (.sl s _)=>some s
 | some (.slf s _)=>some s
 | some (.bxs _)=>some 1
 | _=>none
def OF (σ:St) (s:Nat):AV→AV→Prop
 | .pv (.lst xs),.pv (.sc (.int _ n))=>0≤n∧n<xs.length∧cY s xs
 | .row r _ m,.pv (.sc (.int _ n))=>0≤n∧n<m∧CI (aL σ.st r)=some s
 | _,_=>False
def HM (s:Nat):AV→AV→AV
 | .ptr r o,.pv (.sc (.int _ n))=>.ptr r (o+n.toNat*s)
 | .rptr r i o,.pv (.sc (.int _ n))=>.rptr r i (o+n.toNat*s)
 | .eptr xs i o,.pv (.sc (.int _ n))=>.eptr xs i (o+n.toNat*s)
 | .cptr cs o,.pv (.sc (.int _ n))=>.cptr cs (o+n.toNat*s)
 | .pv (.pt cs),.pv (.sc (.int _ n))=>.cptr cs (n.toNat*s)
 | _,_=>.un
def Ko (len:Nat):AV→AV→Prop
 | p,.pv (.sc (.int _ n))=>J8 p∧0≤n∧n<len
 | _,_=>False
def J0 (σ:St) (n:Nat) (agg:Bool):AV→AV
 | .ptr r o=>match aL σ.st r with
  | some (.box cs)=>BL cs o n agg
  | _=>.un
 | .rptr r i o=>match aL σ.st r with
  | some (.sl _ xs)=>.pv (Kg (xs.getD i default) o n agg)
  | some (.bxs cs)=>BL cs (i+o) n agg
  | _=>.un
 | .eptr xs i o=>.pv (Kg (xs.getD i default) o n agg)
 | .cptr cs o=>.pv (x3 cs o n agg)
 | .pv (.pt cs)=>.pv (x3 cs 0 n agg)
 | _=>.un
def J7 (σ:St) (n:Nat) (agg:Bool):AV→Prop
 | .ptr r o=>match aL σ.st r with
  | some (.box cs)=>o+n≤cs.length∧(agg=true∨n=1)
  | _=>False
 | .rptr r i o=>match aL σ.st r with
  | some (.sl _ xs)=>i<xs.length∧o+n≤(xs.getD i default).cells.length∧(agg=true∨n=1)
  | some (.bxs cs)=>o=0∧n=1∧agg=false∧i<cs.length
  | _=>False
 | .eptr xs i o=>o+n≤(xs.getD i default).cells.length∧(agg=true∨n=1)
 | .cptr cs o=>o+n≤cs.length∧(agg=true∨n=1)
 | .pv (.pt cs)=>n≤cs.length∧(agg=true∨n=1)
 | _=>False
def ON (n:Nat) (agg:Bool):AV→AV
 | .cptr cs o=>.pv (x3 cs o n agg)
 | .pv (.pt cs)=>.pv (x3 cs 0 n agg)
 | _=>.un
def Nc (n:Nat) (agg:Bool):AV→Prop
 | .cptr cs o=>o+n≤cs.length∧(agg=true∨n=1)
 | .pv (.pt cs)=>n≤cs.length∧(agg=true∨n=1)
 | _=>False
def HQ (off n:Nat) (agg:Bool):AV→AV
 | .pv (.agg cs)=>.pv (x3 cs off n agg)
 | .agg cs=>BL cs off n agg
 | _=>.un
def Kw (off n:Nat) (agg:Bool):AV→Prop
 | .pv (.agg cs)=>off+n≤cs.length∧(agg=true∨n=1)
 | .agg cs=>off+n≤cs.length∧(agg=true∨n=1)
 | _=>False
def Nb:AV→AV
 | .pv (.lst xs)=>dZ .i64 (xs.length:Nat)
 | .pv (.sc (.string s))=>dZ .i64 (s.size:Nat)
 | .row _ _ n=>dZ .i64 (n:Nat)
 | .lit xs=>dZ .i64 (xs.length:Nat)
 | .e0=>dZ .i64 0
 | _=>.un
def Km (str:Bool):AV→Prop
 | .pv (.sc (.string _))=>str=true
 | .pv (.lst _)|.row _ _ _|.lit _|.e0=>str=false
 | _=>False
def bnd:AV→Int
 | .pv (.sc (.int _ n))=>n
 | _=>0
def eO:AV→Prop
 | .pv (.sc (.int _ _))=>True
 | _=>False
def sC (σ:St):Option Opd→Int
 | none=>0
 | some x=>bnd (x.sv σ)
def sD (σ:St) (d:Nat):Option Opd→Int
 | none=>d
 | some x=>bnd (x.sv σ)
def oW (σ:St):Option Opd→Prop
 | none=>True
 | some x=>eO (x.sv σ)
def xU (lo hi:Int):AV→AV
 | .pv (.lst xs)=>.pv (.lst ((xs.take hi.toNat).drop lo.toNat))
 | .pv (.sc (.string s))=>.pv (.sc (.string (s.extract lo.toNat hi.toNat)))
 | .row r off _=>.row r (off+lo.toNat) (hi.toNat-lo.toNat)
 | .e0=>.e0
 | _=>.un
def dQ:AV→Nat
 | .pv (.lst xs)=>xs.length
 | .pv (.sc (.string s))=>s.size
 | .row _ _ n=>n
 | _=>0
def HK (σ:St) (s:Nat) (str:Bool) (lo hi:Int):AV→Prop
 | .pv (.lst xs)=>str=false∧0≤lo∧lo≤hi∧hi≤xs.length∧cY s xs
 | .pv (.sc (.string t))=>str=true∧0≤lo∧lo≤hi∧hi≤t.size
 | .row r _ n=>str=false∧0≤lo∧lo≤hi∧hi≤n∧CI (aL σ.st r)=some s
 | .e0=>str=false∧lo=0∧hi=0
 | _=>False
def Ih (k:IntKind):AV→AV
 | .pv (.sc (.int _ n))=>dZ k n
 | _=>.un
def Fx (k:IntKind):AV→Prop
 | .pv (.sc (.int _ n))=>BG k n
 | _=>False
def Np (k:IntKind):AV→AV
 | .pv (.sc (.int _ n))=>dZ k (k.wrap n)
 | _=>.un
def lay (cs:List AV) (off:Nat):List AV→List AV
 | []=>cs
 | v::vs=>lay (cs.set off v) (off+1) vs
def J6 (σ:St):List (Nat×Nat×Opd)→List AV→List AV
 | [],cs=>cs
 | (off,_,x)::r,cs=>J6 σ r (lay cs off (x.sv σ).cells)
def Av:AV→Bool
 | .un|.whn _ _|.pv (.sc (.agg _))=>false
 | _=>true
def JZ (σ:St) (m:Nat):List (Nat×Nat×Opd)→Prop
 | []=>True
 | (off,n,x)::r=>Av (x.sv σ)=true∧(x.sv σ).cells.length=n∧off+n≤m∧JZ σ m r
def Nf:AV→AV→AV
 | .pv (.sc (.string s)),.pv (.sc (.int _ n))=>dZ .u8 ((s.data.getD n.toNat 0).toNat:Nat)
 | _,_=>.un
def Kn:AV→AV→Prop
 | .pv (.sc (.string s)),.pv (.sc (.int _ n))=>0≤n∧n<s.size
 | _,_=>False
def Fo:AV→AV→AV
 | .pv (.agg ps),.pv (.sc (.int _ n))=>.pv (ps.getD n.toNat default)
 | _,_=>.un
def Fp (len:Nat):AV→AV→Prop
 | .pv (.agg ps),.pv (.sc (.int _ n))=>0≤n∧n<(len:Int)∧ps.length=len
 | _,_=>False
def M1:AV→AV
 | .pv (.sc (.bool b))=>aY (!b)
 | _=>.un
def i6:AV→Prop
 | .pv (.sc (.bool _))=>True
 | _=>False
def lC:AV→Bool
 | .pv (.sc (.bool b))=>b
 | _=>false
def H1:AV→AV→AV→AV
 | .pv (.sc (.bool c)),a,b=>aY (bif c then lC a else lC b)
 | _,_,_=>.un
def eD (σ:St):List Opd→List AV
 | []=>[]
 | x::xs=>x.sv σ::eD σ xs
def uS (vs:List AV) (f:FuncId):AV:=match cH vs with
 | some ps=>.pv (.fn f ps)
 | none=>.fn f vs
def dP:List PV→List PV→Bool
 | [],[]=>true
 | .sc (.int _ a)::ps,.sc (.int _ b)::qs=>decide (a=b)&&dP ps qs
 | .sc (.string a)::ps,.sc (.string b)::qs=>decide (a=b)&&dP ps qs
 | .sc (.bool a)::ps,.sc (.bool b)::qs=>decide (a=b)&&dP ps qs
 | _,_=>false
def dL:List Nat→List PV→List PV→Prop
 | [],[],[]=>True
 | 0::ks,.sc (.int k _)::ps,.sc (.int k' _)::qs=>k=k'∧dL ks ps qs
 | 1::ks,.sc (.string _)::ps,.sc (.string _)::qs=>dL ks ps qs
 | 2::ks,.sc (.bool _)::ps,.sc (.bool _)::qs=>dL ks ps qs
 | _,_,_=>False
def Ke (neg:Bool):AV→AV→AV
 | .pv (.agg ps),.pv (.agg qs)=>aY (if neg then !dP ps qs else dP ps qs)
 | _,_=>.un
def Gg (ks:List Nat):AV→AV→Prop
 | .pv (.agg ps),.pv (.agg qs)=>dL ks ps qs
 | _,_=>False
def gA:Kk→PV→Prop
 | .int,.sc (.int _ _)=>True
 | .str,.sc (.string _)=>True
 | .st ks,.agg ps=>dL ks ps ps
 | _,_=>False
def iI:Kk→PV→PV→Prop
 | .int,.sc (.int k _),.sc (.int k' _)=>k=k'
 | .str,.sc (.string _),.sc (.string _)=>True
 | .st ks,.agg ps,.agg qs=>dL ks ps qs
 | _,_,_=>False
def cG:PV→PV→Bool
 | .sc (.int _ a),.sc (.int _ b)=>decide (a=b)
 | .sc (.string a),.sc (.string b)=>decide (a=b)
 | .agg ps,.agg qs=>dP ps qs
 | _,_=>false
def aW (kk:Kk) (k:PV):List (PV×PV)→Prop
 | []=>True
 | e::es=>iI kk k e.1∧aW kk k es
def rQ (k:PV):List (PV×PV)→Option PV
 | []=>none
 | e::es=>if cG k e.1 then some e.2 else rQ k es
def rJ (k:PV):List PV→List AV→Option AV
 | q::ks,v::vs=>if cG k q then some v else rJ k ks vs
 | _,_=>none
def LZ (ks:List PV):List (PV×PV):=ks.map fun k=>(k,k)
def nP (k v:PV):List (PV×PV)→List (PV×PV)
 | []=>[(k,v)]
 | e::es=>if cG k e.1 then(k,v)::es else e::nP k v es
def oT (es:List (Nat×PV×PV)):List (PV×PV):=es.map (·.2)
def kU (k v:PV) (clock:Nat):List (Nat×PV×PV)→List (Nat×PV×PV)
 | []=>[(clock,k,v)]
 | e::es=>if cG k e.2.1 then(e.1,k,v)::es else e::kU k v clock es
def rX (k:PV):List (Nat×PV×PV)→List (Nat×PV×PV)
 | []=>[]
 | e::es=>if cG k e.2.1 then es else e::rX k es
def Ef (k:PV) (es:List (Nat×PV×PV)) (clock:Nat):Nat:=match rQ k (oT es)with
 | some _=>clock
 | none=>clock+1
def pF (σ:St) (comma:Bool) (zero:AV):AV→AV→AV
 | .mp r,.pv k=>match aL σ.st r with
  | some (.mp es)=>(match rQ k es with
   | some v=>if comma then .tup [.pv v,aY true]else .pv v
   | none=>if comma then .tup [zero,aY false]else zero)
  | some (.mpd es _)=>(match rQ k (oT es)with
   | some v=>if comma then .tup [.pv v,aY true]else .pv v
   | none=>if comma then .tup [zero,aY false]else zero)
  | some (.mpx ks vs)=>(match rJ k ks vs with
   | some v=>if comma then .tup [v,aY true]else v
   | none=>.un)
  | _=>.un
 | _,_=>.un
def yB (σ:St) (kk:Kk):AV→AV→Prop
 | .mp r,.pv k=>match aL σ.st r with
  | some (.mp es)=>gA kk k∧aW kk k es
  | some (.mpd es _)=>gA kk k∧aW kk k (oT es)
  | some (.mpx ks vs)=>(gA kk k∧aW kk k (LZ ks))∧(rJ k ks vs).isSome=true
  | _=>False
 | _,_=>False
def vW (σ:St):AV→AV
 | .mp r=>match aL σ.st r with
  | some (.mp es)=>dZ .i64 (es.length:Nat)
  | some (.mpd es _)=>dZ .i64 (es.length:Nat)
  | _=>.un
 | _=>.un
def x9 (σ:St):AV→Prop
 | .mp r=>match aL σ.st r with
  | some (.mp _)=>True
  | some (.mpd _ _)=>True
  | _=>False
 | _=>False
def CN (σ:St):AV→AV
 | .it r=>match aL σ.st r with
  | some (.mit m _ _ (some i))=>(match aL σ.st m with
   | some (.mp es)=>.tup [.pv (es.getD i default).1,.pv (es.getD i default).2]
   | _=>.un)
  | some (.mid m _ _ _ (some i))=>(match aL σ.st m with
   | some (.mpd es _)=>.tup [.pv (es.getD i default).2.1,.pv (es.getD i default).2.2]
   | _=>.un)
  | _=>.un
 | _=>.un
def Ed (σ:St):AV→Prop
 | .it r=>match aL σ.st r with
  | some (.mit m n _ (some _))=>(match aL σ.st m with
   | some (.mp es)=>es.length=n
   | _=>False)
  | some (.mid m n bs _ (some _))=>(match aL σ.st m with
   | some (.mpd es clock)=>es.map (·.1)=bs∧clock=n
   | _=>False)
  | _=>False
 | _=>False
def Q6 (mx:Bool):AV→AV→AV
 | .pv (.sc (.int k a)),.pv (.sc (.int _ b))=>dZ k (if mx then(if b>a then b else a)else(if b<a then b else a))
 | _,_=>.un
def QX:AV→AV→Prop
 | .pv (.sc (.int _ _)),.pv (.sc (.int _ _))=>True
 | _,_=>False
def Kz:AV→AV→AV→AV→Prop
 | .row _ _ n,.pv (.sc (.int _ l)),.pv (.sc (.int _ h)),.pv (.sc (.int _ m))=>0≤l∧l≤h∧h≤m∧m≤n
 | .pv (.lst xs),.pv (.sc (.int _ l)),.pv (.sc (.int _ h)),.pv (.sc (.int _ m))=>0≤l∧l≤h∧h≤m∧m≤xs.length
 | _,_,_,_=>False
def Kr:AV→AV→AV→Prop
 | .pv (.lst xs),.pv (.sc (.int _ h)),.pv (.sc (.int _ m))=>h=xs.length∧m=xs.length
 | _,_,_=>False
def Kq:AV→AV
 | .pv (.lst xs)=>.ful xs
 | _=>.un
def kR:AV→List PV
 | .ful xs=>xs
 | _=>[]
def HL:AV→Prop
 | .e0=>True
 | .ful _=>True
 | _=>False
def MU (left:Bool):AV→AV→AV
 | .pv (.sc (.int k a)),.pv (.sc (.int _ b))=>dZ k (if left then a*2^b.toNat else a.fdiv (2^b.toNat))
 | _,_=>.un
def Kd (left:Bool):AV→AV→Prop
 | .pv (.sc (.int k a)),.pv (.sc (.int _ b))=>0≤b∧b≤k.bits∧(left=true→BG k (a*2^b.toNat))
 | _,_=>False
def MT:AV→AV→AV
 | .pv (.sc (.int k a)),.pv (.sc (.int _ b))=>dZ k (k.wrap (a*2^b.toNat))
 | _,_=>.un
def Kc:AV→AV→Prop
 | .pv (.sc (.int k _)),.pv (.sc (.int _ b))=>0≤b∧b≤k.bits
 | _,_=>False
def CS (σ:St) (s:Nat) (lo hi:Int):AV→Prop
 | .row r off _=>match aL σ.st r with
  | some (.sl s' xs)=>s'=s∧0≤lo∧lo≤hi∧off+hi≤xs.length
  | some (.slf s' xs)=>s'=s∧0≤lo∧lo≤hi∧off+hi≤xs.length
  | _=>False
 | _=>False
def j9:List PV→Option (List Int)
 | []=>some []
 | .sc (.int .u8 n)::ps=>match j9 ps with
  | some ns=>some (n::ns)
  | none=>none
 | _::_=>none
def oO (ns:List Int):ByteArray:=ns.foldl (fun r n=>r.push (UInt8.ofNat n.toNat)) ByteArray.empty
def CH:AV→AV
 | .pv (.lst ps)=>match j9 ps with
  | some ns=>.pv (.sc (.string (oO ns)))
  | none=>.un
 | _=>.un
def xT:AV→Prop
 | .pv (.lst ps)=>∃ns,j9 ps=some ns
 | _=>False
def uK (σ:St):AV→AV
 | .row r off n=>match aL σ.st r with
  | some (.sl _ xs)=>.pv (.lst ((xs.drop off).take n))
  | _=>.un
 | .e0=>.pv (.lst [])
 | v=>v
def Q.val (σ:St):Q→AV
 | .mv x=>x.sv σ
 | .bin op x y=>KA op (x.sv σ) (y.sv σ)
 | .beq neg x y=>Nr neg (x.sv σ) (y.sv σ)
 | .not x=>M1 (x.sv σ)
 | .pick c a b=>H1 (c.sv σ) (a.sv σ) (b.sv σ)
 | .ext x i=>HR i (x.sv σ)
 | .fa x off=>HJ off (x.sv σ)
 | .ia x i _=>OE (x.sv σ) (i.sv σ)
 | .iaa x i _ s=>HM s (x.sv σ) (i.sv σ)
 | .ld x n agg=>J0 σ n agg (x.sv σ)
 | .ldc x n agg=>ON n agg (x.sv σ)
 | .fld x off n agg=>HQ off n agg (x.sv σ)
 | .len x _=>Nb (x.sv σ)
 | .slc x lo hi _ _=>xU (sC σ lo) (sD σ (dQ (x.sv σ)) hi) (x.sv σ)
 | .conv k x=>Ih k (x.sv σ)
 | .cvw k x=>Np k (x.sv σ)
 | .bnd f caps=>.bnd f (eD σ caps)
 | .nch x=>x.sv σ
 | .mk zero parts=>uP (J6 σ parts zero)
 | .clo f caps=>uS (eD σ caps) f
 | .idx x i=>Nf (x.sv σ) (i.sv σ)
 | .idxa x i _=>Fo (x.sv σ) (i.sv σ)
 | .seq neg _ x y=>Ke neg (x.sv σ) (y.sv σ)
 | .mm mx x y=>Q6 mx (x.sv σ) (y.sv σ)
 | .mget m k comma _ zero=>pF σ comma zero (m.sv σ) (k.sv σ)
 | .mlen m=>vW σ (m.sv σ)
 | .ent it=>CN σ (it.sv σ)
 | .chk _ _ _ _=>.un
 | .ful x _ _=>Kq (x.sv σ)
 | .shf left x y=>MU left (x.sv σ) (y.sv σ)
 | .shw x y=>MT (x.sv σ) (y.sv σ)
 | .sob x=>CH (uK σ (x.sv σ))
 | .slcx x lo hi _=>xU (sC σ lo) (sD σ (dQ (x.sv σ)) hi) (x.sv σ)
def gH:Option Opd→List Opd
 | none=>[]
 | some x=>[x]
def Q.cd (σ:St):Q→Bool
 | .mv x|.sob x|.not x|.ext x _|.fa x _|.ld x _ _|.ldc x _ _|.fld x _ _ _|.len x _|.conv _ x|.cvw _ x|.nch x|.mlen x|.ent x=>x.cd σ
 | .bin _ x y|.beq _ x y|.ia x y _|.iaa x y _ _|.idx x y|.idxa x y _|.seq _ _ x y|.mm _ x y|.mget x y _ _ _=>x.cd σ&&y.cd σ
 | .pick c a b=>c.cd σ&&(bif lC (c.sv σ)then a.cd σ else b.cd σ)
 | .slc x lo hi _ _=>e8 σ (x::gH lo++gH hi)
 | .mk _ parts=>e8 σ (parts.map (·.2.2))
 | .clo _ caps=>e8 σ caps
 | .bnd _ caps=>e8 σ caps
 | .chk x lo hi mx=>e8 σ [x,lo,hi,mx]
 | .ful x hi mx=>e8 σ [x,hi,mx]
 | .shf _ x y=>x.cd σ&&y.cd σ
 | .shw x y=>x.cd σ&&y.cd σ
 | .slcx x lo hi _=>e8 σ (x::gH lo++gH hi)
def Q.pre (σ:St) (q:Q):Prop:=q.cd σ=true∧match q with
 | .mv _=>True
 | .bin op x y=>Gk op (x.sv σ) (y.sv σ)
 | .beq _ x y=>KB (x.sv σ) (y.sv σ)
 | .not x=>i6 (x.sv σ)
 | .pick c a b=>i6 (c.sv σ)∧(lC (c.sv σ)=true→i6 (a.sv σ))∧(lC (c.sv σ)=false→i6 (b.sv σ))
 | .ext x i=>HS i (x.sv σ)
 | .fa x _=>J8 (x.sv σ)
 | .ia x i s=>OF σ s (x.sv σ) (i.sv σ)
 | .iaa x i m _=>Ko m (x.sv σ) (i.sv σ)
 | .ld x n agg=>J7 σ n agg (x.sv σ)
 | .ldc x n agg=>Nc n agg (x.sv σ)
 | .fld x off n agg=>Kw off n agg (x.sv σ)
 | .len x str=>Km str (x.sv σ)
 | .slc x lo hi s str=>oW σ lo∧oW σ hi∧HK σ s str (sC σ lo) (sD σ (dQ (x.sv σ)) hi) (x.sv σ)
 | .conv k x=>Fx k (x.sv σ)
 | .cvw _ x=>eO (x.sv σ)
 | .bnd _ _=>True
 | .nch x=>J8 (x.sv σ)
 | .mk zero parts=>JZ σ zero.length parts
 | .clo _ _=>True
 | .idx x i=>Kn (x.sv σ) (i.sv σ)
 | .idxa x i m=>Fp m (x.sv σ) (i.sv σ)
 | .seq _ ks x y=>Gg ks (x.sv σ) (y.sv σ)
 | .mm _ x y=>QX (x.sv σ) (y.sv σ)
 | .mget m k _ kk _=>yB σ kk (m.sv σ) (k.sv σ)
 | .mlen m=>x9 σ (m.sv σ)
 | .ent it=>Ed σ (it.sv σ)
 | .ful x hi mx=>Kr (x.sv σ) (hi.sv σ) (mx.sv σ)
 | .chk x lo hi mx=>Kz (x.sv σ) (lo.sv σ) (hi.sv σ) (mx.sv σ)
 | .shf left x y=>Kd left (x.sv σ) (y.sv σ)
 | .shw x y=>Kc (x.sv σ) (y.sv σ)
 | .sob x=>xT (uK σ (x.sv σ))
 | .slcx x lo hi s=>oW σ lo∧oW σ hi∧CS σ s (sC σ lo) (sD σ (dQ (x.sv σ)) hi) (x.sv σ)
end Go.Vc

namespace Go.Vc
open Go.RowKit
def dO (P:Program) (x:Cx) (o:Oper) (ev:Operand→Value) (v:AV):Prop:=
 ∃cv,aB x v cv∧∀w',Agr x.w w'→(execOp ev o).run P w'=.ok (.value cv) w'
def Opd.of:Operand→Option Opd
 | .tmp k=>some (.t k)
 | .const (.slice none 0 0)=>some .nil
 | .const v=>some (.c v)
 | .func g=>some (.f g)
 | .global _=>none
theorem Opd.of_ev {e:Env} {σ:St} {x:Cx} {a:Act} (h:SRel e σ x a) {y:Operand} {z:Opd} (hz:Opd.of y=some z):aB x (z.ev σ) (a.eval y):=by
 cases y with
 | tmp k=>simp only[Opd.of,Option.some.injEq]at hz;subst hz;exact h.get k
 | global g=>simp[Opd.of]at hz
 | func f=>
  simp only[Opd.of,Option.some.injEq]at hz;subst hz
  simp only[Opd.ev,aB,Act.eval]
  exact⟨[],rfl,by simp only[aD]⟩
 | const v=>
  by_cases hn:v=.slice none 0 0
  ·subst hn
   simp only[Opd.of,Option.some.injEq]at hz;subst hz
   simp only[Opd.ev,aB,Act.eval];exact⟨none,rfl⟩
  ·have:Opd.of (.const v)=some (.c v):=by
    unfold Opd.of
    split<;>first|rfl|contradiction|(rename_i he;injection he with he;first|(exact absurd he hn)|(rw[he]))
   rw[this]at hz;injection hz with hz;subst hz
   simp only[Opd.ev,aB,Act.eval,aG]
theorem KH {x:Cx} {v:AV} {cv:Value} (h:aB x v cv) (hc:v.cd=true):aB x v.un1 cv:=by
 cases v<;>first|exact h|skip
 simp only[AV.cd]at hc
 simp only[aB]at h
 exact h.1 hc
theorem Opd.of_sv {e:Env} {σ:St} {x:Cx} {a:Act} (h:SRel e σ x a) {y:Operand} {z:Opd} (hz:Opd.of y=some z) (hc:z.cd σ=true):aB x (z.sv σ) (a.eval y):=
 KH (Opd.of_ev h hz) hc
theorem jB {k:IntKind} {n:Int} (h:BG k n):k.wrap n=n:=by
 cases k<;>simp only[BG]at h<;>simp[IntKind.wrap,IntKind.signed,IntKind.bits]<;>omega
theorem toList_eq (s t:ByteArray):(s.toList==t.toList)=decide (s=t):=by
 rw[Bool.eq_iff_iff,ByteArray.toList_eq,ByteArray.toList_eq]
 simp only[beq_iff_eq,decide_eq_true_eq]
 constructor
 ·intro h
  cases s;cases t
  simp only[ByteArray.mk.injEq]
  exact Array.toList_inj.1 h
 ·intro h;rw[h]
theorem dO.sc {P:Program} {x:Cx} {o:Oper} {ev:Operand→Value} {v:AV} {c:Value} (hv:v=.pv (.sc c)) (h:∀w',(execOp ev o).run P w'=.ok (.value c) w'):dO P x o ev v:=
 ⟨c,by rw[hv];simp only[aB,aG],fun w' _=>h w'⟩
section
variable {P:Program} {x:Cx} {o:Oper} {ev:Operand→Value}
theorem OK {y:Operand} (ho:o.op=.move y∨o.op=.assign y) {v:AV} (h:aB x v (ev y)):dO P x o ev v:=by
 refine⟨_,h,fun w' _=>?_⟩
 rcases ho with ho|ho<;>simp[execOp,ho]
theorem qK (w:World) {t:TypeId} (a b:Bool) (hb:P.underlying t=some .bool):(Op.equal t (.bool a) (.bool b)).run P w=.ok (a==b) w:=by
 have h:∀d:Nat,(Op.equalIn (d+1) t (.bool a) (.bool b)).run P w=.ok (a==b) w:=fun d=>by simp[Op.equalIn,run_underlying hb]
 exact h 9999
theorem Pv {op:BinOp} {t t':TypeId} {y z:Operand} (ho:o.op=.binOp op t y z t') {u v:AV} (hy:aB x u (ev y)) (hz:aB x v (ev z)) (hp:Gk op u v):
  dO P x o ev (KA op u v):=by
 unfold Gk at hp
 split at hp
 ·rename_i k a k' b
  obtain⟨rfl,hp⟩:=hp
  simp only[aB,aG]at hy hz
  cases op<;>simp only[]at hp
  case add=>exact dO.sc rfl fun w'=>by simp[execOp,ho,hy,hz,eqGuard,binOp,Op.intArith,jB hp]
  case sub=>exact dO.sc rfl fun w'=>by simp[execOp,ho,hy,hz,eqGuard,binOp,Op.intArith,jB hp]
  case mul=>exact dO.sc rfl fun w'=>by simp[execOp,ho,hy,hz,eqGuard,binOp,Op.intArith,jB hp]
  case quo=>exact dO.sc rfl fun w'=>by simp[execOp,ho,hy,hz,eqGuard,binOp,Op.intDiv,hp.1,jB hp.2]
  case rem=>exact dO.sc rfl fun w'=>by simp[execOp,ho,hy,hz,eqGuard,binOp,Op.intDiv,hp]
  case and=>exact dO.sc rfl fun w'=>by simp[execOp,ho,hy,hz,eqGuard,binOp,Op.intBits,rN]
  case or=>exact dO.sc rfl fun w'=>by simp[execOp,ho,hy,hz,eqGuard,binOp,Op.intBits,rN]
  case xor=>exact dO.sc rfl fun w'=>by simp[execOp,ho,hy,hz,eqGuard,binOp,Op.intBits,rN]
  case andNot=>exact dO.sc rfl fun w'=>by simp[execOp,ho,hy,hz,eqGuard,binOp,Op.intBits,rN]
  all_goals exact dO.sc rfl fun w'=>by simp[execOp,ho,hy,hz,eqGuard,binOp,Op.intCmp];try rfl
 ·rename_i a b
  simp only[aB,aG]at hy hz
  cases op<;>simp only[]at hp
  case eql=>exact dO.sc rfl fun w'=>by simp[execOp,ho,hy,hz,eqGuard,binOp,Op.stringOp,toList_eq]
  case neq=>exact dO.sc rfl fun w'=>by simp[execOp,ho,hy,hz,eqGuard,binOp,Op.stringOp,toList_eq]
  case lss=>exact dO.sc rfl fun w'=>by simp[execOp,ho,hy,hz,eqGuard,binOp,Op.stringOp]
  case geq=>exact dO.sc rfl fun w'=>by simp[execOp,ho,hy,hz,eqGuard,binOp,Op.stringOp]
  case leq=>exact dO.sc rfl fun w'=>by simp[execOp,ho,hy,hz,eqGuard,binOp,Op.stringOp,toList_eq]
  case gtr=>exact dO.sc rfl fun w'=>by simp[execOp,ho,hy,hz,eqGuard,binOp,Op.stringOp,toList_eq]
  case add=>exact dO.sc rfl fun w'=>by
                have hle:¬(9223372036854775807<(a.size:Int)+(b.size:Int)):=by omega
                simp[execOp,ho,hy,hz,eqGuard,binOp,Op.stringOp,show IntKind.i64.max=9223372036854775807 from rfl,hle]
 ·exact hp.elim
theorem Ma {left:Bool} {t t':TypeId} {y z:Operand} (ho:o.op=.binOp (if left then .shl else .shr) t y z t') {u v:AV} (hy:aB x u (ev y)) (hz:aB x v (ev z)) (hp:Kd left u v):
  dO P x o ev (MU left u v):=by
 unfold Kd at hp
 split at hp
 ·rename_i k a k' b
  simp only[aB,aG]at hy hz
  obtain⟨h0,h1,h2⟩:=hp
  have hn:¬b<0:=by omega
  have hm:min b.toNat k.bits=b.toNat:=by omega
  cases left
  ·exact dO.sc rfl fun w'=>by simp[execOp,ho,hy,hz,eqGuard,binOp,Op.shift,hn,hm]
  ·exact dO.sc rfl fun w'=>by simp[execOp,ho,hy,hz,eqGuard,binOp,Op.shift,hn,hm,jB (h2 rfl)]
 ·exact hp.elim
theorem Pg {t t':TypeId} {y z:Operand} (ho:o.op=.binOp .shl t y z t') {u v:AV} (hy:aB x u (ev y)) (hz:aB x v (ev z)) (hp:Kc u v):
  dO P x o ev (MT u v):=by
 unfold Kc at hp
 split at hp
 ·rename_i k a k' b
  simp only[aB,aG]at hy hz
  obtain⟨h0,h1⟩:=hp
  have hn:¬b<0:=by omega
  have hm:min b.toNat k.bits=b.toNat:=by omega
  exact dO.sc rfl fun w'=>by simp[execOp,ho,hy,hz,eqGuard,binOp,Op.shift,hn,hm]
 ·exact hp.elim
theorem Md {neg:Bool} {t t':TypeId} {y z:Operand} (ho:o.op=.binOp (if neg then .neq else .eql) t y z t') (ht:P.underlying t=some .bool) {u v:AV} (hy:aB x u (ev y)) (hz:aB x v (ev z)) (hp:KB u v):
  dO P x o ev (Nr neg u v):=by
 unfold KB at hp
 split at hp
 ·rename_i a b
  simp only[aB,aG]at hy hz
  cases neg
  ·exact dO.sc rfl fun w'=>by simp[execOp,ho,hy,hz,eqGuard,binOp,qK _ a b ht]
  ·exact dO.sc rfl fun w'=>by simp[execOp,ho,hy,hz,eqGuard,binOp,qK _ a b ht]
 ·exact hp.elim
theorem Pi {t:TypeId} {y:Operand} (ho:o.op=.unOp .neg t y) {k:IntKind} {v:AV} (hy:aB x v (ev y)) (hp:Gk .sub (.pv (.sc (.int k 0))) v):dO P x o ev (KA .sub (.pv (.sc (.int k 0))) v):=by
 unfold Gk at hp
 split at hp
 ·rename_i k' n e1
  injection e1 with e1;injection e1 with e1;injection e1 with e1 e3
  subst e1;subst e3
  obtain⟨rfl,hp⟩:=hp
  simp only[aB,aG]at hy
  simp only at hp
  have hw:k.wrap (-n) = -n:=by have:=jB hp;rw[Int.zero_sub]at this;exact this
  exact dO.sc rfl fun w'=>by simp[execOp,ho,hy,Op.unary,Op.intArith,hw]
 ·rename_i e1;injection e1 with e1;injection e1 with e1;cases e1
 ·exact hp.elim
theorem Ph {t:TypeId} {y:Operand} (ho:o.op=.unOp .not t y) {v:AV} (hy:aB x v (ev y)) (hp:i6 v):dO P x o ev (M1 v):=by
 unfold i6 at hp
 split at hp
 ·simp only[aB,aG]at hy
  exact dO.sc rfl fun w'=>by simp[execOp,ho,hy,Op.unary]
 ·exact hp.elim
theorem Bh {v:AV} (h:i6 v):v=.pv (.sc (.bool (lC v))):=by
 unfold i6 at h
 split at h
 ·rfl
 ·exact h.elim
theorem ND {c y z:Operand} (ho:o.op=.pick c y z) {vc vy vz:AV} (hc:aB x vc (ev c)) (hb:i6 vc) (hby:lC vc=true→i6 vy) (hbz:lC vc=false→i6 vz)
  (hy:lC vc=true→aB x vy (ev y)) (hz:lC vc=false→aB x vz (ev z)):dO P x o ev (H1 vc vy vz):=by
 unfold i6 at hb
 split at hb
 ·rename_i b
  simp only[aB,aG]at hc
  cases b
  ·have:=hz rfl
   rw[Bh (hbz rfl)]at this
   simp only[aB,aG]at this
   exact dO.sc rfl fun w'=>by simp[execOp,ho,hc,this,asBool]
  ·have:=hy rfl
   rw[Bh (hby rfl)]at this
   simp only[aB,aG]at this
   exact dO.sc rfl fun w'=>by simp[execOp,ho,hc,this,asBool]
 ·exact hb.elim
theorem aD.at_:∀{vs:List AV} {cs:List Value},aD x vs cs→∀{i:Nat},i<vs.length→∃c,cs[i]?=some c∧aB x (vs.getD i .un) c
 | [],_,_,i,hi=>by simp at hi
 | v::vs,cs,h,i,hi=>by
  simp only[aD]at h
  obtain⟨c,r,rfl,h1,h2⟩:=h
  cases i with
  | zero=>exact⟨c,rfl,h1⟩
  | succ i=>
   obtain⟨c',h3,h4⟩:=aD.at_ h2 (i:=i) (by simpa using hi)
   exact⟨c',by simpa using h3,by simpa using h4⟩
theorem aE.at_ {w:World} {F:Nat→Prop}:∀{vs:List PV} {cs:List Value},aE w F vs cs→∀{i:Nat},i<vs.length→∃c,cs[i]?=some c∧aG w F (vs.getD i default) c
 | [],_,_,i,hi=>by simp at hi
 | v::vs,cs,h,i,hi=>by
  simp only[aE]at h
  obtain⟨c,r,rfl,h1,h2⟩:=h
  cases i with
  | zero=>exact⟨c,rfl,h1⟩
  | succ i=>
   obtain⟨c',h3,h4⟩:=aE.at_ h2 (i:=i) (by simpa using hi)
   exact⟨c',by simpa using h3,by simpa using h4⟩
theorem Pp {y:Operand} {i:Nat} (ho:o.op=.extract y i) {v:AV} (hy:aB x v (ev y)) (hp:HS i v):dO P x o ev (HR i v):=by
 unfold HS at hp
 split at hp
 ·simp only[aB]at hy
  obtain⟨cs,e,h⟩:=hy
  obtain⟨c,h1,h2⟩:=h.at_ hp
  exact⟨c,h2,fun w' _=>by simp[execOp,ho,e,Instr.extract,h1]⟩
 ·simp only[aB,aG]at hy
  obtain⟨cs,e,h⟩:=hy
  obtain⟨c,h1,h2⟩:=h.at_ hp
  exact⟨c,by simpa only[HR,aB]using h2,fun w' _=>by simp[execOp,ho,e,Instr.extract,h1]⟩
 ·exact hp.elim
theorem iO (b o n:Nat):(⟨b,o,none⟩:Addr).add n=⟨b,o+n,none⟩:=by
 unfold Addr.add
 split
 ·rename_i h;subst h;rfl
 ·rfl
theorem wG {w:World} {s:TypeId} {fields:Array Field} {f:Nat} {fl:Field} (hs:P.underlying s=some (.struct fields)) (hf:fields[f]?=some fl)
  {i:TypeInfo} (hi:P.info? fl.type=some i) (hz:i.size≠0) (b o':Nat):
  (Instr.fieldAt s (.pointer (some ⟨b,o',none⟩)) f).run P w=.ok (.pointer (some ⟨b,o'+fl.offset,none⟩)) w:=by
 simp[Instr.fieldAt,run_underlying hs,hf,Instr.sureAddr,fieldPlace,sizeOf,typeInfo,hi,hz,iO]
theorem tZ {v:AV} {cv:Value} (h:aB x v cv) (hp:J8 v):∃b o',cv=.pointer (some ⟨b,o',none⟩)∧∀off,aB x (HJ off v) (.pointer (some ⟨b,o'+off,none⟩)):=by
 unfold J8 at hp
 split at hp
 ·simp only[aB]at h
  exact⟨_,_,h,fun off=>by simp only[HJ,aB,Nat.add_assoc]⟩
 ·simp only[aB]at h
  exact⟨_,_,h,fun off=>by simp only[HJ,aB,Nat.add_assoc]⟩
 ·simp only[aB]at h
  obtain⟨b,o',e,h1,h2,h3,h4⟩:=h
  exact⟨_,_,e,fun off=>by simp only[HJ,aB];exact⟨b,o',by simp only[Nat.add_assoc],h1,h2,h3,h4⟩⟩
 ·simp only[aB]at h
  obtain⟨b,o',e,h1,h2,h3⟩:=h
  exact⟨_,_,e,fun off=>by simp only[HJ,aB];exact⟨b,o',by simp only[Nat.add_assoc],h1,h2,h3⟩⟩
 ·simp only[aB,aG]at h
  obtain⟨b,o',e,h1,h2,h3⟩:=h
  exact⟨_,_,e,fun off=>by simp only[HJ,aB];exact⟨b,o',rfl,h1,h2,h3⟩⟩
 ·exact hp.elim
theorem Re {s:TypeId} {y:Operand} {f:Nat} (ho:o.op=.fieldAddr s y f) {fields:Array Field} {fl:Field} (hs:P.underlying s=some (.struct fields)) (hf:fields[f]?=some fl)
  {i:TypeInfo} (hi:P.info? fl.type=some i) (hz:i.size≠0) {v:AV} (hy:aB x v (ev y)) (hp:J8 v):dO P x o ev (HJ fl.offset v):=by
 obtain⟨b,o',e,h⟩:=tZ hy hp
 exact⟨_,h fl.offset,fun w' _=>by simp[execOp,ho,e,wG hs hf hi hz]⟩
theorem Pj {y:Operand} (ho:o.op=.nilCheck y) {v:AV} (hy:aB x v (ev y)) (hp:J8 v):dO P x o ev v:=by
 obtain⟨b,o',e,h⟩:=tZ hy hp
 exact⟨_,hy,fun w' _=>by simp[execOp,ho,e]⟩
theorem uU:∀{xs:List PV} {s:Nat},(∀p∈xs,p.cells.length=s)→∀i,i≤xs.length→((xs.take i).map (·.cells.length)).sum=i*s
 | xs,s,h,0,_=>by simp
 | [],s,h,i+1,hi=>by simp at hi
 | p::xs,s,h,i+1,hi=>by
  simp only[List.take_succ_cons,List.map_cons,List.sum_cons,h p (by simp)]
  rw[uU (fun q hq=>h q (List.mem_cons_of_mem _ hq)) i (by simpa using hi)]
  rw[Nat.succ_mul];omega
theorem l8 {w:World} {t et:TypeId} {i:TypeInfo} (ht:P.underlying t=some (.slice et)) (hi:P.info? et=some i) (b o' len cap:Nat) (k:IntKind) (n:Int) (h0:0≤n) (h1:n<len):
  (Instr.indexAt t (.slice (some ⟨b,o',none⟩) len cap) (.int k n)).run P w=.ok (.pointer (some ⟨b,o'+n.toNat*i.size,none⟩)) w:=by
 simp[Instr.indexAt,run_underlying ht,asIntOf,h0,h1,sizeOf,typeInfo,hi,iO]
theorem uI {w:World} {t et:TypeId} {len:Nat} {i:TypeInfo} (ht:P.underlying t=some (.array len et)) (hi:P.info? et=some i) (b o':Nat) (k:IntKind) (n:Int) (h0:0≤n) (h1:n<len):
  (Instr.indexAt t (.pointer (some ⟨b,o',none⟩)) (.int k n)).run P w=.ok (.pointer (some ⟨b,o'+n.toNat*i.size,none⟩)) w:=by
 simp[Instr.indexAt,run_underlying ht,asIntOf,h0,h1,sizeOf,typeInfo,hi,iO,Instr.sureAddr]
theorem Rc {e:Env} {σ:St} {a:Act} (hS:SRel e σ x a) {t et:TypeId} {y z:Operand} (ho:o.op=.indexAddr t y z) {i:TypeInfo} (ht:P.underlying t=some (.slice et)) (hi:P.info? et=some i)
  {u v:AV} (hy:aB x u (ev y)) (hz:aB x v (ev z)) (hp:OF σ i.size u v):dO P x o ev (OE u v):=by
 unfold OF at hp
 split at hp
 ·rename_i xs k n
  simp only[aB,aG]at hy hz
  obtain⟨h0,h1,h2⟩:=hp
  obtain⟨ad,m,c,e1,e2,e3,e4⟩:=hy
  obtain⟨b,o',rfl,h5,h6,h7⟩:=e4 (by omega)
  refine⟨.pointer (some ⟨b,o'+n.toNat*i.size,none⟩),?_,fun w' _=>?_⟩
  ·simp only[OE,aB]
   exact⟨b,o',by rw[uU (fun p hp=>(h2 p hp).1) _ (by omega)];simp,h5,h6,h7,by omega⟩
  ·simp only[execOp,ho,e1,hz]
   rw[e2]
   simp[l8 ht hi b o' _ _ k n h0 h1]
 ·rename_i r off m k n
  obtain⟨h0,h1,h2⟩:=hp
  simp only[aB,aG]at hy hz
  have hs:(x.ρ r).ok=true→(x.ρ r).s=i.size:=fun hok=>by
   unfold CI at h2
   split at h2
   ·rename_i s xs hrow
    injection h2 with h2;subst h2
    have:=hS.st _ _ (aH hrow)
    simp only[Row.rel]at this
    rcases this with⟨h3,_⟩|h3
    ·rw[h3]at hok;cases hok
    ·exact h3.1
   ·rename_i s xs hrow
    injection h2 with h2;subst h2
    have:=hS.st _ _ (aH hrow)
    simp only[Row.rel]at this
    rcases this with⟨h3,_⟩|h3
    ·rw[h3]at hok;cases hok
    ·exact h3.1
   ·rename_i cells hrow
    injection h2 with h2
    have:=hS.st _ _ (aH hrow)
    simp only[Row.rel]at this
    rw[←h2];exact this.2.1.1
   ·cases h2
  rcases hy with⟨h3,_⟩|⟨c,hok,e1,h3,h4,_⟩
  ·omega
  ·refine⟨.pointer (some ⟨(x.ρ r).blk,(x.ρ r).base+off*(x.ρ r).s+n.toNat*i.size,none⟩),?_,fun w' _=>?_⟩
   ·simp only[OE,aB,hs hok,Nat.add_mul,Nat.add_assoc,Nat.add_zero]
   ·simp only[execOp,ho,e1,hz]
    simp[l8 ht hi _ _ _ _ k n h0 h1]
 ·exact hp.elim
theorem Pm {t et:TypeId} {len:Nat} {y z:Operand} (ho:o.op=.indexAddr t y z) {i:TypeInfo} (ht:P.underlying t=some (.array len et)) (hi:P.info? et=some i)
  {u v:AV} (hy:aB x u (ev y)) (hz:aB x v (ev z)) (hp:Ko len u v):dO P x o ev (HM i.size u v):=by
 unfold Ko at hp
 split at hp
 ·rename_i k n
  obtain⟨h1,h0,h2⟩:=hp
  obtain⟨b,o',e,h⟩:=tZ hy h1
  simp only[aB,aG]at hz
  have hv:HM i.size u (.pv (.sc (.int k n)))=HJ (n.toNat*i.size) u:=by
   unfold J8 at h1
   split at h1<;>first|exact h1.elim|simp[HM,HJ]
  rw[hv]
  refine⟨_,h _,fun w' _=>?_⟩
  simp[execOp,ho,e,hz,uI ht hi b o' k n h0 h2]
 ·exact hp.elim
end
end Go.Vc

namespace Go.Vc
open Go.RowKit
section
variable {P:Program} {x:Cx} {o:Oper} {ev:Operand→Value}
theorem Mc {y:Operand} {ts:Array TypeId} (ho:o.op=.call { callee:=.builtin .len,args:=#[y],argTypes:=ts }) {t0:TypeId} (ht0:ts[0]?=some t0)
  {v:AV} {str:Bool} (hy:aB x v (ev y)) (hp:Km str v) (hs:str=true→P.underlying t0=some .string) (hs':str=false→∃et,P.underlying t0=some (.slice et)):
  dO P x o ev (Nb v):=by
 unfold Km at hp
 split at hp
 ·have ht:=hs hp
  simp only[aB,aG]at hy
  exact dO.sc rfl fun w'=>by simp[execOp,ho,resolve,invoke,builtin,Builtin.len_,ht0,run_underlying ht,hy,goInt]
 ·obtain⟨et,ht⟩:=hs' hp
  simp only[aB,aG]at hy
  obtain⟨a,n,c,e1,e2,_⟩:=hy
  exact dO.sc rfl fun w'=>by simp[execOp,ho,resolve,invoke,builtin,Builtin.len_,ht0,run_underlying ht,e1,e2,goInt]
 ·obtain⟨et,ht⟩:=hs' hp
  simp only[aB]at hy
  rcases hy with⟨e0,_,a,e1⟩|⟨c,_,e1,_⟩
  ·exact dO.sc rfl fun w'=>by simp[execOp,ho,resolve,invoke,builtin,Builtin.len_,ht0,run_underlying ht,e1,goInt,e0]
  ·exact dO.sc rfl fun w'=>by simp[execOp,ho,resolve,invoke,builtin,Builtin.len_,ht0,run_underlying ht,e1,goInt]
 ·obtain⟨et,ht⟩:=hs' hp
  simp only[aB]at hy
  obtain⟨a,n,c,e1,e2,_⟩:=hy
  exact dO.sc rfl fun w'=>by simp[execOp,ho,resolve,invoke,builtin,Builtin.len_,ht0,run_underlying ht,e1,e2,goInt]
 ·obtain⟨et,ht⟩:=hs' hp
  simp only[aB]at hy
  obtain⟨a,e1⟩:=hy
  exact dO.sc rfl fun w'=>by simp[execOp,ho,resolve,invoke,builtin,Builtin.len_,ht0,run_underlying ht,e1,goInt]
 ·exact hp.elim
theorem l7 {w:World} (b o':Nat):∀(vs:List Value) (i:Nat) (acc:Array Value),(∀j c,vs[j]?=some c→w.cell? ⟨b,o'+i+j,none⟩=some c)→
  (loadCellsFrom ⟨b,o',none⟩ i vs.length acc).run P w=.ok (acc++vs.toArray) w
 | [],i,acc,_=>by simp[loadCellsFrom]
 | c::vs,i,acc,h=>by
  have h0:=h 0 c rfl
  have ih:=l7 b o' vs (i+1) (acc.push c) fun j c' hj=>by
   have:=h (j+1) c' (by simpa using hj)
   rw[←this];congr 2;omega
  simp only[List.length_cons,loadCellsFrom]
  have h1:(load ((⟨b,o',none⟩:Addr).add i)).run P w=.ok c w:=by
   rw[iO]
   simp only[Nat.add_zero]at h0
   simp[load,Sem.run,h0]
  simp only[Sem.run_bind,h1,Result.andThen_ok,ih]
  simp
theorem jT {w:World} (b o':Nat) (vs:List Value) (h:∀j c,vs[j]?=some c→w.cell? ⟨b,o'+j,none⟩=some c):
  (loadCells ⟨b,o',none⟩ vs.length).run P w=.ok vs.toArray w:=by
 have:=l7 (P:=P) b o' vs 0 #[] (by simpa using h)
 simpa[loadCells]using this
def aV (w:World) (b o:Nat) (vs:List Value):Prop:=∀j c,vs[j]?=some c→w.cell? ⟨b,o+j,none⟩=some c
theorem aN.cut {w:World} {F:Nat→Prop}:∀{cs:List PV} {b o':Nat} (off n:Nat),aN w F cs b o'→off+n≤cs.length→
  ∃vs:List Value,vs.length=n∧aE w F ((cs.drop off).take n) vs∧aV w b (o'+off) vs
 | [],b,o',off,n,_,hl=>by
  simp only[List.length_nil,Nat.le_zero,Nat.add_eq_zero_iff]at hl
  obtain⟨rfl,rfl⟩:=hl
  exact⟨[],rfl,by simp[aE],fun j c hc=>by simp at hc⟩
 | c::cs,b,o',off+1,n,h,hl=>by
  simp only[aN]at h
  obtain⟨vs,h1,h2,h3⟩:=aN.cut off n h.2 (by simp only[List.length_cons]at hl;omega)
  exact⟨vs,h1,by simpa using h2,fun j c' hc=>by have:=h3 j c' hc;rw[←this];congr 2;omega⟩
 | c::cs,b,o',0,0,h,hl=>⟨[],rfl,by simp[aE],fun j c hc=>by simp at hc⟩
 | c::cs,b,o',0,n+1,h,hl=>by
  simp only[aN]at h
  obtain⟨⟨v,hv,hr⟩,h⟩:=h
  obtain⟨vs,h1,h2,h3⟩:=aN.cut 0 n h (by simp only[List.length_cons]at hl;omega)
  refine⟨v::vs,by simp[h1],?_,fun j c' hc=>?_⟩
  ·simp only[List.drop_zero,List.take_succ_cons,aE]
   exact⟨v,vs,rfl,hr,by simpa using h2⟩
  ·cases j with
   | zero=>simp only[List.getElem?_cons_zero,Option.some.injEq]at hc;subst hc;simpa using hv
   | succ j=>have:=h3 j c' (by simpa using hc);rw[←this];congr 2;omega
theorem aO.cut:∀{cs:List AV} {b o':Nat} (off n:Nat),aO x cs b o'→off+n≤cs.length→
  ∃vs:List Value,vs.length=n∧aD x ((cs.drop off).take n) vs∧aV x.w b (o'+off) vs
 | [],b,o',off,n,_,hl=>by
  simp only[List.length_nil,Nat.le_zero,Nat.add_eq_zero_iff]at hl
  obtain⟨rfl,rfl⟩:=hl
  exact⟨[],rfl,by simp[aD],fun j c hc=>by simp at hc⟩
 | c::cs,b,o',off+1,n,h,hl=>by
  simp only[aO]at h
  obtain⟨vs,h1,h2,h3⟩:=aO.cut off n h.2 (by simp only[List.length_cons]at hl;omega)
  exact⟨vs,h1,by simpa using h2,fun j c' hc=>by have:=h3 j c' hc;rw[←this];congr 2;omega⟩
 | c::cs,b,o',0,0,h,hl=>⟨[],rfl,by simp[aD],fun j c hc=>by simp at hc⟩
 | c::cs,b,o',0,n+1,h,hl=>by
  simp only[aO]at h
  obtain⟨⟨v,hv,hr⟩,h⟩:=h
  obtain⟨vs,h1,h2,h3⟩:=aO.cut 0 n h (by simp only[List.length_cons]at hl;omega)
  refine⟨v::vs,by simp[h1],?_,fun j c' hc=>?_⟩
  ·simp only[List.drop_zero,List.take_succ_cons,aD]
   exact⟨v,vs,rfl,hr,by simpa using h2⟩
  ·cases j with
   | zero=>simp only[List.getElem?_cons_zero,Option.some.injEq]at hc;subst hc;simpa using hv
   | succ j=>have:=h3 j c' (by simpa using hc);rw[←this];congr 2;omega
theorem dN:∀{cs:List AV} {ps:List PV} {vs:List Value},cH cs=some ps→aD x cs vs→aE x.w x.F ps vs
 | [],_,_,h,hv=>by
  simp only[cH,Option.some.injEq]at h;subst h
  simpa only[aD,aE]using hv
 | v::cs,ps,vs,h,hv=>by
  simp only[aD]at hv
  obtain⟨c,r,rfl,h1,h2⟩:=hv
  cases v with
  | pv p=>
   simp only[cH]at h
   split at h
   ·rename_i qs hq
    injection h with h;subst h
    simp only[aE]
    exact⟨c,r,rfl,by simpa only[aB]using h1,dN hq h2⟩
   ·cases h
  | e0=>
   simp only[cH]at h
   split at h
   ·rename_i qs hq
    injection h with h;subst h
    simp only[aE]
    simp only[aB]at h1
    obtain⟨a,e⟩:=h1
    exact⟨c,r,rfl,by simp only[aG];exact⟨a,0,0,e,rfl,Nat.le_refl _,fun hn=>absurd hn (by omega)⟩,dN hq h2⟩
   ·cases h
  | _=>simp[cH]at h
theorem kP {cs:List AV} {vs:List Value} (h:aD x cs vs):aB x (yA cs) (.agg ⟨vs⟩):=by
 unfold yA
 split
 ·rename_i ps hp
  simp only[aB,aG]
  exact⟨vs,rfl,dN hp h⟩
 ·simp only[aB]
  exact⟨vs,rfl,h⟩
theorem zZ {cs:List AV} {vs:List Value} (h:aD x cs vs):aB x (uP cs) (.agg ⟨vs⟩):=by
 unfold uP
 split
 ·simp only[aB];exact⟨vs,rfl,h⟩
 ·exact kP h
theorem aJ.at_ {w:World} {F:Nat→Prop}:∀{xs:List PV} {b o':Nat} {i:Nat},aJ w F xs b o'→i<xs.length→
  aN w F (xs.getD i default).cells b (o'+((xs.take i).map (·.cells.length)).sum)
 | [],_,_,i,_,hi=>by simp at hi
 | y::xs,b,o',0,h,_=>by
  simp only[List.getD_cons_zero,List.take_zero,List.map_nil,List.sum_nil,Nat.add_zero]
  cases y with
  | agg cs=>simp only[aJ]at h;exact h.1
  | _=>simp only[aJ]at h;simp only[PV.cells,aN];exact⟨h.1,trivial⟩
 | y::xs,b,o',i+1,h,hi=>by
  have key:aJ w F xs b (o'+y.cells.length):=by
   cases y with
   | agg cs=>simp only[aJ]at h;exact h.2
   | _=>simp only[aJ]at h;exact h.2
  have:=aJ.at_ (i:=i) key (by simpa using hi)
  simp only[List.getD_cons_succ,List.take_succ_cons,List.map_cons,List.sum_cons]
  rw[←Nat.add_assoc];exact this
theorem aS.at_:∀{xs:List AV} {b o':Nat} {i s:Nat},aS x xs b o'→(∀p∈xs,p.width=s)→i<xs.length→
  aO x (xs.getD i .un).cells b (o'+i*s)
 | [],_,_,i,_,_,_,hi=>by simp at hi
 | y::xs,b,o',0,s,h,_,_=>by
  simp only[List.getD_cons_zero,Nat.zero_mul,Nat.add_zero]
  cases y with
  | agg cs=>simp only[aS]at h;exact h.1
  | pv p=>
   cases p with
   | agg cs=>
    simp only[aS]at h
    simp only[AV.cells,PV.cells]
    have conv:∀(cs:List PV) (o:Nat),aN x.w x.F cs b o→aO x (cs.map .pv) b o:=by
     intro cs
     induction cs with
     | nil=>intro o _;simp only[List.map_nil,aO]
     | cons c cs ih=>
      intro o hc
      simp only[aN]at hc
      simp only[List.map_cons,aO,aB]
      exact⟨hc.1,ih _ hc.2⟩
    exact conv cs _ h.1
   | _=>simp only[aS]at h;simp only[AV.cells,PV.cells,List.map_cons,List.map_nil,aO];exact⟨h.1,trivial⟩
  | _=>simp only[aS]at h;simp only[AV.cells,aO];exact⟨h.1,trivial⟩
 | y::xs,b,o',i+1,s,h,hs,hi=>by
  have key:aS x xs b (o'+s):=by
   have hw:=hs y (by simp)
   cases y with
   | agg cs=>simp only[aS]at h;simp only[AV.width]at hw;rw[←hw];exact h.2
   | pv p=>
    cases p with
    | agg cs=>simp only[aS]at h;simp only[AV.width,PV.cells]at hw;rw[←hw];exact h.2
    | _=>simp only[aS]at h;simp only[AV.width,PV.cells,List.length_cons,List.length_nil]at hw;rw[←hw];exact h.2
   | _=>simp only[aS]at h;simp only[AV.width]at hw;rw[←hw];exact h.2
  have:=aS.at_ (i:=i) (s:=s) key (fun p hp=>hs p (List.mem_cons_of_mem _ hp)) (by simpa using hi)
  simp only[List.getD_cons_succ]
  have e:o'+(i+1)*s=o'+s+i*s:=by rw[Nat.succ_mul];omega
  rw[e];exact this
end
end Go.Vc

namespace Go.Vc
open Go.RowKit
section
variable {P:Program} {x:Cx} {o:Oper} {ev:Operand→Value}
def bG (P:Program) (t:TypeId):Bool:=match P.underlying t with
 | some (.struct _)=>true
 | some (.array _ _)=>true
 | _=>false
theorem qU {w:World} {t:TypeId} {d:TypeDesc} (ht:P.underlying t=some d):(isAgg t).run P w=.ok (bG P t) w:=by
 unfold bG
 rw[ht]
 cases d<;>simp[isAgg,run_underlying ht]
theorem lZ {w:World} {t:TypeId} {d:TypeDesc} {i:TypeInfo} (ht:P.underlying t=some d) (hi:P.info? t=some i) (b o':Nat) (vs:List Value) (hn:vs.length=i.size)
  (h1:bG P t=true∨i.size=1) (h:aV w b o' vs):
  (Instr.loadAt t (.pointer (some ⟨b,o',none⟩))).run P w=.ok (if bG P t then .agg ⟨vs⟩else vs.getD 0 undef) w:=by
 simp only[Instr.loadAt,Instr.sureAddr,Sem.run_bind,Sem.run_pure,Result.andThen_ok,loadVar,qU ht]
 cases ha:bG P t
 ·rcases h1 with h1|h1
  ·rw[ha]at h1;cases h1
  ·rw[h1]at hn
   match vs,hn with
   | [v],_=>
    have:=h 0 v rfl
    simp only[Nat.add_zero]at this
    simp[load,Sem.run,this]
 ·simp[sizeOf,typeInfo,hi,←hn,jT b o' vs h]
theorem aV.agr {w w':World} {b o':Nat} {vs:List Value} (h:aV w b o' vs) (k:Agr w w'):aV w' b o' vs:=fun j c hc=>k.cell (h j c hc)
theorem aE.agg {w:World} {F:Nat→Prop} {cs:List PV} {vs:List Value} (h:aE w F cs vs):aG w F (.agg cs) (.agg ⟨vs⟩):=by
 simp only[aG];exact⟨vs,rfl,h⟩
theorem Rb {e:Env} {σ:St} {a:Act} (hS:SRel e σ x a) {t:TypeId} {y:Operand} (ho:o.op=.load t y) {d:TypeDesc} {i:TypeInfo} (ht:P.underlying t=some d) (hi:P.info? t=some i)
  {v:AV} (hy:aB x v (ev y)) (hp:J7 σ i.size (bG P t) v):dO P x o ev (J0 σ i.size (bG P t) v):=by
 have pure:∀(cs:List PV) (b o' off:Nat),ev y=.pointer (some ⟨b,o'+off,none⟩)→aN x.w x.F cs b o'→off+i.size≤cs.length→(bG P t=true∨i.size=1)→
   dO P x o ev (.pv (x3 cs off i.size (bG P t))):=by
  intro cs b o' off he hc hl h1
  obtain⟨vs,h2,h3,h4⟩:=hc.cut off i.size hl
  refine⟨if bG P t then .agg ⟨vs⟩else vs.getD 0 undef,?_,fun w' k=>by simp only[execOp,ho,he];simp only[Sem.run_bind,lZ ht hi b (o'+off) vs h2 h1 (h4.agr k),Result.andThen_ok,Sem.run_pure]⟩
  unfold x3
  cases ha:bG P t
  ·rcases h1 with h1|h1
   ·rw[ha]at h1;cases h1
   ·rw[h1]at h3 h2 hl
    have hlt:off<cs.length:=by omega
    have e:(cs.drop off).take 1=[cs.getD off default]:=by
     rw[List.drop_eq_getElem_cons hlt,List.take_succ_cons,List.take_zero];simp[List.getD_eq_getElem?_getD,hlt]
    rw[e]at h3
    simp only[aE]at h3
    obtain⟨v0,r,rfl,h5,_⟩:=h3
    simpa[aB]using h5
  ·simp only[if_true,aB]
   exact h3.agg
 have mixed:∀(cs:List AV) (b o' off:Nat),ev y=.pointer (some ⟨b,o'+off,none⟩)→aO x cs b o'→off+i.size≤cs.length→(bG P t=true∨i.size=1)→
   dO P x o ev (BL cs off i.size (bG P t)):=by
  intro cs b o' off he hc hl h1
  obtain⟨vs,h2,h3,h4⟩:=hc.cut off i.size hl
  refine⟨if bG P t then .agg ⟨vs⟩else vs.getD 0 undef,?_,fun w' k=>by simp only[execOp,ho,he];simp only[Sem.run_bind,lZ ht hi b (o'+off) vs h2 h1 (h4.agr k),Result.andThen_ok,Sem.run_pure]⟩
  unfold BL
  cases ha:bG P t
  ·rcases h1 with h1|h1
   ·rw[ha]at h1;cases h1
   ·rw[h1]at h3 h2 hl
    have hlt:off<cs.length:=by omega
    have e:(cs.drop off).take 1=[cs.getD off .un]:=by
     rw[List.drop_eq_getElem_cons hlt,List.take_succ_cons,List.take_zero];simp[List.getD_eq_getElem?_getD,hlt]
    rw[e]at h3
    simp only[aD]at h3
    obtain⟨v0,r,rfl,h5,_⟩:=h3
    simpa using h5
  ·simp only[if_true]
   exact kP h3
 unfold J7 at hp
 split at hp
 ·rename_i r off
  simp only[aB]at hy
  split at hp
  ·rename_i cs hr
   have h1:=hS.st _ _ (aH hr)
   simp only[Row.rel]at h1
   have:=mixed cs _ _ off hy h1.2.2 hp.1 hp.2
   simpa only[J0,hr]using this
  ·exact hp.elim
 ·rename_i r j off
  simp only[aB]at hy
  split at hp
  ·rename_i s xs hr
   have h1:=hS.st _ _ (aH hr)
   simp only[Row.rel]at h1
   rcases h1 with⟨_,h1⟩|⟨h1,h2,h3,h4,h5,h6⟩
   ·subst h1;simp at hp
   ·have h7:=h6.at_ hp.1
    rw[uU (fun p hp=>(h4 p hp).1) _ (Nat.le_of_lt hp.1),←h1]at h7
    have:=pure _ _ _ off hy h7 hp.2.1 hp.2.2
    simp only[J0,hr]
    unfold Kg
    exact this
  ·rename_i cs hr
   obtain⟨rfl,hn1,hag,hlt⟩:=hp
   have h1:=hS.st _ _ (aH hr)
   simp only[Row.rel]at h1
   have:=mixed cs _ _ j (by rw[hy,h1.2.1.1];simp) h1.2.2.2 (by omega) (.inr hn1)
   simpa only[J0,hr,Nat.add_zero]using this
  ·exact hp.elim
 ·rename_i xs j off
  simp only[aB]at hy
  obtain⟨b,o',e,h1,h2,h3,h4⟩:=hy
  exact pure _ _ _ off e (h3.at_ h4) hp.1 hp.2
 ·rename_i cs off
  simp only[aB]at hy
  obtain⟨b,o',e,h1,h2,h3⟩:=hy
  exact pure _ _ _ off e h3 hp.1 hp.2
 ·rename_i cs
  simp only[aB,aG]at hy
  obtain⟨b,o',e,h1,h2,h3⟩:=hy
  exact pure _ _ _ 0 e h3 (by simpa using hp.1) hp.2
 ·exact hp.elim
theorem aE.cut {w:World} {F:Nat→Prop} {cs:List PV} {vs:List Value} (h:aE w F cs vs):∀(off n:Nat),aE w F ((cs.drop off).take n) ((vs.drop off).take n):=by
 induction cs generalizing vs with
 | nil=>intro off n;simp only[aE]at h;subst h;simp[aE]
 | cons c cs ih=>
  intro off n
  simp only[aE]at h
  obtain⟨v,r,rfl,h1,h2⟩:=h
  cases off with
  | zero=>
   cases n with
   | zero=>simp[aE]
   | succ n=>
    simp only[List.drop_zero,List.take_succ_cons,aE]
    exact⟨v,r.take n,rfl,h1,by simpa using ih h2 0 n⟩
  | succ off=>simpa using ih h2 off n
theorem aD.cut {cs:List AV} {vs:List Value} (h:aD x cs vs):∀(off n:Nat),aD x ((cs.drop off).take n) ((vs.drop off).take n):=by
 induction cs generalizing vs with
 | nil=>intro off n;simp only[aD]at h;subst h;simp[aD]
 | cons c cs ih=>
  intro off n
  simp only[aD]at h
  obtain⟨v,r,rfl,h1,h2⟩:=h
  cases off with
  | zero=>
   cases n with
   | zero=>simp[aD]
   | succ n=>
    simp only[List.drop_zero,List.take_succ_cons,aD]
    exact⟨v,r.take n,rfl,h1,by simpa using ih h2 0 n⟩
  | succ off=>simpa using ih h2 off n
theorem tL {w:World} {t:TypeId} {d:TypeDesc} {i:TypeInfo} (ht:P.underlying t=some d) (hi:P.info? t=some i) (vs:List Value) (off:Nat) {u:Value}
  (hu:bG P t=false→vs[off]?=some u) (ha:bG P t=true→u=.agg ⟨(vs.drop off).take i.size⟩):(part t ⟨vs⟩ off).run P w=.ok u w:=by
 simp only[part,Sem.run_bind,qU ht,Result.andThen_ok]
 cases h:bG P t
 ·simp[hu h]
 ·have:=ha h
  simp only[if_true,sizeOf,typeInfo,Sem.run_bind]
  simp[hi,this]
theorem Po {s:TypeId} {y:Operand} {f:Nat} (ho:o.op=.field s y f) {fields:Array Field} {fl:Field} (hs:P.underlying s=some (.struct fields)) (hf:fields[f]?=some fl)
  {d:TypeDesc} {i:TypeInfo} (ht:P.underlying fl.type=some d) (hi:P.info? fl.type=some i) {v:AV} (hy:aB x v (ev y)) (hp:Kw fl.offset i.size (bG P fl.type) v):
  dO P x o ev (HQ fl.offset i.size (bG P fl.type) v):=by
 unfold Kw at hp
 split at hp
 ·rename_i cs
  simp only[aB,aG]at hy
  obtain⟨vs,e,h⟩:=hy
  simp only[HQ,x3]
  cases ha:bG P fl.type
  ·obtain⟨h0,h1⟩:=hp
   rcases h1 with h1|h1
   ·rw[ha]at h1;cases h1
   ·obtain⟨c,h2,h3⟩:=h.at_ (i:=fl.offset) (by omega)
    exact⟨c,by simpa[aB]using h3,fun w' _=>by simp[execOp,ho,e,Instr.field,run_underlying hs,hf,asAgg,tL ht hi vs fl.offset (u:=c) (fun _=>h2) (fun h=>by rw[ha]at h;cases h)]⟩
  ·refine⟨.agg ⟨(vs.drop fl.offset).take i.size⟩,?_,fun w' _=>by simp[execOp,ho,e,Instr.field,run_underlying hs,hf,asAgg,tL ht hi vs fl.offset (u:=.agg ⟨(vs.drop fl.offset).take i.size⟩) (fun h=>by rw[ha]at h;cases h) (fun _=>rfl)]⟩
   simp only[if_true,aB]
   exact(h.cut _ _).agg
 ·rename_i cs
  simp only[aB]at hy
  obtain⟨vs,e,h⟩:=hy
  simp only[HQ,BL]
  cases ha:bG P fl.type
  ·obtain⟨h0,h1⟩:=hp
   rcases h1 with h1|h1
   ·rw[ha]at h1;cases h1
   ·obtain⟨c,h2,h3⟩:=h.at_ (i:=fl.offset) (by omega)
    exact⟨c,h3,fun w' _=>by simp[execOp,ho,e,Instr.field,run_underlying hs,hf,asAgg,tL ht hi vs fl.offset (u:=c) (fun _=>h2) (fun h=>by rw[ha]at h;cases h)]⟩
  ·refine⟨.agg ⟨(vs.drop fl.offset).take i.size⟩,?_,fun w' _=>by simp[execOp,ho,e,Instr.field,run_underlying hs,hf,asAgg,tL ht hi vs fl.offset (u:=.agg ⟨(vs.drop fl.offset).take i.size⟩) (fun h=>by rw[ha]at h;cases h) (fun _=>rfl)]⟩
   simp only[if_true]
   exact kP (h.cut _ _)
 ·exact hp.elim
theorem NH {s t:TypeId} {y:Operand} {k:IntKind} {ds:TypeDesc} (ho:o.op=.convert s t y) (hs:P.underlying s=some ds) (ht:P.underlying t=some (.int k)) {v:AV} (hy:aB x v (ev y)) (hp:Fx k v):
  dO P x o ev (Ih k v):=by
 unfold Fx at hp
 split at hp
 ·simp only[aB,aG]at hy
  exact dO.sc rfl fun w'=>by simp[execOp,ho,hy,convert,run_underlying hs,run_underlying ht,Conv.intToInt,jB hp]
 ·exact hp.elim
theorem Pr {s t:TypeId} {y:Operand} {k:IntKind} {ds:TypeDesc} (ho:o.op=.convert s t y) (hs:P.underlying s=some ds) (ht:P.underlying t=some (.int k)) {v:AV} (hy:aB x v (ev y)) (hp:eO v):
  dO P x o ev (Np k v):=by
 unfold eO at hp
 split at hp
 ·simp only[aB,aG]at hy
  exact dO.sc rfl fun w'=>by simp[execOp,ho,hy,convert,run_underlying hs,run_underlying ht,Conv.intToInt]
 ·exact hp.elim
theorem Ab {w:World} {F:Nat→Prop}:∀{ps:List PV} {ns:List Int} {b o:Nat},j9 ps=some ns→aJ w F ps b o→ns.length=ps.length∧∀(j:Nat) c,(ns.map (Value.int .u8))[j]?=some c→w.cell? ⟨b,o+j,none⟩=some c
 | [],ns,b,o,h,_=>by
  simp only[j9,Option.some.injEq]at h;subst h
  exact⟨rfl,fun j c hj=>by simp at hj⟩
 | p::ps,ns,b,o,h,he=>by
  unfold j9 at h
  split at h
  ·cases ‹p::ps=[]›
  ·rename_i n qs e
   injection e with e1 e2;subst e1;subst e2
   split at h
   ·rename_i ms hms
    injection h with h;subst h
    simp only[aJ,aG]at he
    obtain⟨⟨v,h1,h2⟩,h3⟩:=he
    obtain⟨g1,g2⟩:=Ab hms h3
    refine⟨by simp[g1],fun j c hj=>?_⟩
    cases j with
    | zero=>
     simp only[List.map_cons,List.getElem?_cons_zero,Option.some.injEq]at hj
     subst hj;subst h2
     simpa using h1
    | succ j=>
     have:=g2 j c (by simpa using hj)
     rw[show o+(j+1)=o+1+j by omega]
     exact this
   ·cases h
  ·cases h
theorem BX {s t et:TypeId} {y:Operand} (ho:o.op=.convert s t y) (hs:P.underlying s=some (.slice et)) (ht:P.underlying t=some .string) (het:P.underlying et=some (.int .u8)) {ps:List PV} {ns:List Int} (hns:j9 ps=some ns)
  {a:Option Addr} {n c:Nat} (e1:ev y=.slice a n c) (e2:n=ps.length) (h3:0<n→∃b o',a=some ⟨b,o',none⟩∧aJ x.w x.F ps b o'):
  dO P x o ev (CH (.pv (.lst ps))):=by
 simp only[CH,hns]
 refine⟨.string (oO ns),by simp only[aB,aG],fun w' hk=>?_⟩
 have go:∀(ad:Addr),a=some ad→(loadCells ad n).run P w'=.ok (ns.map (Value.int .u8)).toArray w'→(execOp ev o).run P w'=.ok (.value (.string (oO ns))) w':=by
  intro ad had hl
  subst had
  have:=run_bytesToString (P:=P) w' ad n c ns hl
  simp[execOp,ho,e1,convert,run_underlying hs,run_underlying ht,run_underlying het,this,oO]
 rcases Nat.eq_zero_or_pos n with h0|h0
 ·have hps:ps=[]:=List.eq_nil_of_length_eq_zero (by omega)
  subst hps
  simp only[j9,Option.some.injEq]at hns
  subst hns;subst h0
  cases a with
  | none=>simp[execOp,ho,e1,convert,run_underlying hs,run_underlying ht,run_underlying het,Conv.bytesToString,oO]
  | some ad=>
   refine go ad rfl ?_
   simp[loadCells,loadCellsFrom]
 ·obtain⟨b,o',hab,hE⟩:=h3 h0
  obtain⟨g1,g2⟩:=Ab hns hE
  refine go _ hab ?_
  have:=jT (P:=P) (w:=w') b o' (ns.map (Value.int .u8)) (fun j cc hj=>hk.cell (g2 j cc hj))
  rw[List.length_map,g1,←e2]at this
  exact this
theorem Bz {w:World} {F:Nat→Prop}:∀{ps:List PV} {vs:List Value},aE w F ps vs→∀i,i<ps.length→∃v,vs[i]?=some v∧aG w F (ps.getD i default) v
 | [],vs,h,i,hi=>by simp at hi
 | p::ps,vs,h,i,hi=>by
  simp only[aE]at h
  obtain⟨v,r,rfl,h1,h2⟩:=h
  cases i with
  | zero=>exact⟨v,rfl,h1⟩
  | succ i=>
   obtain⟨u,g1,g2⟩:=Bz h2 i (by simpa using hi)
   exact⟨u,by simpa using g1,by simpa using g2⟩
theorem NG {t:TypeId} {y z:Operand} {n:Nat} {e:TypeId} {k:TypeDesc} {i:TypeInfo} (ho:o.op=.index t y z) (ht:P.underlying t=some (.array n e)) (he:P.underlying e=some k) (ha:bG P e=false) (hi:P.info? e=some i) (hi1:i.size=1)
  {u v:AV} (hy:aB x u (ev y)) (hz:aB x v (ev z)) (hp:Fp n u v):dO P x o ev (Fo u v):=by
 unfold Fp at hp
 split at hp
 ·rename_i ps k' m
  simp only[aB,aG]at hy hz
  obtain⟨vs,hy,hvs⟩:=hy
  obtain⟨h0,h1,h2⟩:=hp
  obtain⟨cv,g1,g2⟩:=Bz hvs m.toNat (by omega)
  refine⟨cv,by simpa only[Fo,aB]using g2,fun w' _=>?_⟩
  have e0:(sizeOf e).run P w'=.ok i.size w':=by simp[sizeOf,typeInfo,hi]
  have e1:(part e ⟨vs⟩ (m.toNat*i.size)).run P w'=.ok cv w':=by
   rw[hi1,Nat.mul_one]
   simp[part,qU he,ha,g1]
  simp only[execOp,ho,hy,hz,Instr.index,asIntOf,Sem.run_bind,Sem.run_pure,Result.andThen_ok,run_underlying ht,h0,h1,and_self,if_true,e0,e1]
 ·exact hp.elim
theorem Pl {t:TypeId} {y z:Operand} (ho:o.op=.index t y z) (ht:P.underlying t=some .string) {u v:AV} (hy:aB x u (ev y)) (hz:aB x v (ev z)) (hp:Kn u v):dO P x o ev (Nf u v):=by
 unfold Kn at hp
 split at hp
 ·rename_i s k n
  simp only[aB,aG]at hy hz
  obtain⟨h0,h1⟩:=hp
  have hlt:n.toNat<s.size:=by omega
  have hg:s[n.toNat]?=some s[n.toNat]:=by simp[hlt]
  refine dO.sc rfl fun w'=>?_
  simp only[execOp,ho,hy,hz,Instr.index,asIntOf,Sem.run_bind,Sem.run_pure,Result.andThen_ok,run_underlying ht,h0,if_true,hg]
  have e:s.data.getD n.toNat 0=s[n.toNat]:=by
   have:n.toNat<s.data.size:=hlt
   rw[Array.getD_eq_getD_getElem?,Array.getElem?_eq_getElem this];rfl
  simp[e]
 ·exact hp.elim
end
end Go.Vc

namespace Go.Vc
open Go.RowKit
section
variable {P:Program} {x:Cx} {o:Oper} {ev:Operand→Value}
theorem aJ.take {w:World} {F:Nat→Prop}:∀{xs:List PV} {b o':Nat} (n:Nat),aJ w F xs b o'→aJ w F (xs.take n) b o'
 | [],_,_,n,_=>by simp[aJ]
 | _::_,_,_,0,_=>by simp[aJ]
 | y::xs,b,o',n+1,h=>by
  cases y with
  | agg cs=>simp only[aJ,List.take_succ_cons]at h ⊢;exact⟨h.1,h.2.take n⟩
  | _=>simp only[aJ,List.take_succ_cons]at h ⊢;exact⟨h.1,h.2.take n⟩
theorem aJ.drop {w:World} {F:Nat→Prop}:∀{xs:List PV} {b o' s:Nat} (n:Nat),aJ w F xs b o'→(∀p∈xs,p.cells.length=s)→n≤xs.length→aJ w F (xs.drop n) b (o'+n*s)
 | [],_,_,_,n,_,_,_=>by simp[aJ]
 | _::_,_,_,_,0,h,_,_=>by simpa using h
 | y::xs,b,o',s,n+1,h,hs,hl=>by
  have hw:=hs y (by simp)
  have key:aJ w F xs b (o'+s):=by
   cases y with
   | agg cs=>simp only[aJ]at h;simp only[PV.cells]at hw;rw[←hw];exact h.2
   | _=>simp only[aJ]at h;simp only[PV.cells,List.length_cons,List.length_nil]at hw;rw[←hw];exact h.2
  have:=aJ.drop n key (fun p hp=>hs p (List.mem_cons_of_mem _ hp)) (by simpa using hl)
  have e:o'+(n+1)*s=o'+s+n*s:=by rw[Nat.succ_mul];omega
  rw[e];simpa using this
theorem eP {w:World} {isSlice:Bool} {len cap:Nat} {lo hi:Option Value} {l h:Int} (hlo:lo=none∧l=0∨∃k,lo=some (.int k l)) (hhi:hi=none∧h=len∨∃k,hi=some (.int k h))
  (h0:0≤l) (h1:l≤h) (h2:h≤len) (h3:len≤cap):(Instr.sliceBounds isSlice len cap lo hi none).run P w=.ok (l.toNat,h.toNat,cap) w:=by
 have a1:h≤cap:=by omega
 have a2:0≤h:=by omega
 have a5:l≤(len:Int):=by omega
 rcases hlo with⟨rfl,rfl⟩|⟨k,rfl⟩<;>rcases hhi with⟨rfl,rfl⟩|⟨k',rfl⟩
 ·simp[Instr.sliceBounds]
 ·simp[Instr.sliceBounds,Instr.sliceBound,asIntOf,a1,a2]
 ·simp[Instr.sliceBounds,Instr.sliceBound,asIntOf,a5,h0]
 ·have a6:¬max h 0<l:=by omega
  simp[Instr.sliceBounds,Instr.sliceBound,asIntOf,a1,a2,h0,a6]
theorem LO {e:Env} {σ:St} {a:Act} (hS:SRel e σ x a) {y:Operand} {z:Opd} (hz:Opd.of y=some z) (hc:z.cd σ=true) (hi:eO (z.sv σ)):∃k,a.eval y=.int k (bnd (z.sv σ)):=by
 have:=Opd.of_sv hS hz hc
 unfold eO at hi
 split at hi
 ·rename_i k n he
  rw[he]at this ⊢
  simp only[aB,aG]at this
  exact⟨k,this⟩
 ·exact hi.elim
theorem Pf {e:Env} {σ:St} {t:TypeId} {y:Operand} {lo hi:Option Operand} (ho:o.op=.slice t y lo hi none) {v:AV} (hS:∃a,SRel e σ x a) {s:Nat} {str:Bool} {l h:Int}
  (hlo:lo.map ev=none∧l=0∨∃k,lo.map ev=some (.int k l)) (hhi:hi.map ev=none∧h=dQ v∨∃k,hi.map ev=some (.int k h))
  (hk:str=true∧P.underlying t=some .string∨str=false∧∃et i,P.underlying t=some (.slice et)∧P.info? et=some i∧i.size=s)
  (hy:aB x v (ev y)) (hp:HK σ s str l h v):dO P x o ev (xU l h v):=by
 obtain⟨a,hS⟩:=hS
 unfold HK at hp
 split at hp
 ·rename_i xs
  obtain⟨hstr,h0,h1,h2,h3⟩:=hp
  rcases hk with⟨hs1,_⟩|⟨_,et,i,ht,hi',hsz⟩
  ·rw[hstr]at hs1;cases hs1
  ·simp only[aB,aG]at hy
   obtain⟨ad,n,c,e1,e2,e3,e4⟩:=hy
   simp only[dQ]at hhi
   have hr:∀w':World,(execOp ev o).run P w'=.ok (.value (.slice (if c=l.toNat then ad else ad.map (·.add (l.toNat*s))) (h.toNat-l.toNat) (c-l.toNat))) w':=fun w'=>by
    simp[execOp,ho,e1,Instr.sliceAt,run_underlying ht,Instr.slice,eP (P:=P) (w:=w') (isSlice:=true) (len:=n) (cap:=c) hlo (by rw[e2];exact hhi) h0 h1 (by omega) e3,sizeOf,typeInfo,hi',hsz]
   refine⟨_,?_,fun w' _=>hr w'⟩
   simp only[xU,aB,aG]
   have hlen:h.toNat-l.toNat=((xs.take h.toNat).drop l.toNat).length:=by
    rw[List.length_drop,List.length_take];omega
   have hne:0<h.toNat-l.toNat→0<n∧¬c=l.toNat:=by omega
   refine⟨_,_,_,rfl,hlen,by omega,fun hn=>?_⟩
   obtain⟨b,o',rfl,h5,h6,h7⟩:=e4 (hne hn).1
   rw[if_neg (hne hn).2]
   refine⟨b,o'+l.toNat*s,by simp[iO],h5,h6,?_⟩
   exact(h7.take h.toNat).drop l.toNat (fun p hp=>(h3 p (List.mem_of_mem_take hp)).1) (by rw[List.length_take];omega)
 ·rename_i u
  obtain⟨hstr,h0,h1,h2⟩:=hp
  rcases hk with⟨_,ht⟩|⟨hn,_⟩
  ·simp only[aB,aG]at hy
   simp only[dQ]at hhi
   exact dO.sc rfl fun w'=>by simp[execOp,ho,hy,Instr.sliceAt,run_underlying ht,Instr.slice,eP (P:=P) (w:=w') (isSlice:=false) (len:=u.size) (cap:=u.size) hlo hhi h0 h1 h2 (Nat.le_refl _)]
  ·rw[hstr]at hn;cases hn
 ·rename_i r off m
  obtain⟨hstr,h0,h1,h2,h3⟩:=hp
  rcases hk with⟨hs1,_⟩|⟨_,et,i,ht,hi',hsz⟩
  ·rw[hstr]at hs1;cases hs1
  ·simp only[aB]at hy
   simp only[dQ]at hhi
   rcases hy with⟨hm,hcp,ad,e1⟩|⟨c,hok,e1,h4,h5,h6⟩
   ·have hl:l=0:=by omega
    have hh:h=0:=by omega
    subst hl;subst hh;subst hm
    have hr:∀w':World,(execOp ev o).run P w'=.ok (.value (.slice ad 0 0)) w':=fun w'=>by
     have:=eP (P:=P) (w:=w') (isSlice:=true) (len:=0) (cap:=0) (l:=0) (h:=0) hlo hhi (by omega) (by omega) (by omega) (Nat.le_refl _)
     simp[execOp,ho,e1,Instr.sliceAt,run_underlying ht,Instr.slice,this,sizeOf,typeInfo,hi']
    refine⟨_,?_,fun w' _=>hr w'⟩
    simp only[xU,aB]
    exact .inl ⟨by simp,by simpa using hcp,ad,rfl⟩
   ·have hs:(x.ρ r).s=s:=by
     unfold CI at h3
     split at h3
     ·rename_i s' xs hrow
      injection h3 with h3;subst h3
      have:=hS.st _ _ (aH hrow)
      simp only[Row.rel]at this
      rcases this with⟨h3,_⟩|h3
      ·rw[h3]at hok;cases hok
      ·exact h3.1
     ·rename_i s' xs hrow
      injection h3 with h3;subst h3
      have:=hS.st _ _ (aH hrow)
      simp only[Row.rel]at this
      rcases this with⟨h3,_⟩|h3
      ·rw[h3]at hok;cases hok
      ·exact h3.1
     ·rename_i cells hrow
      injection h3 with h3
      have:=hS.st _ _ (aH hrow)
      simp only[Row.rel]at this
      rw[←h3];exact this.2.1.1
     ·cases h3
    have hr:∀w':World,(execOp ev o).run P w'=.ok (.value (.slice (if c=l.toNat then some ⟨(x.ρ r).blk,(x.ρ r).base+off*(x.ρ r).s,none⟩else some ⟨(x.ρ r).blk,(x.ρ r).base+off*(x.ρ r).s+l.toNat*s,none⟩) (h.toNat-l.toNat) (c-l.toNat))) w':=fun w'=>by
     have:=eP (P:=P) (w:=w') (isSlice:=true) (len:=m) (cap:=c) hlo hhi h0 h1 h2 h4
     simp[execOp,ho,e1,Instr.sliceAt,run_underlying ht,Instr.slice,this,sizeOf,typeInfo,hi',hsz,iO]
    refine⟨_,?_,fun w' _=>hr w'⟩
    simp only[xU,aB]
    by_cases hcl:c=l.toNat
    ·rw[if_pos hcl]
     exact .inl ⟨by omega,fun _=>by omega,_,by rw[show h.toNat-l.toNat=0 by omega,show c-l.toNat=0 by omega]⟩
    ·rw[if_neg hcl]
     refine .inr ⟨c-l.toNat,hok,?_,by omega,by omega,by omega⟩
     rw[hs,Nat.add_mul,Nat.add_assoc]
 ·obtain⟨hstr,rfl,rfl⟩:=hp
  rcases hk with⟨hs1,_⟩|⟨_,et,i,ht,hi',hsz⟩
  ·rw[hstr]at hs1;cases hs1
  ·simp only[aB]at hy
   obtain⟨ad,e1⟩:=hy
   have hr:∀w':World,(execOp ev o).run P w'=.ok (.value (.slice ad 0 0)) w':=fun w'=>by
    have:=eP (P:=P) (w:=w') (isSlice:=true) (len:=0) (cap:=0) (l:=0) (h:=0) hlo hhi (by omega) (by omega) (by omega) (Nat.le_refl _)
    simp[execOp,ho,e1,Instr.sliceAt,run_underlying ht,Instr.slice,this,sizeOf,typeInfo,hi']
   exact⟨_,by simp only[xU,aB];exact⟨ad,rfl⟩,fun w' _=>hr w'⟩
 ·exact hp.elim
end
end Go.Vc

namespace Go.Vc
open Go.RowKit
section
variable {P:Program} {x:Cx} {o:Oper} {ev:Operand→Value}
theorem aE.vrels:∀{ps:List PV} {vs:List Value},aE x.w x.F ps vs→aD x (ps.map .pv) vs
 | [],_,h=>by simpa only[aE,aD,List.map_nil]using h
 | p::ps,_,h=>by
  simp only[aE]at h
  obtain⟨v,r,rfl,h1,h2⟩:=h
  simp only[List.map_cons,aD,aB]
  exact⟨v,r,rfl,h1,h2.vrels⟩
theorem gR {v:AV} {cv:Value} (h:aB x v cv) (ho:Av v=true):aD x v.cells cv.cells.toList:=by
 have one:∀{u:AV} {c:Value},aB x u c→c.cells=#[c]→aD x [u] c.cells.toList:=fun {u c} hu hc=>by
  rw[hc];simp only[aD];exact⟨c,[],rfl,hu,rfl⟩
 cases v with
 | un=>simp[Av]at ho
 | whn c v=>simp[Av]at ho
 | agg cs=>simp only[aB]at h;obtain⟨vs,rfl,h⟩:=h;exact h
 | pv p=>
  cases p with
  | agg cs=>simp only[aB,aG]at h;obtain⟨vs,rfl,h⟩:=h;exact h.vrels
  | sc c=>
   have h':=h
   simp only[aB,aG]at h
   subst h
   cases cv<;>first|(simp[Av]at ho;done)|exact one h' rfl
  | lst xs=>have h':=h;simp only[aB,aG]at h;obtain⟨_,_,_,rfl,_⟩:=h;exact one h' rfl
  | tup xs=>have h':=h;simp only[aB,aG]at h;obtain⟨_,rfl,_⟩:=h;exact one h' rfl
  | fn f xs=>have h':=h;simp only[aB,aG]at h;obtain⟨_,rfl,_⟩:=h;exact one h' rfl
  | pt xs=>have h':=h;simp only[aB,aG]at h;obtain⟨_,_,rfl,_⟩:=h;exact one h' rfl
 | tup vs=>have h':=h;simp only[aB]at h;obtain⟨_,rfl,_⟩:=h;exact one h' rfl
 | e0=>have h':=h;simp only[aB]at h;obtain⟨_,rfl⟩:=h;exact one h' rfl
 | lit xs=>have h':=h;simp only[aB]at h;obtain⟨_,_,_,rfl,_⟩:=h;exact one h' rfl
 | row r off n=>have h':=h;simp only[aB]at h;rcases h with⟨_,_,_,rfl⟩|⟨_,_,rfl,_⟩<;>exact one h' rfl
 | ptr r off=>have h':=h;simp only[aB]at h;subst h;exact one h' rfl
 | rptr r i off=>have h':=h;simp only[aB]at h;subst h;exact one h' rfl
 | eptr xs i off=>have h':=h;simp only[aB]at h;obtain⟨_,_,rfl,_⟩:=h;exact one h' rfl
 | ful xs=>have h':=h;simp only[aB]at h;obtain⟨_,_,rfl,_⟩:=h;exact one h' rfl
 | cptr xs off=>have h':=h;simp only[aB]at h;obtain⟨_,_,rfl,_⟩:=h;exact one h' rfl
 | fn f xs=>have h':=h;simp only[aB]at h;obtain⟨_,rfl,_⟩:=h;exact one h' rfl
 | bnd f xs=>have h':=h;simp only[aB]at h;obtain⟨_,rfl,_⟩:=h;exact one h' rfl
 | mp r=>have h':=h;simp only[aB]at h;subst h;exact one h' rfl
 | it r=>have h':=h;simp only[aB]at h;subst h;exact one h' rfl
theorem aD.length:∀{vs:List AV} {cs:List Value},aD x vs cs→cs.length=vs.length
 | [],_,h=>by simp only[aD]at h;subst h;rfl
 | _::vs,_,h=>by simp only[aD]at h;obtain⟨v,r,rfl,_,h⟩:=h;simp[h.length]
theorem aE.length {w:World} {F:Nat→Prop}:∀{vs:List PV} {cs:List Value},aE w F vs cs→cs.length=vs.length
 | [],_,h=>by simp only[aE]at h;subst h;rfl
 | _::vs,_,h=>by simp only[aE]at h;obtain⟨v,r,rfl,_,h⟩:=h;simp[h.length]
theorem aD.set:∀{vs:List AV} {cs:List Value} {i:Nat} {v:AV} {c:Value},aD x vs cs→aB x v c→aD x (vs.set i v) (cs.set i c)
 | [],_,_,_,_,h,_=>by simp only[aD]at h;subst h;simp[aD]
 | u::vs,_,0,v,c,h,hv=>by
  simp only[aD]at h
  obtain⟨v',r,rfl,h1,h2⟩:=h
  simp only[List.set_cons_zero,aD]
  exact⟨c,r,rfl,hv,h2⟩
 | u::vs,_,i+1,v,c,h,hv=>by
  simp only[aD]at h
  obtain⟨v',r,rfl,h1,h2⟩:=h
  simp only[List.set_cons_succ,aD]
  exact⟨v',r.set i c,rfl,h1,h2.set hv⟩
def cL (cs:List Value) (off:Nat):List Value→List Value
 | []=>cs
 | v::vs=>cL (cs.set off v) (off+1) vs
theorem xL:∀{vs:List AV} {vvs:List Value} {cs:List AV} {cvs:List Value} {off:Nat},aD x vs vvs→aD x cs cvs→aD x (lay cs off vs) (cL cvs off vvs)
 | [],_,_,_,_,h,hc=>by simp only[aD]at h;subst h;exact hc
 | v::vs,_,cs,cvs,off,h,hc=>by
  simp only[aD]at h
  obtain⟨c,r,rfl,h1,h2⟩:=h
  simp only[lay,cL]
  exact xL h2 (hc.set h1)
theorem vC (off:Nat):∀(vs:List Value) (k:Nat) (cs:List Value),((vs.zipIdx k).foldl (fun(cs:Array Value) (q:Value×Nat)=>cs.setIfInBounds (off+q.2) q.1) ⟨cs⟩)=⟨cL cs (off+k) vs⟩
 | [],k,cs=>rfl
 | v::vs,k,cs=>by
  simp only[List.zipIdx_cons,List.foldl_cons,cL]
  have:=vC off vs (k+1) (cs.set (off+k) v)
  rw[show off+(k+1)=off+k+1 by omega]at this
  rw[←this]
  congr 1
  exact List.setIfInBounds_toArray ..
theorem jN:∀(vs:List AV) (cs:List AV) (off:Nat),(lay cs off vs).length=cs.length
 | [],_,_=>rfl
 | v::vs,cs,off=>by simp only[lay,jN vs];simp
theorem fK:∀(vs:List Value) (cs:List Value) (off:Nat),(cL cs off vs).length=cs.length
 | [],_,_=>rfl
 | v::vs,cs,off=>by simp only[cL,fK vs];simp
def d5 (place:Nat→Option (Nat×Nat)):List (Nat×Operand)→List (Nat×Nat×Opd)→Prop
 | [],qs=>qs=[]
 | (i,y)::ps,qs=>∃off n z r,qs=(off,n,z)::r∧place i=some (off,n)∧Opd.of y=some z∧d5 place ps r
theorem y5 {e:Env} {σ:St} {a:Act} (hS:SRel e σ x a) {place:Nat→Option (Nat×Nat)}:∀{ps:List (Nat×Operand)} {qs:List (Nat×Nat×Opd)} {cs:List AV} {cvs:List Value},
  d5 place ps qs→e8 σ (qs.map (·.2.2))=true→JZ σ cs.length qs→aD x cs cvs→
  ∃out,Instr.fill place ⟨cvs⟩ (ps.map fun q=>(q.1,a.eval q.2))=some ⟨out⟩∧aD x (J6 σ qs cs) out
 | [],qs,cs,cvs,h,_,_,hc=>by
  simp only[d5]at h;subst h
  exact⟨cvs,rfl,hc⟩
 | (i,y)::ps,qs,cs,cvs,h,hcd,hp,hc=>by
  simp only[d5]at h
  obtain⟨off,n,z,r,rfl,h1,h2,h3⟩:=h
  simp only[List.map_cons,e8,Bool.and_eq_true]at hcd
  simp only[JZ]at hp
  obtain⟨p1,p2,p3,p4⟩:=hp
  have hv:=Opd.of_sv hS h2 hcd.1
  have hcl:=gR hv p1
  have hlen:(a.eval y).cells.size=n:=by have:=hcl.length;rw[p2]at this;simpa using this
  have hcs:cvs.length=cs.length:=hc.length
  simp only[List.map_cons,Instr.fill,h1]
  rw[if_neg (by simp[hlen];omega)]
  have hf:=vC off (a.eval y).cells.toList 0 cvs
  simp only[Nat.add_zero]at hf
  have hf':((a.eval y).cells.zipIdx.foldl (fun(cs:Array Value) (q:Value×Nat)=>cs.setIfInBounds (off+q.2) q.1) ⟨cvs⟩)=⟨cL cvs off (a.eval y).cells.toList⟩:=by
   rw[←hf,←Array.foldl_toList,Array.toList_zipIdx]
  obtain⟨out,g1,g2⟩:=y5 hS (cs:=lay cs off (z.sv σ).cells) (cvs:=cL cvs off (a.eval y).cells.toList) h3 hcd.2 (by rw[jN];exact p4) (xL hcl hc)
  refine⟨out,?_,g2⟩
  rw[←g1,←hf']
def m6 (P:Program):List Field→Option (List (Nat×Nat))
 | []=>some []
 | f::fs=>match P.info? f.type,m6 P fs with
  | some i,some r=>some ((f.offset,i.size)::r)
  | _,_=>none
theorem zL {w:World}:∀{fs:List Field} {ps:List (Nat×Nat)},m6 P fs=some ps→(fs.mapM fun f=>(Functor.map (Prod.mk f.offset) (sizeOf f.type):Sem (Nat×Nat))).run P w=.ok ps w
 | [],ps,h=>by simp only[m6,Option.some.injEq]at h;subst h;simp
 | f::fs,ps,h=>by
  simp only[m6]at h
  split at h
  ·rename_i i r h1 h2
   injection h with h;subst h
   simp only[List.mapM_cons,Sem.run_bind]
   have e1:(Functor.map (Prod.mk f.offset) (sizeOf f.type):Sem (Nat×Nat)).run P w=.ok (f.offset,i.size) w:=by simp[sizeOf,typeInfo,h1]
   simp only[e1,Result.andThen_ok,zL h2,Sem.run_pure]
  ·cases h
theorem Ra {e:Env} {σ:St} {a:Act} (hS:SRel e σ x a) {t:TypeId} {parts:Array (Nat×Operand)} (ho:o.op=.build t parts) {fields:Array Field} (ht:P.underlying t=some (.struct fields))
  {i:TypeInfo} {zv:Value} (hi:P.info? t=some i) (hz:i.zero=some zv) {zero:List AV} (hzero:aD x zero zv.cells.toList) {bP:List (Nat×Nat)}
  (hpl:m6 P fields.toList=some bP) {qs:List (Nat×Nat×Opd)} (hq:d5 (fun i=>bP[i]?) parts.toList qs)
  (hcd:e8 σ (qs.map (·.2.2))=true) (hp:JZ σ zero.length qs):dO P x o a.eval (uP (J6 σ qs zero)):=by
 obtain⟨out,h1,h2⟩:=y5 hS hq hcd hp hzero
 refine⟨.agg ⟨out⟩,zZ h2,fun w' _=>?_⟩
 have e1:(parts.map fun q=>(q.1,a.eval q.2)).toList=parts.toList.map fun q=>(q.1,a.eval q.2):=by simp
 have h1':Instr.fill (fun i=>bP[i]?) zv.cells (parts.toList.map fun q=>(q.1,a.eval q.2))=some ⟨out⟩:=h1
 have hm:(fields.mapM fun f=>(Functor.map (Prod.mk f.offset) (sizeOf f.type):Sem (Nat×Nat))).run P w'=.ok ⟨bP⟩ w':=by
  have:=zL (w:=w') hpl
  rw[show fields=fields.toList.toArray by simp,List.mapM_toArray]
  simp[this]
 simp only[execOp,ho,Instr.build,Sem.run_bind,zeroValue,typeInfo]
 simp[hi,hz,run_underlying ht,hm,h1']
theorem d5.mono {p q:Nat→Option (Nat×Nat)} (h:∀i r,p i=some r→q i=some r):∀{ps:List (Nat×Operand)} {qs:List (Nat×Nat×Opd)},d5 p ps qs→d5 q ps qs
 | [],_,hp=>by simpa only[d5]using hp
 | (i,y)::ps,_,hp=>by
  simp only[d5]at hp ⊢
  obtain⟨off,n,z,r,e1,e2,e3,e4⟩:=hp
  exact⟨off,n,z,r,e1,h _ _ e2,e3,d5.mono h e4⟩
theorem Pk {e:Env} {σ:St} {a:Act} (hS:SRel e σ x a) {t ea:TypeId} {n:Nat} {parts:Array (Nat×Operand)} (ho:o.op=.build t parts) (ht:P.underlying t=some (.array n ea)) {i ie:TypeInfo} {zv:Value} (hi:P.info? t=some i) (hie:P.info? ea=some ie) (hz:i.zero=some zv)
  {zero:List AV} (hzero:aD x zero zv.cells.toList) {qs:List (Nat×Nat×Opd)} (hq:d5 (fun i=>((List.range n).map fun j=>(j*ie.size,ie.size))[i]?) parts.toList qs)
  (hcd:e8 σ (qs.map (·.2.2))=true) (hp:JZ σ zero.length qs):dO P x o a.eval (uP (J6 σ qs zero)):=by
 have hq2:d5 (fun i=>some (i*ie.size,ie.size)) parts.toList qs:=hq.mono fun j r hj=>by
  simp only[List.getElem?_map,Option.map_eq_some_iff]at hj
  obtain⟨m,hm,rfl⟩:=hj
  rw[List.getElem?_range]at hm
  ·injection hm with hm;subst hm;rfl
  ·apply Classical.byContradiction
   intro hno
   rw[List.getElem?_eq_none (by simpa using hno)]at hm
   cases hm
 obtain⟨out,h1,h2⟩:=y5 hS hq2 hcd hp hzero
 refine⟨.agg ⟨out⟩,zZ h2,fun w' _=>?_⟩
 have e1:(parts.map fun q=>(q.1,a.eval q.2)).toList=parts.toList.map fun q=>(q.1,a.eval q.2):=by simp
 have h1':Instr.fill (fun i=>some (i*ie.size,ie.size)) zv.cells (parts.toList.map fun q=>(q.1,a.eval q.2))=some ⟨out⟩:=h1
 have e2:(sizeOf ea).run P w'=.ok ie.size w':=by simp[sizeOf,typeInfo,hie]
 simp only[execOp,ho,Instr.build,Sem.run_bind,zeroValue,typeInfo]
 simp[hi,hz,run_underlying ht,e2,h1']
end
end Go.Vc

namespace Go.Vc
open Go.RowKit
section
variable {P:Program} {x:Cx} {o:Oper} {ev:Operand→Value}
def fA:List Operand→Option (List Opd)
 | []=>some []
 | y::ys=>match Opd.of y,fA ys with
  | some z,some zs=>some (z::zs)
  | _,_=>none
theorem iK {e:Env} {σ:St} {a:Act} (hS:SRel e σ x a):∀{ys:List Operand} {zs:List Opd},fA ys=some zs→e8 σ zs=true→aD x (eD σ zs) (ys.map a.eval)
 | [],zs,h,_=>by simp only[fA,Option.some.injEq]at h;subst h;simp[eD,aD]
 | y::ys,zs,h,hc=>by
  simp only[fA]at h
  split at h
  ·rename_i z zs' h1 h2
   injection h with h;subst h
   simp only[e8,Bool.and_eq_true]at hc
   simp only[eD,List.map_cons,aD]
   exact⟨_,_,rfl,Opd.of_sv hS h1 hc.1,iK hS h2 hc.2⟩
  ·cases h
theorem Ps {e:Env} {σ:St} {a:Act} (hS:SRel e σ x a) {f:FuncId} {captured:Array Operand} (ho:o.op=.makeFunc (.func f) #[] captured) {zs:List Opd} (hz:fA captured.toList=some zs)
  (hc:e8 σ zs=true):dO P x o a.eval (uS (eD σ zs) f):=by
 have h:=iK hS hz hc
 refine⟨.func (.func f) #[] ⟨captured.toList.map a.eval⟩,?_,fun w' _=>by simp[execOp,ho,Instr.makeFunc];exact Array.toList_inj.1 (by simp)⟩
 unfold uS
 split
 ·rename_i ps hp
  simp only[aB,aG]
  exact⟨_,rfl,dN hp h⟩
 ·simp only[aB]
  exact⟨_,rfl,h⟩
theorem Pu {e:Env} {σ:St} {a:Act} (hS:SRel e σ x a) {f:FuncId} {first:Array Operand} (ho:o.op=.makeFunc (.func f) first #[]) {zs:List Opd} (hz:fA first.toList=some zs)
  (hc:e8 σ zs=true):dO P x o a.eval (.bnd f (eD σ zs)):=by
 have h:=iK hS hz hc
 refine⟨.func (.func f) ⟨first.toList.map a.eval⟩ #[],?_,fun w' _=>by simp[execOp,ho,Instr.makeFunc];exact Array.toList_inj.1 (by simp)⟩
 simp only[aB]
 exact⟨_,rfl,h⟩
theorem aO.list {cs:List AV} {b o':Nat} (h:aO x cs b o'):∃vs,aD x cs vs∧aV x.w b o' vs:=by
 obtain⟨vs,_,h2,h3⟩:=h.cut 0 cs.length (by omega)
 exact⟨vs,by simpa using h2,by simpa using h3⟩
theorem aO.of:∀{cs:List AV} {vs:List Value} {b o':Nat},aD x cs vs→aV x.w b o' vs→aO x cs b o'
 | [],_,_,_,_,_=>by simp only[aO]
 | c::cs,vs,b,o',h,hc=>by
  simp only[aD]at h
  obtain⟨v,r,rfl,h1,h2⟩:=h
  simp only[aO]
  refine⟨⟨v,by simpa using hc 0 v rfl,h1⟩,aO.of h2 fun j c' hj=>?_⟩
  have:=hc (j+1) c' (by simpa using hj)
  rw[←this];congr 2;omega
theorem aN.of {w:World} {F:Nat→Prop}:∀{cs:List PV} {vs:List Value} {b o':Nat},aE w F cs vs→aV w b o' vs→aN w F cs b o'
 | [],_,_,_,_,_=>by simp only[aN]
 | c::cs,vs,b,o',h,hc=>by
  simp only[aE]at h
  obtain⟨v,r,rfl,h1,h2⟩:=h
  simp only[aN]
  refine⟨⟨v,by simpa using hc 0 v rfl,h1⟩,aN.of h2 fun j c' hj=>?_⟩
  have:=hc (j+1) c' (by simpa using hj)
  rw[←this];congr 2;omega
theorem aV.left {w:World} {b o':Nat} {u v:List Value} (h:aV w b o' (u++v)):aV w b o' u:=fun j c hj=>h j c (by
 have:=(List.getElem?_eq_some_iff.1 hj).1
 rw[List.getElem?_append_left this];exact hj)
theorem aV.right {w:World} {b o':Nat} {u v:List Value} (h:aV w b o' (u++v)):aV w b (o'+u.length) v:=fun j c hj=>by
 have:=h (u.length+j) c (by rw[List.getElem?_append_right (by omega)];simpa using hj)
 rw[←this];congr 2;omega
theorem aV.of_heap {w:World} {b:Nat} {cs:List Value} {t:TypeId} {fz:Nat×Nat} (h:w.heap[b]?=some (.cells ⟨cs⟩ t fz)):aV w b 0 cs:=fun j c hj=>by
 simp only[World.cell?,h,Nat.zero_add]
 simpa using hj
theorem aV.off {w:World} {b o' k:Nat} {cs:List Value} (h:aV w b o' cs):aV w b (o'+k) (cs.drop k):=fun j c hj=>by
 have:=h (k+j) c (by simpa using hj)
 rw[←this];congr 2;omega
def Value.allCells:List Value→List Value
 | []=>[]
 | v::vs=>v.cells.toList++Value.allCells vs
theorem aS.of:∀{vs:List AV} {cvs:List Value} {b o':Nat},aD x vs cvs→(∀v∈vs,Av v=true)→aV x.w b o' (Value.allCells cvs)→aS x vs b o'
 | [],_,_,_,_,_,_=>by simp only[aS]
 | v::vs,_,b,o',h,ho,hc=>by
  simp only[aD]at h
  obtain⟨c,r,rfl,h1,h2⟩:=h
  simp only[Value.allCells]at hc
  have hcr:=gR h1 (ho v (by simp))
  have hl:=hcr.length
  have rest:=aS.of h2 (fun u hu=>ho u (List.mem_cons_of_mem _ hu)) hc.right
  rw[hl]at rest
  have h0:=aO.of hcr hc.left
  by_cases g1:∃cs,v=.agg cs
  ·obtain⟨cs,rfl⟩:=g1
   simp only[aS];exact⟨h0,rest⟩
  by_cases g2:∃cs,v=.pv (.agg cs)
  ·obtain⟨cs,rfl⟩:=g2
   simp only[aS]
   simp only[aB,aG]at h1
   obtain⟨us,rfl,h1⟩:=h1
   refine⟨aN.of h1 hc.left,?_⟩
   simpa[AV.cells,PV.cells]using rest
  have e:v.cells=[v]:=by
   cases v with
   | agg cs=>exact absurd ⟨cs,rfl⟩ g1
   | pv p=>
    cases p with
    | agg cs=>exact absurd ⟨cs,rfl⟩ g2
    | _=>rfl
   | _=>rfl
  rw[e]at h0 rest
  rw[gO (fun cs e=>g1 ⟨cs,e⟩) (fun cs e=>g2 ⟨cs,e⟩)]
  simp only[aO,and_true]at h0
  exact⟨h0,by simpa using rest⟩
theorem aS.pure:∀{vs:List AV} {ps:List PV} {b o':Nat},cH vs=some ps→aS x vs b o'→aJ x.w x.F ps b o'
 | [],ps,_,_,h,_=>by simp only[cH,Option.some.injEq]at h;subst h;simp only[aJ]
 | v::vs,ps,b,o',h,hA=>by
  cases v with
  | pv p=>
   simp only[cH]at h
   split at h
   ·rename_i qs hq
    injection h with h;subst h
    cases p with
    | agg cs=>simp only[aS]at hA;simp only[aJ];exact⟨hA.1,aS.pure hq hA.2⟩
    | _=>simp only[aS]at hA;simp only[aJ];exact⟨by simpa only[aB]using hA.1,aS.pure hq hA.2⟩
   ·cases h
  | e0=>
   simp only[cH]at h
   split at h
   ·rename_i qs hq
    injection h with h;subst h
    simp only[aS]at hA
    simp only[aJ]
    obtain⟨⟨c,h1,h2⟩,h3⟩:=hA
    simp only[aB]at h2
    obtain⟨ad,rfl⟩:=h2
    exact⟨⟨_,h1,by simp only[aG];exact⟨ad,0,0,rfl,rfl,Nat.le_refl _,fun hn=>absurd hn (by omega)⟩⟩,aS.pure hq h3⟩
   ·cases h
  | _=>simp[cH]at h
theorem wN:∀(c pre rest:List Value),c.length≤rest.length→cL (pre++rest) pre.length c=pre++c++rest.drop c.length
 | [],pre,rest,_=>by simp[cL]
 | v::c,pre,[],h=>by simp at h
 | v::c,pre,u::rest,h=>by
  simp only[cL]
  have e:(pre++u::rest).set pre.length v=(pre++[v])++rest:=by simp
  have:=wN c (pre++[v]) rest (by simpa using h)
  rw[e]
  simp only[List.length_append,List.length_cons,List.length_nil,Nat.zero_add]at this
  rw[this];simp
theorem Ae {s:Nat}:∀(vs:List Value) (j:Nat) (pre rest:List Value),pre.length=j*s→rest.length=vs.length*s→(∀v∈vs,v.cells.size=s)→
  Instr.fill (fun i=>some (i*s,s)) ⟨pre++rest⟩ ((vs.zipIdx j).map fun q=>(q.2,q.1))=some ⟨pre++Value.allCells vs⟩
 | [],j,pre,rest,_,hr,_=>by
  have:rest=[]:=List.eq_nil_of_length_eq_zero (by simpa using hr)
  subst this
  simp[Instr.fill,Value.allCells]
 | v::vs,j,pre,rest,hp,hr,hs=>by
  have h1:=hs v (by simp)
  have h2:(vs.length+1)*s=vs.length*s+s:=Nat.succ_mul _ _
  simp only[List.length_cons]at hr
  simp only[List.zipIdx_cons,List.map_cons,Instr.fill]
  rw[if_neg (by simp[h1,hp];omega)]
  have hf:=vC (j*s) v.cells.toList 0 (pre++rest)
  simp only[Nat.add_zero]at hf
  have hf':(v.cells.zipIdx.foldl (fun(cs:Array Value) (q:Value×Nat)=>cs.setIfInBounds (j*s+q.2) q.1) ⟨pre++rest⟩)=⟨cL (pre++rest) (j*s) v.cells.toList⟩:=by
   rw[←hf,←Array.foldl_toList,Array.toList_zipIdx]
  have hl:v.cells.toList.length=s:=by simpa using h1
  rw[hf',←hp,wN _ _ _ (by rw[hl];omega),hl]
  have:=Ae vs (j+1) (pre++v.cells.toList) (rest.drop s) (by simp[hp,h1,Nat.succ_mul]) (by simp;omega) (fun u hu=>hs u (List.mem_cons_of_mem _ hu))
  rw[this]
  simp[Value.allCells]
theorem oS {s:Nat}:∀(vs:List Value),(∀v∈vs,v.cells.size=s)→(Value.allCells vs).length=vs.length*s
 | [],_=>by simp[Value.allCells]
 | v::vs,h=>by
  have h1:=h v (by simp)
  simp only[Value.allCells,List.length_append,oS vs fun u hu=>h u (List.mem_cons_of_mem _ hu),List.length_cons,Nat.succ_mul]
  simp[h1];omega
theorem Ar {w:World} {t et:TypeId} {i:TypeInfo} {zv:Value} (ht:P.underlying t=some (.slice et)) (hi:P.info? et=some i) (hz:i.zero=some zv) (hs:0<i.size) (vs:List Value)
  (hv:∀v∈vs,v.cells.size=i.size) (hn:vs.length*i.size≤16777216):
  (Instr.buildSlice t vs.length ((vs.zipIdx).map fun q=>(q.2,q.1)).toArray).run P w=.ok (.slice (some ⟨w.heap.size,0,none⟩) vs.length vs.length) (w.alloc (.cells ⟨Value.allCells vs⟩ et)):=by
 have hlen:∀zero:Array Value,((Array.range (vs.length*i.size)).map (fun k=>zero[k%zero.size]!)).toList.length=vs.length*i.size:=by intro zero;simp
 have hfill:∀c:Array Value,c.toList.length=vs.length*i.size→Instr.fill (fun k=>some (k*i.size,i.size)) c ((vs.zipIdx).map fun q=>(q.2,q.1))=some ⟨Value.allCells vs⟩:=fun c hc=>by
  have:=Ae (s:=i.size) vs 0 [] c.toList (by simp) hc hv
  simpa using this
 simp only[Instr.buildSlice,Sem.run_bind,run_underlying ht,Result.andThen_ok,sizeOf,typeInfo]
 by_cases h0:vs.length*i.size=0
 ·have:vs=[]:=by
   rcases Nat.mul_eq_zero.1 h0 with h|h
   ·exact List.eq_nil_of_length_eq_zero h
   ·omega
  subst this
  simp[hi,Instr.fill,Value.allCells,newRow,newObj,Sem.run]
  congr 2
  exact Array.eq_empty_of_size_eq_zero (by simp)
 ·have hgt:¬(2^24<vs.length*i.size):=by omega
  simp[hi,hgt,h0,zeroValue,typeInfo,hz,hfill,newRow,newObj,Sem.run]
def cT (P:Program):Nat→List Field→Option (List Nat)
 | _,[]=>some []
 | i,f::fs=>if f.name ≠ "_"∧f.offset=i then match P.underlying f.type,cT P (i+1) fs with
   | some (.int _),some r=>some (0::r)
   | some .string,some r=>some (1::r)
   | some .bool,some r=>some (2::r)
   | _,_=>none
  else none
theorem fU {w:World} {t:TypeId} {d:TypeDesc} (ht:P.underlying t=some d) (ha:bG P t=false) {cs:Array Value} {i:Nat} {v:Value} (hv:cs[i]?=some v):(part t cs i).run P w=.ok v w:=by
 simp[part,qU ht,ha,hv]
theorem u5 {ps qs:List PV} (h:dL [] ps qs):ps=[]∧qs=[]:=by
 unfold dL at h;split at h<;>simp_all
theorem tH {r:List Nat} {ps qs:List PV} (h:dL (0::r) ps qs):∃k a ps' b qs',ps=.sc (.int k a)::ps'∧qs=.sc (.int k b)::qs'∧dL r ps' qs':=by
 unfold dL at h;split at h<;>first|exact h.elim|(obtain⟨rfl,h⟩:=h;injections;subst_vars;exact⟨_,_,_,_,_,rfl,rfl,h⟩)|simp_all
theorem Cg {r:List Nat} {ps qs:List PV} (h:dL (1::r) ps qs):∃a ps' b qs',ps=.sc (.string a)::ps'∧qs=.sc (.string b)::qs'∧dL r ps' qs':=by
 unfold dL at h;split at h<;>first|exact h.elim|(injections;subst_vars;exact⟨_,_,_,_,rfl,rfl,h⟩)|simp_all
theorem Cf {r:List Nat} {ps qs:List PV} (h:dL (2::r) ps qs):∃a ps' b qs',ps=.sc (.bool a)::ps'∧qs=.sc (.bool b)::qs'∧dL r ps' qs':=by
 unfold dL at h;split at h<;>first|exact h.elim|(injections;subst_vars;exact⟨_,_,_,_,rfl,rfl,h⟩)|simp_all
theorem oH {w:World} {W:World} {F:Nat→Prop} (n:Nat):∀(fs:List Field) (i:Nat) (ks:List Nat) (ps qs:List PV) (us vs us0 vs0:List Value),cT P i fs=some ks→dL ks ps qs→aE W F ps us→aE W F qs vs→
  us0.length=i→vs0.length=i→(Op.eqFields (n+1) ⟨us0++us⟩ ⟨vs0++vs⟩ fs).run P w=.ok (dP ps qs) w
 | [],i,ks,ps,qs,us,vs,us0,vs0,hk,hs,_,_,_,_=>by
  simp only[cT,Option.some.injEq]at hk
  subst hk
  obtain⟨rfl,rfl⟩:=u5 hs
  simp[Op.eqFields,dP]
 | f::fs,i,ks,ps,qs,us,vs,us0,vs0,hk,hs,hu,hv,hl,hl'=>by
  simp only[cT]at hk
  split at hk
  ·rename_i hf
   have step:∀{d:TypeDesc} {r:List Nat} {p q:PV} {ps' qs':List PV} (b:Bool),P.underlying f.type=some d→bG P f.type=false→cT P (i+1) fs=some r→
     ps=p::ps'→qs=q::qs'→dL r ps' qs'→(∀u v,aG W F p u→aG W F q v→(Op.equalIn (n+1) f.type u v).run P w=.ok b w)→dP ps qs=(b&&dP ps' qs')→
     (Op.eqFields (n+1) ⟨us0++us⟩ ⟨vs0++vs⟩ (f::fs)).run P w=.ok (dP ps qs) w:=by
    intro d r p q ps' qs' b hd ha hr hps hqs hsr heq hval
    subst hps;subst hqs
    simp only[aE]at hu hv
    obtain⟨u,ur,rfl,hu1,hu2⟩:=hu
    obtain⟨v,vr,rfl,hv1,hv2⟩:=hv
    have ih:=oH (w:=w) n fs (i+1) r ps' qs' ur vr (us0++[u]) (vs0++[v]) hr hsr hu2 hv2 (by simp[hl]) (by simp[hl'])
    have e1:(part f.type ⟨us0++u::ur⟩ f.offset).run P w=.ok u w:=fU hd ha (by rw[hf.2,←hl];simp)
    have e2:(part f.type ⟨vs0++v::vr⟩ f.offset).run P w=.ok v w:=fU hd ha (by rw[hf.2,←hl'];simp)
    simp only[Op.eqFields,hf.1,ne_eq,not_false_eq_true,if_true,Sem.run_bind,e1,e2,Result.andThen_ok,heq u v hu1 hv1]
    rw[hval]
    cases b
    ·simp
    ·simpa using ih
   split at hk
   ·rename_i k r hd hr
    injection hk with hk;subst hk
    obtain⟨ka,a,ps',b,qs',h2,h3,hs'⟩:=tH hs
    refine step (decide (a=b)) hd (by simp[bG,hd]) hr h2 h3 hs' (fun u v hu hv=>?_) (by rw[h2,h3];rfl)
    simp only[aG]at hu hv
    subst hu;subst hv
    rw[run_equalIn_int w n f.type ka k a b hd]
    rfl
   ·rename_i r hd hr
    injection hk with hk;subst hk
    obtain⟨a,ps',b,qs',h2,h3,hs'⟩:=Cg hs
    refine step (decide (a=b)) hd (by simp[bG,hd]) hr h2 h3 hs' (fun u v hu hv=>?_) (by rw[h2,h3];rfl)
    simp only[aG]at hu hv
    subst hu;subst hv
    rw[run_equalIn_string w n f.type a b hd]
    simp[toList_eq]
   ·rename_i r hd hr
    injection hk with hk;subst hk
    obtain⟨a,ps',b,qs',h2,h3,hs'⟩:=Cf hs
    refine step (decide (a=b)) hd (by simp[bG,hd]) hr h2 h3 hs' (fun u v hu hv=>?_) (by rw[h2,h3];rfl)
    simp only[aG]at hu hv
    subst hu;subst hv
    rw[run_equalIn_bool' w n f.type a b hd]
    cases a<;>cases b<;>rfl
   ·cases hk
  ·cases hk
theorem Mb {neg:Bool} {t t':TypeId} {y z:Operand} (ho:o.op=.binOp (if neg then .neq else .eql) t y z t') {fields:Array Field} (ht:P.underlying t=some (.struct fields)) {ks:List Nat}
  (hk:cT P 0 fields.toList=some ks) (h1:P.stoodInHeld t=false) (h2:P.eqGuardType P.depth t=false) {u v:AV} (hy:aB x u (ev y)) (hz:aB x v (ev z)) (hp:Gg ks u v):dO P x o ev (Ke neg u v):=by
 unfold Gg at hp
 split at hp
 ·rename_i ps qs
  simp only[aB,aG]at hy hz
  obtain⟨us,hy,hu⟩:=hy
  obtain⟨vs,hz,hv⟩:=hz
  have hf:P.underlying t=some (.struct (P.fieldsOf t)):=by simp[Program.fieldsOf,ht]
  have he:∀w':World,(Op.equalIn 10000 t (.agg ⟨us⟩) (.agg ⟨vs⟩)).run P w'=.ok (dP ps qs) w':=fun w'=>by
   rw[run_equalIn_struct w' 9999 t _ _ hf h1]
   have hf':P.fieldsOf t=fields:=by simp[Program.fieldsOf,ht]
   rw[hf']
   exact oH 9998 fields.toList 0 ks ps qs us vs [] [] hk hp hu hv rfl rfl
  cases neg
  ·exact dO.sc rfl fun w'=>by
    simp only[execOp,ho,hy,hz,Bool.false_eq_true,if_false,Sem.run_bind,run_eqGuard_agg w' .eql t y z _ _ h2,run_eql_struct,he,Result.andThen_ok]
    simp
  ·exact dO.sc rfl fun w'=>by
    simp only[execOp,ho,hy,hz,if_true,Sem.run_bind,run_eqGuard_agg w' .neq t y z _ _ h2,run_neq_struct,he,Result.andThen_ok]
    simp
 ·exact hp.elim
theorem OL {mx:Bool} {y z:Operand} {ts:Array TypeId} (ho:o.op=.call { callee:=.builtin (if mx then .max else .min),args:=#[y,z],argTypes:=ts }) {u v:AV} (hy:aB x u (ev y)) (hz:aB x v (ev z)) (hp:QX u v):
  dO P x o ev (Q6 mx u v):=by
 unfold QX at hp
 split at hp
 ·rename_i k a k' b
  simp only[aB,aG]at hy hz
  cases mx
  ·exact dO.sc rfl fun w'=>by simp[execOp,ho,hy,hz,resolve,invoke,builtin,run_min_int2]
  ·exact dO.sc rfl fun w'=>by simp[execOp,ho,hy,hz,resolve,invoke,builtin,run_max_int2]
 ·exact hp.elim
end
end Go.Vc

namespace Go.Vc
open Go.RowKit
set_option linter.constructorNameAsVariable false
set_option linter.unusedSimpArgs false
section
variable {P:Program} {x:Cx} {o:Oper} {ev:Operand→Value}
def xY (P:Program) (kt:TypeId):Kk→Prop
 | .int=>∃k,P.underlying kt=some (.int k)
 | .str=>P.underlying kt=some .string
 | .st ks=>(∃fs,P.underlying kt=some (.struct fs)∧cT P 0 fs.toList=some ks∧P.stoodInHeld kt=false)∨
   (∃n e k i,P.underlying kt=some (.array n e)∧P.underlying e=some (.int k)∧P.info? e=some i∧i.size=1∧ks=List.replicate n 0)
theorem zK {w:World} {F:Nat→Prop}:∀{ks:List Nat} {ps qs:List PV} {us vs:List Value},dL ks ps qs→dP ps qs=true→aE w F ps us→aE w F qs vs→us=vs∧∀n,∀u∈us,Instr.sameBits n u u=true
 | [],ps,qs,us,vs,h,_,h1,h2=>by
  obtain⟨rfl,rfl⟩:=u5 h
  simp only[aE]at h1 h2
  subst h1;subst h2
  exact⟨rfl,fun n u hu=>by cases hu⟩
 | n::ks,ps,qs,us,vs,h,hv,h1,h2=>by
  have fin:∀{v v':Value} {p q:PV} {ps' qs':List PV},p=.sc v→q=.sc v'→v=v'→(∀n,Instr.sameBits n v v=true)→ps=p::ps'→qs=q::qs'→dL ks ps' qs'→dP ps' qs'=true→
    us=vs∧∀n,∀u∈us,Instr.sameBits n u u=true:=by
   intro v v' p q ps' qs' hp hq hvv hsb hps hqs hs hv'
   subst hp;subst hq;subst hvv;subst hps;subst hqs
   simp only[aE,aG]at h1 h2
   obtain⟨u,ur,rfl,rfl,h1⟩:=h1
   obtain⟨u',ur',rfl,rfl,h2⟩:=h2
   obtain⟨i1,i2⟩:=zK hs hv' h1 h2
   subst i1
   refine⟨rfl,fun n y hy=>?_⟩
   rcases List.mem_cons.1 hy with rfl|hy
   ·exact hsb n
   ·exact i2 n y hy
  match n,h with
  | 0,h=>
   obtain⟨k,a,ps',b,qs',rfl,rfl,h'⟩:=tH h
   simp only[dP,Bool.and_eq_true,decide_eq_true_eq]at hv
   exact fin rfl rfl (by rw[hv.1]) (fun n=>by simp[Instr.sameBits,beq_toListBytes]) rfl rfl h' hv.2
  | 1,h=>
   obtain⟨a,ps',b,qs',rfl,rfl,h'⟩:=Cg h
   simp only[dP,Bool.and_eq_true,decide_eq_true_eq]at hv
   exact fin rfl rfl (by rw[hv.1]) (fun n=>by simp[Instr.sameBits,beq_toListBytes]) rfl rfl h' hv.2
  | 2,h=>
   obtain⟨a,ps',b,qs',rfl,rfl,h'⟩:=Cf h
   simp only[dP,Bool.and_eq_true,decide_eq_true_eq]at hv
   exact fin rfl rfl (by rw[hv.1]) (fun n=>by simp[Instr.sameBits,beq_toListBytes]) rfl rfl h' hv.2
  | n+3,h=>unfold dL at h;split at h<;>simp_all
theorem t8 {kk:Kk} {k q:PV} (h:cG k q=true) (hl:iI kk k q) {w:World} {F:Nat→Prop} {kv qv:Value} (r1:aG w F k kv) (r2:aG w F q qv):Instr.sameBits 10000 qv kv=true:=by
 unfold iI at hl
 split at hl
 ·rename_i j a j' b
  subst hl
  simp only[aG]at r1 r2
  subst r1;subst r2
  have:a=b:=by simpa[cG]using h
  subst this
  simp[Instr.sameBits]
 ·rename_i a b
  simp only[aG]at r1 r2
  subst r1;subst r2
  have:a=b:=by simpa[cG]using h
  subst this
  simp[Instr.sameBits,beq_toListBytes]
 ·rename_i ks ps qs
  simp only[aG]at r1 r2
  obtain⟨us,rfl,h1⟩:=r1
  obtain⟨vs,rfl,h2⟩:=r2
  have hv:dP ps qs=true:=by simpa[cG]using h
  obtain⟨rfl,hb⟩:=zK hl hv h1 h2
  show((⟨us⟩:Array Value).size==(⟨us⟩:Array Value).size&&(us.zip us).all fun(x,y)=>Instr.sameBits 9999 x y)=true
  simp only[beq_self_eq_true,Bool.true_and,List.all_eq_true]
  intro ⟨a,b⟩ hab
  have:a=b:=by
   clear hb hl h h1 h2 hv
   induction us with
   | nil=>cases hab
   | cons u us ih=>
    rw[List.zip_cons_cons]at hab
    rcases List.mem_cons.1 hab with hab|hab
    ·injection hab with e1 e2;rw[e1,e2]
    ·exact ih hab
  subst this
  exact hb 9999 a (List.of_mem_zip hab).1
 ·exact hl.elim
theorem oR {w:World} {W:World} {F:Nat→Prop} (em:Bool) (n:Nat):∀(fs:List Field) (i:Nat) (ks:List Nat) (ps:List PV) (us us0:List Value),cT P i fs=some ks→dL ks ps ps→aE W F ps us→us0.length=i→
  (do for f in fs do
        if f.name ≠ "_" then Instr.checkKey em (n+1) f.type (←part f.type ⟨us0++us⟩ f.offset):Sem Unit).run P w=.ok () w
 | [],i,ks,ps,us,us0,hk,hs,_,_=>by simp
 | f::fs,i,ks,ps,us,us0,hk,hs,hu,hl=>by
  simp only[cT]at hk
  split at hk
  ·rename_i hf
   have step:∀{d:TypeDesc} {r:List Nat} {p:PV} {ps':List PV},P.underlying f.type=some d→bG P f.type=false→(match d with|.int _=>True|.string=>True|.bool=>True|_=>False)→cT P (i+1) fs=some r→
     ps=p::ps'→dL r ps' ps'→
     (do for f in f::fs do
           if f.name ≠ "_" then Instr.checkKey em (n+1) f.type (←part f.type ⟨us0++us⟩ f.offset):Sem Unit).run P w=.ok () w:=by
    intro d r p ps' hd ha hpl hr hps hsr
    subst hps
    simp only[aE]at hu
    obtain⟨u,ur,rfl,hu1,hu2⟩:=hu
    have ih:=oR (w:=w) em n fs (i+1) r ps' ur (us0++[u]) hr hsr hu2 (by simp[hl])
    have e1:(part f.type ⟨us0++u::ur⟩ f.offset).run P w=.ok u w:=fU hd ha (by rw[hf.2,←hl];simp)
    have e2:(Instr.checkKey em (n+1) f.type u).run P w=.ok () w:=by
     cases d<;>simp only at hpl<;>first|exact hpl.elim|(simp[Instr.checkKey,run_underlying hd])
    simp only[List.forIn_cons,Sem.run_bind,hf.1,ne_eq,not_false_eq_true,if_true,e1,e2,Result.andThen_ok,Sem.run_pure]
    simp only[List.append_assoc,List.cons_append,List.nil_append,Sem.run_bind]at ih
    exact ih
   split at hk
   ·rename_i k r hd hr
    injection hk with hk;subst hk
    obtain⟨ka,a,ps',b,qs',h2,h3,hs'⟩:=tH hs
    rw[h2]at h3
    injection h3 with _ h3;subst h3
    exact step hd (by simp[bG,hd]) trivial hr h2 hs'
   ·rename_i r hd hr
    injection hk with hk;subst hk
    obtain⟨a,ps',b,qs',h2,h3,hs'⟩:=Cg hs
    rw[h2]at h3
    injection h3 with _ h3;subst h3
    exact step hd (by simp[bG,hd]) trivial hr h2 hs'
   ·rename_i r hd hr
    injection hk with hk;subst hk
    obtain⟨a,ps',b,qs',h2,h3,hs'⟩:=Cf hs
    rw[h2]at h3
    injection h3 with _ h3;subst h3
    exact step hd (by simp[bG,hd]) trivial hr h2 hs'
   ·cases hk
  ·cases hk
theorem AY {n:Nat}:∀{ps qs:List PV},dL (List.replicate n 0) ps qs→ps.length=n∧qs.length=n:=by
 induction n with
 | zero=>intro ps qs h;obtain⟨rfl,rfl⟩:=u5 h;exact⟨rfl,rfl⟩
 | succ n ih=>
  intro ps qs h
  rw[List.replicate_succ]at h
  obtain⟨k,a,ps',b,qs',rfl,rfl,h'⟩:=tH h
  obtain⟨i1,i2⟩:=ih h'
  exact⟨by simp[i1],by simp[i2]⟩
theorem bZ {kt:TypeId} {kk:Kk} (hkt:xY P kt kk) {k:PV} (hk:gA kk k) {W:World} {F:Nat→Prop} {kv:Value} (hr:aG W F k kv) (em:Bool) (w:World):(Instr.checkKey em 10000 kt kv).run P w=.ok () w:=by
 unfold gA at hk
 split at hk
 ·obtain⟨j,hu⟩:=hkt
  show(Instr.checkKey em (9999+1) kt _).run P w=_
  rw[Instr.checkKey]
  simp only[Sem.run_bind,run_underlying hu,Result.andThen_ok,Sem.run_pure]
 ·have hu:P.underlying kt=some .string:=hkt
  show(Instr.checkKey em (9999+1) kt _).run P w=_
  rw[Instr.checkKey]
  simp only[Sem.run_bind,run_underlying hu,Result.andThen_ok,Sem.run_pure]
 ·rename_i ks ps
  simp only[aG]at hr
  obtain⟨us,rfl,hr⟩:=hr
  rcases hkt with⟨fs,hu,hf,_⟩|⟨n,e,j,i,hu,he,hi,hi1,rfl⟩
  ·show(Instr.checkKey em (9998+1+1) kt _).run P w=_
   rw[Instr.checkKey]
   simp only[Sem.run_bind,run_underlying hu,Result.andThen_ok]
   rw[←Array.forIn_toList]
   have:=oR (P:=P) (w:=w) em 9998 fs.toList 0 ks ps us [] hf hk hr rfl
   simp only[List.nil_append,Sem.run_bind]at this
   exact this
  ·show(Instr.checkKey em (9998+1+1) kt _).run P w=_
   rw[Instr.checkKey]
   simp only[Sem.run_bind,run_underlying hu,Result.andThen_ok]
   simp only[Std.Legacy.Range.forIn_eq_forIn_range',Std.Legacy.Range.size,Nat.sub_zero,Nat.add_one_sub_one,Nat.div_one]
   have hl:us.length=n:=by rw[aE.length hr];exact(AY hk).1
   have key:∀js:List Nat,(∀j∈js,j<n)→(do for j in js do Instr.checkKey em (9998+1) e (←part e ⟨us⟩ (j*(←sizeOf e))):Sem Unit).run P w=.ok () w:=by
    intro js
    induction js with
    | nil=>intro _;simp
    | cons j js ih=>
     intro hj
     have e1:(part e ⟨us⟩ (j*i.size)).run P w=.ok (us.getD j undef) w:=fU he (by simp[bG,he]) (by
      rw[hi1,Nat.mul_one]
      have:=hj j (by simp)
      simp[List.getD_eq_getElem?_getD,show j<us.length by omega])
     have e2:(Instr.checkKey em (9998+1) e (us.getD j undef)).run P w=.ok () w:=by
      rw[Instr.checkKey]
      simp only[Sem.run_bind,run_underlying he,Result.andThen_ok,Sem.run_pure]
     have e0:(sizeOf e).run P w=.ok i.size w:=by simp[sizeOf,typeInfo,hi]
     simp only[List.forIn_cons,Sem.run_bind,e0,e1,e2,Result.andThen_ok,Sem.run_pure]
     have:=ih fun y hy=>hj y (by simp[hy])
     simp only[Sem.run_bind]at this
     exact this
   have:=key (List.range' 0 n) (fun j hj=>by simp at hj;exact hj)
   simp only[Sem.run_bind]at this
   exact this
 ·exact hk.elim
theorem Cv {w W:World} {F:Nat→Prop} {e:TypeId} {j:IntKind} (he:P.underlying e=some (.int j)) (n:Nat) {ps qs:List PV} {us vs:List Value} (hs:dL (List.replicate n 0) ps qs) (hu:aE W F ps us) (hv:aE W F qs vs)
  (d:Nat):∀(m i:Nat),i+m=n→(Op.eqItems (d+1) e 1 ⟨us⟩ ⟨vs⟩ (List.range' i m)).run P w=.ok (dP (ps.drop i) (qs.drop i)) w:=by
 have at_:∀(n:Nat) (ps qs:List PV) (us vs:List Value),dL (List.replicate n 0) ps qs→aE W F ps us→aE W F qs vs→∀i,i<n→∃k a b ps' qs',ps.drop i=.sc (.int k a)::ps'∧qs.drop i=.sc (.int k b)::qs'∧ps.drop (i+1)=ps'∧qs.drop (i+1)=qs'∧us[i]?=some (.int k a)∧vs[i]?=some (.int k b):=by
  intro n
  induction n with
  | zero=>intro ps qs us vs _ _ _ i hi;omega
  | succ n ih=>
   intro ps qs us vs hs hu hv i hi
   rw[List.replicate_succ]at hs
   obtain⟨k,a,ps',b,qs',rfl,rfl,hs'⟩:=tH hs
   simp only[aE,aG]at hu hv
   obtain⟨u,ur,rfl,rfl,hu⟩:=hu
   obtain⟨v,vr,rfl,rfl,hv⟩:=hv
   cases i with
   | zero=>exact⟨k,a,b,ps',qs',rfl,rfl,rfl,rfl,rfl,rfl⟩
   | succ i=>
    obtain⟨k',a',b',p2,q2,h1,h2,h3,h4,h5,h6⟩:=ih ps' qs' ur vr hs' hu hv i (by omega)
    exact⟨k',a',b',p2,q2,by simpa using h1,by simpa using h2,by simpa using h3,by simpa using h4,by simpa using h5,by simpa using h6⟩
 intro m
 induction m with
 | zero=>
  intro i hi
  have hl:=AY hs
  rw[List.drop_eq_nil_of_le (by omega),List.drop_eq_nil_of_le (by omega)]
  simp[Op.eqItems,dP]
 | succ m ih=>
  intro i hi
  obtain⟨k,a,b,ps',qs',h1,h2,h3,h4,h5,h6⟩:=at_ n ps qs us vs hs hu hv i (by omega)
  have e1:(part e ⟨us⟩ (i*1)).run P w=.ok (.int k a) w:=fU he (by simp[bG,he]) (by simpa using h5)
  have e2:(part e ⟨vs⟩ (i*1)).run P w=.ok (.int k b) w:=fU he (by simp[bG,he]) (by simpa using h6)
  rw[List.range'_succ]
  simp only[Op.eqItems,Sem.run_bind,e1,e2,Result.andThen_ok,run_equalIn_int w d e k j a b he]
  have ih':=ih (i+1) (by omega)
  rw[h1,h2]
  simp only[dP]
  rw[h3,h4]at ih'
  by_cases hab:a=b
  ·subst hab;simpa using ih'
  ·simp[hab]
theorem zM {kt:TypeId} {ks:List Nat} (hkt:xY P kt (.st ks)) {ps qs:List PV} (hs:dL ks ps qs) {W:World} {F:Nat→Prop} {us vs:List Value} (hu:aE W F ps us) (hv:aE W F qs vs) (w:World):
  (Op.equal kt (.agg ⟨us⟩) (.agg ⟨vs⟩)).run P w=.ok (dP ps qs) w:=by
 show(Op.equalIn (9999+1) kt _ _).run P w=_
 rcases hkt with⟨fs,ht,hf,hsh⟩|⟨n,e,j,i,ht,he,hi,hi1,rfl⟩
 ·have hff:P.underlying kt=some (.struct (P.fieldsOf kt)):=by simp[Program.fieldsOf,ht]
  rw[run_equalIn_struct w 9999 kt _ _ hff hsh]
  have hf':P.fieldsOf kt=fs:=by simp[Program.fieldsOf,ht]
  rw[hf']
  exact oH 9998 fs.toList 0 ks ps qs us vs [] [] hf hs hu hv rfl rfl
 ·rw[run_equalIn_array w 9999 _ _ ht hi]
  have hc:P.cellsOf e=1:=by simp[Program.cellsOf,hi,hi1]
  rw[hc,List.range_eq_range']
  have:=Cv (P:=P) (w:=w) he n hs hu hv 9998 n 0 (by omega)
  simpa using this
theorem Ip {neg:Bool} {t t':TypeId} {y z:Operand} (ho:o.op=.binOp (if neg then .neq else .eql) t y z t') {n:Nat} {e:TypeId} {j:IntKind} {i:TypeInfo} (ht:P.underlying t=some (.array n e)) (he:P.underlying e=some (.int j))
  (hi:P.info? e=some i) (hi1:i.size=1) (h2:P.eqGuardType P.depth t=false) {u v:AV} (hy:aB x u (ev y)) (hz:aB x v (ev z)) (hp:Gg (List.replicate n 0) u v):dO P x o ev (Ke neg u v):=by
 unfold Gg at hp
 split at hp
 ·rename_i ps qs
  simp only[aB,aG]at hy hz
  obtain⟨us,hy,hu⟩:=hy
  obtain⟨vs,hz,hv⟩:=hz
  have he:∀w':World,(Op.equalIn 10000 t (.agg ⟨us⟩) (.agg ⟨vs⟩)).run P w'=.ok (dP ps qs) w':=fun w'=>zM (kt:=t) (ks:=List.replicate n 0) (.inr ⟨n,e,j,i,ht,he,hi,hi1,rfl⟩) hp hu hv w'
  cases neg
  ·exact dO.sc rfl fun w'=>by
    simp only[execOp,ho,hy,hz,Bool.false_eq_true,if_false,Sem.run_bind,run_eqGuard_agg w' .eql t y z _ _ h2,run_eql_struct,he,Result.andThen_ok]
    simp
  ·exact dO.sc rfl fun w'=>by
    simp only[execOp,ho,hy,hz,if_true,Sem.run_bind,run_eqGuard_agg w' .neq t y z _ _ h2,run_neq_struct,he,Result.andThen_ok]
    simp
 ·exact hp.elim
structure Found (x:Cx) (k:PV) (es:List (PV×PV)) (ents:List MapEntry) (res:Option (Nat×Value)):Prop where
 no:res=none→rQ k es=none∧∀v,nP k v es=es++[(k,v)]
 yes:∀j v,res=some (j,v)→∃p q e,rQ k es=some p∧aG x.w x.F p v∧es[j]?=some (q,p)∧ents[j]?=some e∧cG k q=true∧(∀kk,aW kk k es→iI kk k q)∧∀u,nP k u es=es.set j (k,u)
 fst:∀j v,res=some (j,v)→∀i,i<j→∀q p,es[i]?=some (q,p)→cG k q=false
theorem Found.cons {k q p:PV} {es:List (PV×PV)} {e:MapEntry} {ents:List MapEntry} {res:Option (Nat×Value)} (hb:cG k q=false) (h:Found x k es ents res):
  Found x k ((q,p)::es) (e::ents) (res.map fun r=>(r.1+1,r.2))where
 no:=fun hr=>by
  cases res with
  | none=>
   obtain⟨h1,h2⟩:=h.no rfl
   exact⟨by simp[rQ,hb,h1],fun v=>by simp[nP,hb,h2]⟩
  | some r=>cases hr
 yes:=fun j v hr=>by
  cases res with
  | none=>cases hr
  | some r=>
   obtain⟨j',v'⟩:=r
   simp only[Option.map_some,Option.some.injEq,Prod.mk.injEq]at hr
   obtain⟨rfl,rfl⟩:=hr
   obtain⟨p',q',e',f1,f2,f3,f4,f5,f6,f7⟩:=h.yes j' v' rfl
   exact⟨p',q',e',by simp[rQ,hb,f1],f2,by simpa using f3,by simpa using f4,f5,fun kk hk=>f6 kk (by simp only[aW]at hk;exact hk.2),fun u=>by simp[nP,hb,f7]⟩
 fst:=fun j v hr i hi q' p' hq=>by
  cases res with
  | none=>cases hr
  | some r=>
   obtain⟨j',v'⟩:=r
   simp only[Option.map_some,Option.some.injEq,Prod.mk.injEq]at hr
   obtain⟨rfl,rfl⟩:=hr
   cases i with
   | zero=>
    simp only[List.getElem?_cons_zero,Option.some.injEq,Prod.mk.injEq]at hq
    rw[←hq.1];exact hb
   | succ i=>exact h.fst j' v' rfl i (by omega) q' p' (by simpa using hq)
theorem Found.head {k q p:PV} {es:List (PV×PV)} {e:MapEntry} {ents:List MapEntry} (hb:cG k q=true) (h2:aG x.w x.F p e.val):Found x k ((q,p)::es) (e::ents) (some (0,e.val))where
 no:=fun hr=>by cases hr
 yes:=fun j v hr=>by
  simp only[Option.some.injEq,Prod.mk.injEq]at hr
  obtain⟨rfl,rfl⟩:=hr
  exact⟨p,q,e,by simp[rQ,hb],h2,rfl,rfl,hb,fun kk hk=>by simp only[aW]at hk;exact hk.1,fun u=>by simp[nP,hb]⟩
 fst:=fun j v hr i hi=>by
  simp only[Option.some.injEq,Prod.mk.injEq]at hr
  omega
theorem Found.none {k:PV}:Found x k [] [] none where
 no:=fun _=>⟨rfl,fun _=>rfl⟩
 yes:=fun _ _ hr=>by cases hr
 fst:=fun _ _ hr=>by cases hr
theorem mH (kd:TypeDesc) (kv:Value):∀(ents:List MapEntry) (i:Nat),Instr.findNow kd kv ents i=(Instr.findNow kd kv ents 0).map fun o=>o.map fun r=>(r.1+i,r.2)
 | [],i=>by simp[Instr.findNow]
 | e::ents,i=>by
  simp only[Instr.findNow]
  cases Instr.sameNow kd kv e.key with
  | none=>rfl
  | some b=>
   cases b
   ·simp only
    rw[mH kd kv ents (i+1),mH kd kv ents (0+1)]
    cases Instr.findNow kd kv ents 0 with
    | none=>rfl
    | some o=>cases o with
     | none=>rfl
     | some r=>simp;omega
   ·simp
theorem qF {kk:Kk} {kd:TypeDesc} {k:PV} {kv:Value} (hsame:∀q qv,iI kk k q→aG x.w x.F q qv→Instr.sameNow kd kv qv=some (cG k q)):∀(es:List (PV×PV)) (ents:List MapEntry),ents.length=es.length→
  (∀(j:Nat) p e,es[j]?=some p→ents[j]?=some e→aG x.w x.F p.1 e.key∧aG x.w x.F p.2 e.val)→aW kk k es→
  ∃res,Instr.findNow kd kv ents 0=some res∧Found x k es ents res
 | [],ents,hl,_,_=>by
  have:ents=[]:=List.eq_nil_of_length_eq_zero hl
  subst this
  exact⟨none,rfl,Found.none⟩
 | (q,p)::es,[],hl,_,_=>by simp at hl
 | (q,p)::es,e::ents,hl,hr,hks=>by
  simp only[aW]at hks
  obtain⟨g1,g2⟩:=hr 0 (q,p) e rfl rfl
  have hs:=hsame q e.key hks.1 g1
  cases hb:cG k q with
  | true=>
   rw[hb]at hs
   exact⟨some (0,e.val),by simp[Instr.findNow,hs],Found.head hb g2⟩
  | false=>
   rw[hb]at hs
   obtain⟨res,f1,f2⟩:=qF hsame es ents (by simpa using hl) (fun j p e hp he=>hr (j+1) p e (by simpa using hp) (by simpa using he)) hks.2
   refine⟨res.map fun r=>(r.1+1,r.2),?_,Found.cons hb f2⟩
   simp only[Instr.findNow,hs,Nat.zero_add]
   rw[mH,f1]
   rfl
theorem qL {kt:TypeId} {ks:List Nat} (hkt:xY P kt (.st ks)) {ps:List PV} {us:List Value} (hu:aE x.w x.F ps us):∀(es:List (PV×PV)) (ents:List MapEntry),ents.length=es.length→
  (∀(j:Nat) p e,es[j]?=some p→ents[j]?=some e→aG x.w x.F p.1 e.key∧aG x.w x.F p.2 e.val)→aW (.st ks) (.agg ps) es→
  ∃res,(∀(i:Nat) (w:World),(Instr.findAsking kt (.agg ⟨us⟩) ents i).run P w=.ok (res.map fun r=>(r.1+i,r.2)) w)∧Found x (.agg ps) es ents res
 | [],ents,hl,_,_=>by
  have:ents=[]:=List.eq_nil_of_length_eq_zero hl
  subst this
  exact⟨none,fun i w=>by simp[Instr.findAsking],Found.none⟩
 | (q,p)::es,[],hl,_,_=>by simp at hl
 | (q,p)::es,e::ents,hl,hr,hks=>by
  simp only[aW]at hks
  obtain⟨g1,g2⟩:=hr 0 (q,p) e rfl rfl
  obtain⟨hk1,hk2⟩:=hks
  unfold iI at hk1
  split at hk1
  ·rename_i heq _;cases heq
  ·rename_i heq _;cases heq
  ·rename_i ks' ps' qs h1 h2
   injection h1 with h1;subst h1
   injection h2 with h2;subst h2
   simp only[aG]at g1
   obtain⟨vs,hkey,g1⟩:=g1
   have he:∀w,(Op.equal kt (.agg ⟨us⟩) e.key).run P w=.ok (dP ps qs) w:=fun w=>by rw[hkey];exact zM hkt hk1 hu g1 w
   have hke:cG (.agg ps) (.agg qs)=dP ps qs:=rfl
   cases hb:dP ps qs with
   | true=>
    refine⟨some (0,e.val),fun i w=>?_,Found.head (by rw[hke,hb]) g2⟩
    simp[Instr.findAsking,he,hb]
   | false=>
    obtain⟨res,f1,f2⟩:=qL hkt hu es ents (by simpa using hl) (fun j p e hp he=>hr (j+1) p e (by simpa using hp) (by simpa using he)) hk2
    refine⟨res.map fun r=>(r.1+1,r.2),fun i w=>?_,Found.cons (by rw[hke,hb]) f2⟩
    simp only[Instr.findAsking,Sem.run_bind,he,hb,Result.andThen_ok,Bool.false_eq_true,if_false,f1]
    cases res with
    | none=>rfl
    | some r=>simp;omega
  ·exact hk1.elim
theorem fL {kt:TypeId} {kk:Kk} (hkt:xY P kt kk) {k:PV} (h1:gA kk k) {kv:Value} (r1:aG x.w x.F k kv) (es:List (PV×PV)) (ents:List MapEntry) (hl:ents.length=es.length)
  (hr:∀(j:Nat) p e,es[j]?=some p→ents[j]?=some e→aG x.w x.F p.1 e.key∧aG x.w x.F p.2 e.val) (hks:aW kk k es):
  ∃res,(∀w,(Instr.findKey kt kv ents).run P w=.ok res w)∧Found x k es ents res:=by
 unfold gA at h1
 split at h1
 ·rename_i j a
  obtain⟨j',hu⟩:=hkt
  simp only[aG]at r1
  subst r1
  obtain⟨res,f1,f2⟩:=qF (x:=x) (kk:=.int) (kd:=.int j') (k:=.sc (.int j a)) (kv:=.int j a) (fun q qv hq hqv=>by
   unfold iI at hq
   split at hq
   ·rename_i j1 a1 j2 b1 _ h2
    injection h2 with h2;injection h2 with h3 h4
    subst hq;subst h3;subst h4
    simp only[aG]at hqv
    subst hqv
    simp[Instr.sameNow,cG];rfl
   ·rename_i heq _;cases heq
   ·rename_i heq _;cases heq
   ·exact hq.elim) es ents hl hr hks
  exact⟨res,fun w=>by simp[Instr.findKey,run_underlying hu,f1],f2⟩
 ·rename_i s
  have hu:P.underlying kt=some .string:=hkt
  simp only[aG]at r1
  subst r1
  obtain⟨res,f1,f2⟩:=qF (x:=x) (kk:=.str) (kd:=.string) (k:=.sc (.string s)) (kv:=.string s) (fun q qv hq hqv=>by
   unfold iI at hq
   split at hq
   ·rename_i heq _;cases heq
   ·rename_i a1 b1 _ h2
    injection h2 with h2;injection h2 with h2
    subst h2
    simp only[aG]at hqv
    subst hqv
    simp only[Instr.sameNow,cG,beq_toListBytes]
    simp[toList_eq]
   ·rename_i heq _;cases heq
   ·exact hq.elim) es ents hl hr hks
  exact⟨res,fun w=>by simp[Instr.findKey,run_underlying hu,f1],f2⟩
 ·rename_i ks ps
  simp only[aG]at r1
  obtain⟨us,rfl,r1⟩:=r1
  obtain⟨res,f1,f2⟩:=qL hkt r1 es ents hl hr hks
  cases ents with
  | nil=>
   have:es=[]:=List.eq_nil_of_length_eq_zero hl.symm
   subst this
   refine⟨none,fun w=>?_,Found.none⟩
   rcases hkt with⟨fs,hu,_,_⟩|⟨n,e,j,i,hu,_,_,_,_⟩<;>simp[Instr.findKey,run_underlying hu,Instr.findNow]
  | cons e ents=>
   refine⟨res,fun w=>?_,f2⟩
   have:=f1 0 w
   rcases hkt with⟨fs,hu,_,_⟩|⟨n,e',j,i,hu,_,_,_,_⟩
   ·simp only[Instr.findKey,Sem.run_bind,run_underlying hu,Result.andThen_ok,Instr.findNow,Instr.sameNow,this]
    cases res<;>simp
   ·simp only[Instr.findKey,Sem.run_bind,run_underlying hu,Result.andThen_ok,Instr.findNow,Instr.sameNow,this]
    cases res<;>simp
 ·exact h1.elim
theorem xP {es:List (Nat×PV×PV)} {ents:List MapEntry} (h:∀(i:Nat) p e,es[i]?=some p→ents[i]?=some e→iP x p.2 e∧e.born=p.1):
  ∀(j:Nat) p e,(oT es)[j]?=some p→ents[j]?=some e→aG x.w x.F p.1 e.key∧aG x.w x.F p.2 e.val:=fun j p e hp he=>by
 unfold oT at hp
 rw[List.getElem?_map]at hp
 cases hq:es[j]? with
 | none=>rw[hq]at hp;cases hp
 | some q=>
  rw[hq]at hp
  simp only[Option.map_some,Option.some.injEq]at hp
  subst hp
  exact(h j q e hq he).1
theorem n5 (es:List (Nat×PV×PV)):(oT es).length=es.length:=List.length_map _
theorem A9 {k v:PV} {c:Nat}:∀es:List (Nat×PV×PV),oT (kU k v c es)=nP k v (oT es)
 | []=>rfl
 | e::es=>by
  have ih:=A9 (k:=k) (v:=v) (c:=c) es
  unfold oT at ih ⊢
  simp only[kU,List.map_cons,nP]
  by_cases h:cG k e.2.1=true
  ·rw[if_pos h,if_pos h];rfl
  ·rw[if_neg h,if_neg h,List.map_cons,ih]
theorem Bc {k v:PV} {c:Nat}:∀es:List (Nat×PV×PV),(kU k v c es).map (·.1)=if rQ k (oT es)=none then es.map (·.1)++[c]else es.map (·.1)
 | []=>by simp[kU,oT,rQ]
 | e::es=>by
  have ih:=Bc (k:=k) (v:=v) (c:=c) es
  unfold oT at ih ⊢
  simp only[kU,List.map_cons,rQ]
  by_cases h:cG k e.2.1=true
  ·rw[if_pos h,if_pos h];simp
  ·rw[if_neg h,if_neg h,List.map_cons,ih]
   split<;>simp
theorem wK {k:PV}:∀(es:List (Nat×PV×PV)) (j:Nat),(∀i,i<j→∀q p,(oT es)[i]?=some (q,p)→cG k q=false)→(∃q p,(oT es)[j]?=some (q,p)∧cG k q=true)→rX k es=es.eraseIdx j
 | [],j,_,h=>by obtain⟨q,p,h,_⟩:=h;simp[oT]at h
 | e::es,0,_,h=>by
  obtain⟨q,p,h,hk⟩:=h
  simp only[oT,List.map_cons,List.getElem?_cons_zero,Option.some.injEq]at h
  simp only[rX,h,hk,if_true,List.eraseIdx_cons_zero]
 | e::es,j+1,h0,h=>by
  have hn:=h0 0 (by omega) e.2.1 e.2.2 (by simp[oT])
  simp only[rX,hn,Bool.false_eq_true,if_false,List.eraseIdx_cons_succ]
  rw[wK es j (fun i hi q p hq=>h0 (i+1) (by omega) q p (by simpa[oT]using hq)) (by simpa[oT]using h)]
theorem z1 {k:PV}:∀(es:List (Nat×PV×PV)),rQ k (oT es)=none→rX k es=es
 | [],_=>rfl
 | e::es,h=>by
  simp only[oT,List.map_cons,rQ]at h
  split at h
  ·cases h
  ·rename_i hk
   simp only[rX,if_neg hk]
   rw[z1 es h]
def AH:List PV→List MapEntry→List (PV×PV)
 | k::ks,e::ents=>(k,.sc e.val)::AH ks ents
 | _,_=>[]
theorem Cn:∀{ks:List PV} {ents:List MapEntry},ents.length=ks.length→(AH ks ents).length=ks.length
 | [],[],_=>rfl
 | k::ks,e::ents,h=>by simp only[AH,List.length_cons,Cn (ks:=ks) (ents:=ents) (by simpa using h)]
 | [],_::_,h=>by simp at h
 | _::_,[],h=>by simp at h
theorem Ey:∀{ks:List PV} {ents:List MapEntry} {j:Nat} {p:PV×PV},(AH ks ents)[j]?=some p→∃e,ks[j]?=some p.1∧ents[j]?=some e∧p.2=.sc e.val
 | [],_,j,p,h=>by simp[AH]at h
 | k::ks,[],j,p,h=>by simp[AH]at h
 | k::ks,e::ents,0,p,h=>by
  simp only[AH,List.getElem?_cons_zero,Option.some.injEq]at h
  subst h
  exact⟨e,rfl,rfl,rfl⟩
 | k::ks,e::ents,j+1,p,h=>by
  simp only[AH,List.getElem?_cons_succ]at h
  obtain⟨e',h1,h2,h3⟩:=Ey h
  exact⟨e',by simpa using h1,by simpa using h2,h3⟩
theorem y7 {kk:Kk} {k:PV}:∀{ks:List PV} {ents:List MapEntry},aW kk k (LZ ks)→aW kk k (AH ks ents)
 | [],_,_=>by simp[AH,aW]
 | q::ks,[],_=>by simp[AH,aW]
 | q::ks,e::ents,h=>by
  simp only[LZ,List.map_cons,aW]at h
  simp only[AH,aW]
  exact⟨h.1,y7 h.2⟩
theorem F6:∀{ks:List PV} {ents:List MapEntry} {j:Nat} {q:PV} {e:MapEntry},ks[j]?=some q→ents[j]?=some e→(AH ks ents)[j]?=some (q,.sc e.val)
 | [],_,_,_,_,h,_=>by simp at h
 | _::_,[],_,_,_,_,h=>by simp at h
 | k::ks,e::ents,0,q,e',h1,h2=>by
  simp only[List.getElem?_cons_zero,Option.some.injEq]at h1 h2
  subst h1;subst h2;rfl
 | k::ks,e::ents,j+1,q,e',h1,h2=>by
  simp only[AH,List.getElem?_cons_succ]
  exact F6 (by simpa using h1) (by simpa using h2)
theorem F5 {x:Cx} {ks:List PV} {vs:List AV} {ents:List MapEntry} (hl:ents.length=ks.length) (hlv:vs.length=ks.length) (h:∀(i:Nat) k v e,ks[i]?=some k→vs[i]?=some v→ents[i]?=some e→aG x.w x.F k e.key∧aB x v e.val):
  ∀(j:Nat) p e,(AH ks ents)[j]?=some p→ents[j]?=some e→aG x.w x.F p.1 e.key∧aG x.w x.F p.2 e.val:=fun j p e hp he=>by
 obtain⟨e',h1,h2,h3⟩:=Ey hp
 rw[he]at h2
 injection h2 with h2
 subst h2
 have hj:j<vs.length:=by have:=(List.getElem?_eq_some_iff.1 h1).1;omega
 refine⟨(h j p.1 vs[j] e h1 (List.getElem?_eq_getElem hj) he).1,?_⟩
 rw[h3]
 simp only[aG]
theorem vA {k:PV}:∀{ks:List PV} {vs:List AV} {ents:List MapEntry},ents.length=ks.length→vs.length=ks.length→(rQ k (AH ks ents)=none↔rJ k ks vs=none)
 | [],[],[],_,_=>by simp[AH,rQ,rJ]
 | q::ks,v::vs,e::ents,h1,h2=>by
  simp only[AH,rQ,rJ]
  by_cases h:cG k q=true
  ·simp[h]
  ·rw[if_neg h,if_neg h];exact vA (by simpa using h1) (by simpa using h2)
 | [],_::_,_,_,h=>by simp at h
 | _::_,[],_,_,h=>by simp at h
 | [],[],_::_,h,_=>by simp at h
 | _::_,_::_,[],h,_=>by simp at h
theorem FT {k:PV}:∀{ks:List PV} {vs:List AV} {j:Nat} {q:PV},ks[j]?=some q→cG k q=true→(∀i,i<j→∀q,ks[i]?=some q→cG k q=false)→rJ k ks vs=vs[j]?
 | [],_,j,q,h,_,_=>by simp at h
 | p::ks,[],j,q,_,_,_=>by simp[rJ]
 | p::ks,v::vs,0,q,h,hk,_=>by
  simp only[List.getElem?_cons_zero,Option.some.injEq]at h
  subst h
  simp[rJ,hk]
 | p::ks,v::vs,j+1,q,h,hk,h0=>by
  have hp:=h0 0 (by omega) p rfl
  simp only[rJ,hp,Bool.false_eq_true,if_false,List.getElem?_cons_succ]
  exact FT (by simpa using h) hk fun i hi q hq=>h0 (i+1) (by omega) q (by simpa using hq)
theorem bR {w:World} {r:Nat} {es:Array MapEntry} {clock:Nat} (h:w.heap[r]?=some (.map es clock)):(getObj r).run P w=.ok (.map es clock) w:=by simp[getObj,Sem.run,h]
theorem NF {e:Env} {σ:St} {a:Act} (hS:SRel e σ x a) {t kt et:TypeId} {y z:Operand} {comma:Bool} {kk:Kk} (ho:o.op=.lookup t y z comma) (ht:P.underlying t=some (.map kt et)) (hkt:xY P kt kk)
  {i:TypeInfo} (hi:P.info? et=some i) {zv:Value} (hz:i.zero=some zv) {zero:AV} (hzero:aB x zero zv) {u v:AV} (hy:aB x u (ev y)) (hv:aB x v (ev z)) (hp:yB σ kk u v):dO P x o ev (pF σ comma zero u v):=by
 unfold yB at hp
 split at hp
 ·rename_i r k
  split at hp
  ·rename_i es hst
   obtain⟨h1,h2⟩:=hp
   have hrow:=hS.st r _ (aH hst)
   simp only[Row.rel]at hrow
   obtain⟨hok,ents,clock,hh,hlen,hents,_,_⟩:=hrow
   simp only[aB]at hy hv
   have hhw:∀w',Agr x.w w'→w'.heap[(x.ρ r).blk]?=some (.map ⟨ents⟩ clock):=fun w' k=>(k.heap _ (Array.getElem?_eq_some_iff.1 hh).1).trans hh
   obtain⟨res,f1,f2⟩:=fL hkt h1 hv es ents hlen hents h2
   have run:∀w',Agr x.w w'→
     (execOp ev o).run P w'=.ok (.value (match res with
      | some (_,v)=>if comma then .tuple #[v,.bool true]else v
      | none=>if comma then .tuple #[zv,.bool false]else zv)) w':=fun w' hk=>by
    simp only[execOp,ho,hy]
    simp only[Instr.lookup,Sem.run_bind,run_underlying ht,Result.andThen_ok,bR (hhw w' hk),bZ hkt h1 hv,Sem.run_pure,f1]
    cases res with
    | none=>cases comma<;>simp[zeroValue,typeInfo,hi,hz]
    | some q=>cases comma<;>simp
   refine⟨_,?_,run⟩
   cases res with
   | none=>
    have f1:=(f2.no rfl).1
    simp only[pF,hst,f1]
    cases comma
    ·simpa using hzero
    ·simp only[if_true,aB,aD,aY,aG]
     exact⟨[zv,.bool false],rfl,zv,_,rfl,hzero,_,_,rfl,rfl,rfl⟩
   | some q=>
    obtain⟨j,cv⟩:=q
    obtain⟨p,q',en,f1,f3,_⟩:=f2.yes j cv rfl
    simp only[pF,hst,f1]
    cases comma
    ·simpa[aB]using f3
    ·simp only[if_true,aB,aD,aY,aG]
     exact⟨[cv,.bool true],rfl,cv,_,rfl,f3,_,_,rfl,rfl,rfl⟩
  ·rename_i es ck hst
   obtain⟨h1,h2⟩:=hp
   have hrow:=hS.st r _ (aH hst)
   simp only[Row.rel]at hrow
   obtain⟨hok,ents,hh,hlen,hents,_,_⟩:=hrow
   simp only[aB]at hy hv
   have hhw:∀w',Agr x.w w'→w'.heap[(x.ρ r).blk]?=some (.map ⟨ents⟩ ck):=fun w' k=>(k.heap _ (Array.getElem?_eq_some_iff.1 hh).1).trans hh
   obtain⟨res,f1,f2⟩:=fL hkt h1 hv (oT es) ents (by rw[n5];exact hlen) (xP hents) h2
   have run:∀w',Agr x.w w'→
     (execOp ev o).run P w'=.ok (.value (match res with
      | some (_,v)=>if comma then .tuple #[v,.bool true]else v
      | none=>if comma then .tuple #[zv,.bool false]else zv)) w':=fun w' hk=>by
    simp only[execOp,ho,hy]
    simp only[Instr.lookup,Sem.run_bind,run_underlying ht,Result.andThen_ok,bR (hhw w' hk),bZ hkt h1 hv,Sem.run_pure,f1]
    cases res with
    | none=>cases comma<;>simp[zeroValue,typeInfo,hi,hz]
    | some q=>cases comma<;>simp
   refine⟨_,?_,run⟩
   cases res with
   | none=>
    have f1:=(f2.no rfl).1
    simp only[pF,hst,f1]
    cases comma
    ·simpa using hzero
    ·simp only[if_true,aB,aD,aY,aG]
     exact⟨[zv,.bool false],rfl,zv,_,rfl,hzero,_,_,rfl,rfl,rfl⟩
   | some q=>
    obtain⟨j,cv⟩:=q
    obtain⟨p,q',en,f1,f3,_⟩:=f2.yes j cv rfl
    simp only[pF,hst,f1]
    cases comma
    ·simpa[aB]using f3
    ·simp only[if_true,aB,aD,aY,aG]
     exact⟨[cv,.bool true],rfl,cv,_,rfl,f3,_,_,rfl,rfl,rfl⟩
  ·rename_i ks vs hst
   obtain⟨⟨h1,h2⟩,h3⟩:=hp
   have hrow:=hS.st r _ (aH hst)
   simp only[Row.rel]at hrow
   obtain⟨hok,ents,ck,hh,hlen,hlv,hents,_,_⟩:=hrow
   simp only[aB]at hy hv
   have hhw:∀w',Agr x.w w'→w'.heap[(x.ρ r).blk]?=some (.map ⟨ents⟩ ck):=fun w' k=>(k.heap _ (Array.getElem?_eq_some_iff.1 hh).1).trans hh
   obtain⟨res,f1,f2⟩:=fL hkt h1 hv (AH ks ents) ents (by rw[Cn hlen];exact hlen) (F5 hlen hlv hents) (y7 h2)
   have run:∀w',Agr x.w w'→
     (execOp ev o).run P w'=.ok (.value (match res with
      | some (_,v)=>if comma then .tuple #[v,.bool true]else v
      | none=>if comma then .tuple #[zv,.bool false]else zv)) w':=fun w' hk=>by
    simp only[execOp,ho,hy]
    simp only[Instr.lookup,Sem.run_bind,run_underlying ht,Result.andThen_ok,bR (hhw w' hk),bZ hkt h1 hv,Sem.run_pure,f1]
    cases res with
    | none=>cases comma<;>simp[zeroValue,typeInfo,hi,hz]
    | some q=>cases comma<;>simp
   refine⟨_,?_,run⟩
   cases res with
   | none=>
    have f3:=(vA hlen hlv).1 (f2.no rfl).1
    rw[f3]at h3;cases h3
   | some q=>
    obtain⟨j,cv⟩:=q
    obtain⟨p,q',en,_,g2,g3,g4,g5,_⟩:=f2.yes j cv rfl
    obtain⟨e',k1,k2,k3⟩:=Ey g3
    simp only at k1 k3
    rw[g4]at k2
    injection k2 with k2
    subst k2
    subst k3
    simp only[aG]at g2
    subst g2
    have hj:j<vs.length:=by have:=(List.getElem?_eq_some_iff.1 k1).1;omega
    have hvj:vs[j]?=some vs[j]:=List.getElem?_eq_getElem hj
    have hx:rJ k ks vs=some vs[j]:=by
     rw[FT (vs:=vs) k1 g5 fun i hi q hq=>?_,hvj]
     have hie:i<ents.length:=by have:=(List.getElem?_eq_some_iff.1 hq).1;omega
     exact f2.fst j _ rfl i hi q _ (F6 hq (List.getElem?_eq_getElem hie))
    have f3:=(hents j q' vs[j] en k1 hvj g4).2
    simp only[pF,hst,hx]
    cases comma
    ·simpa using f3
    ·simp only[if_true,aB,aD,aY,aG]
     exact⟨[en.val,.bool true],rfl,en.val,_,rfl,f3,_,_,rfl,rfl,rfl⟩
  ·exact hp.elim
 ·exact hp.elim
theorem NE {e:Env} {σ:St} {a:Act} (hS:SRel e σ x a) {t kt et:TypeId} {y:Operand} (ho:o.op=.call { callee:=.builtin .len,args:=#[y],argTypes:=#[t] }) (ht:P.underlying t=some (.map kt et)) {u:AV} (hy:aB x u (ev y)) (hp:x9 σ u):
  dO P x o ev (vW σ u):=by
 unfold x9 at hp
 split at hp
 ·rename_i r
  split at hp
  ·rename_i es hst
   have hrow:=hS.st r _ (aH hst)
   simp only[Row.rel]at hrow
   obtain⟨hok,ents,clock,hh,hlen,hents,_,_⟩:=hrow
   simp only[aB]at hy
   refine⟨.int .i64 (ents.length:Nat),?_,fun w' k=>?_⟩
   ·simp[vW,hst,dZ,aB,aG,hlen]
   ·have hhw:w'.heap[(x.ρ r).blk]?=some (.map ⟨ents⟩ clock):=(k.heap _ (Array.getElem?_eq_some_iff.1 hh).1).trans hh
    simp[execOp,ho,resolve,invoke,builtin,hy,Builtin.len_,Builtin.len,run_underlying ht,bR hhw,goInt]
  ·rename_i es ck hst
   have hrow:=hS.st r _ (aH hst)
   simp only[Row.rel]at hrow
   obtain⟨hok,ents,hh,hlen,hents,_,_⟩:=hrow
   simp only[aB]at hy
   refine⟨.int .i64 (ents.length:Nat),?_,fun w' k=>?_⟩
   ·simp[vW,hst,dZ,aB,aG,hlen]
   ·have hhw:w'.heap[(x.ρ r).blk]?=some (.map ⟨ents⟩ ck):=(k.heap _ (Array.getElem?_eq_some_iff.1 hh).1).trans hh
    simp[execOp,ho,resolve,invoke,builtin,hy,Builtin.len_,Builtin.len,run_underlying ht,bR hhw,goInt]
  ·exact hp.elim
 ·exact hp.elim
theorem Pq {e:Env} {σ:St} {a:Act} (hS:SRel e σ x a) {y:Operand} (ho:o.op=.entry y) {u:AV} (hy:aB x u (ev y)) (hp:Ed σ u):dO P x o ev (CN σ u):=by
 unfold Ed at hp
 split at hp
 ·rename_i r
  split at hp
  ·rename_i m n rem c hst
   split at hp
   ·rename_i es hsm
    have hrow:=hS.st r _ (aH hst)
    have hmap:=hS.st m _ (aH hsm)
    simp only[Row.rel]at hrow hmap
    obtain⟨hok,seen,hh,hnd,hrem,hcur,hcn⟩:=hrow
    obtain⟨hokm,ents,clock,hhm,hlen,hents,hclk,hborn⟩:=hmap
    simp only[aB]at hy
    have hc:=hcn c rfl
    obtain⟨en,hen⟩:∃en,ents[c]?=some en:=⟨ents[c]'(by omega),List.getElem?_eq_getElem _⟩
    obtain⟨p,hpe⟩:∃p,es[c]?=some p:=⟨es[c]'(by omega),List.getElem?_eq_getElem _⟩
    have hrel:=hents c p en hpe hen
    have hfind:(⟨ents⟩:Array MapEntry).find? (fun e=>e.born==c)=some en:=by
     rw[←Array.find?_toList]
     have key:∀(l:List MapEntry) (k:Nat),(∀i e,l[i]?=some e→e.born=k+i)→∀j e,l[j]?=some e→l.find? (fun e=>e.born==k+j)=some e:=by
      intro l
      induction l with
      | nil=>intro k _ j e h;simp at h
      | cons a l ih=>
       intro k hb j e hj
       have h0:=hb 0 a rfl
       cases j with
       | zero=>
        simp only[List.getElem?_cons_zero,Option.some.injEq]at hj
        subst hj
        simp[h0]
       | succ j=>
        rw[List.find?_cons]
        have:(a.born==k+(j+1))=false:=by simp;omega
        rw[this]
        have:=ih (k+1) (fun i e h=>by have:=hb (i+1) e (by simpa using h);omega) j e (by simpa using hj)
        rw[show k+(j+1)=k+1+j by omega]
        exact this
     have:=key ents 0 (fun i e h=>by rw[hborn i e h];omega) c en hen
     simpa using this
    refine⟨.tuple #[en.key,en.val],?_,fun w' k=>?_⟩
    ·have hd:es.getD c default=p:=by simp[List.getD_eq_getElem?_getD,hpe]
     simp only[CN,hst,hsm,hd,aB,aD]
     exact⟨[en.key,en.val],rfl,_,_,rfl,hrel.1,_,_,rfl,hrel.2,rfl⟩
    ·have h1:w'.heap[(x.ρ r).blk]?=some (.mapIter (some (x.ρ m).blk) n seen n):=(k.heap _ (Array.getElem?_eq_some_iff.1 hh).1).trans hh
     have h2:w'.heap[(x.ρ m).blk]?=some (.map ⟨ents⟩ clock):=(k.heap _ (Array.getElem?_eq_some_iff.1 hhm).1).trans hhm
     have h3:(getObj (x.ρ r).blk).run P w'=.ok (.mapIter (some (x.ρ m).blk) n seen n) w':=by simp[getObj,Sem.run,h1]
     have h4:(getObj (x.ρ m).blk).run P w'=.ok (.map ⟨ents⟩ clock) w':=bR h2
     have hcl:clock=n:=by omega
     simp[execOp,ho,hy,Instr.entry,h3,h4,←hcur,hcl,hfind]
   ·exact hp.elim
  ·rename_i m n bs rem c hst
   split at hp
   ·rename_i es ck hsm
    obtain⟨hp1,hp2⟩:=hp
    have hrow:=hS.st r _ (aH hst)
    have hmap:=hS.st m _ (aH hsm)
    simp only[Row.rel]at hrow hmap
    obtain⟨hok,seen,hh,hnd,hrem,hcur⟩:=hrow
    obtain⟨hokm,ents,hhm,hlen,hents,hbn,hbl⟩:=hmap
    simp only[aB]at hy
    obtain⟨b,hb,hsb⟩:=hcur c rfl
    rw[←hp1,List.getElem?_map]at hb
    obtain⟨p,hpe,hpb⟩:∃p,es[c]?=some p∧p.1=b:=by
     cases hpe:es[c]? with
     | none=>rw[hpe]at hb;cases hb
     | some p=>rw[hpe]at hb;exact⟨p,rfl,by simpa using hb⟩
    have hcl:c<es.length:=(List.getElem?_eq_some_iff.1 hpe).1
    obtain⟨en,hen⟩:∃en,ents[c]?=some en:=⟨ents[c]'(by omega),List.getElem?_eq_getElem _⟩
    have hrel:=hents c p en hpe hen
    have hborns:ents.map (·.born)=es.map (·.1):=by
     refine List.ext_getElem (by simp[hlen]) fun i h1 h2=>?_
     simp only[List.length_map]at h1 h2
     rw[List.getElem_map,List.getElem_map]
     exact(hents i es[i] ents[i] (List.getElem?_eq_getElem h2) (List.getElem?_eq_getElem h1)).2
    have hfind:(⟨ents⟩:Array MapEntry).find? (fun e=>e.born==b)=some en:=by
     rw[←Array.find?_toList]
     have:=find_born en ents (by rw[hborns];exact hbn) (List.mem_of_getElem? hen)
     rw[hrel.2,hpb]at this
     exact this
    refine⟨.tuple #[en.key,en.val],?_,fun w' k=>?_⟩
    ·have hd:es.getD c default=p:=by simp[List.getD_eq_getElem?_getD,hpe]
     simp only[CN,hst,hsm,hd,aB,aD]
     exact⟨[en.key,en.val],rfl,_,_,rfl,hrel.1.1,_,_,rfl,hrel.1.2,rfl⟩
    ·have h1:w'.heap[(x.ρ r).blk]?=some (.mapIter (some (x.ρ m).blk) n seen n):=(k.heap _ (Array.getElem?_eq_some_iff.1 hh).1).trans hh
     have h2:w'.heap[(x.ρ m).blk]?=some (.map ⟨ents⟩ ck):=(k.heap _ (Array.getElem?_eq_some_iff.1 hhm).1).trans hhm
     have h3:(getObj (x.ρ r).blk).run P w'=.ok (.mapIter (some (x.ρ m).blk) n seen n) w':=by simp[getObj,Sem.run,h1]
     have h4:(getObj (x.ρ m).blk).run P w'=.ok (.map ⟨ents⟩ ck) w':=bR h2
     subst hp2
     simp[execOp,ho,hy,Instr.entry,h3,h4,hsb,hfind]
   ·exact hp.elim
  ·exact hp.elim
 ·exact hp.elim
end
end Go.Vc

namespace Go.Vc
open Go.RowKit
def only (r:Nat):Nat→Bool:=fun q=>q==r
def St.newRow (σ:St) (r:Nat) (row:Row):St:=⟨iH (only r) σ.fr,(r,row)::eG (only r) (aQ σ.st r)⟩
def St.put (σ:St) (d:Nat) (v:AV):St:=⟨gB σ.fr d v,σ.st⟩
def bT (ρ:Nat→Loc) (r:Nat) (l:Loc):Nat→Loc:=fun q=>if q=r then l else ρ q
section
variable {P:Program} {e:Env} {σ:St} {x:Cx} {a:Act} {o:Oper}
theorem dT (w:World) (o:Obj):Below w.heap.size w (w.alloc o):=(Below.refl _ w).alloc (Nat.le_refl _) o
def bA (e:Env) (σ:St) (x:Cx) (w':World) (r:Nat) (row:Row) (l:Loc):Cx:=
 ⟨w',fun b=>e.F0 b∨d6 ((r,row)::eG (only r) (aQ σ.st r)) (bT x.ρ r l) b,bT x.ρ r l⟩
theorem SRel.fresh (h:SRel e σ x a) {w':World} (hb:Below x.w.heap.size x.w w') (r:Nat) (row:Row) (l:Loc) (hl:l.ok=true→x.w.heap.size≤l.blk)
  (hrow:row.rel (bA e σ x w' r row l) l) (hr:r<200000):SRel e (σ.newRow r row) (bA e σ x w' r row l) a:=by
 have e1:(bA e σ x w' r row l).ρ r=l:=by simp[bA,bT]
 refine SRel.turn (y:=bA e σ x w' r row l) h r row (only r) hb.size hb.os hb.tape hb.output hb.drawn (fun b hl _=>hb.block b hl) (fun q hq=>?_) (fun q hq=>?_) (fun q hq=>?_) (fun hok=>?_) (fun b=>Iff.rfl) ?_ (.inl hr)
 ·simp only[only,beq_eq_false_iff_ne]at hq
  simp[bA,bT,hq]
 ·simpa[only]using hq
 ·simp[bA,bT,hq]
 ·rw[e1]at hok ⊢
  exact .inl (hl hok)
 ·rw[e1];exact hrow
theorem n9 (h:SRel e σ x a) {w':World} (hb:Below x.w.heap.size x.w w') (r:Nat) (row:Row) (l:Loc) (hl:l.ok=true→x.w.heap.size≤l.blk):
  Kept x (bA e σ x w' r row l)where
 size:=hb.size
 heap:=fun b _ hl=>hb.block b hl
 F:=fun b hlt hy=>by
  rcases hy with h0|⟨q,rw',hm,hok,hbe⟩
  ·exact(h.F b).2 (.inl h0)
  ·rcases List.mem_cons.1 hm with hm|hm
   ·injection hm with h1 _
    subst h1
    simp only[bT,if_true]at hok hbe
    have:=hl hok;omega
   ·obtain⟨u,h1,_⟩:=gL hm
    obtain⟨h3,h4⟩:=bE h1
    simp only[bT,if_neg h4]at hok hbe
    exact(h.F b).2 (.inr ⟨q,u,h3,hok,hbe⟩)
theorem tI {w':World} (r:Nat) (row:Row) (l:Loc):∀q,only r q=false→(bA e σ x w' r row l).ρ q=x.ρ q:=fun q hq=>by
 simp only[only,beq_eq_false_iff_ne]at hq
 simp[bA,bT,hq]
def iB (P:Program) (e:Env) (o:Oper) (a:Act) (w:World) (K:St→Prop):Prop:=
 ∀Q,o.wp P a w (fun a' w'=>∃σ' y,SRel e σ' y a'∧y.w=w'∧K σ'∧Agr w w') Q
theorem aT {o:Oper} {a:Act} {w w':World} {v:Value} {K:Act→World→Prop} {Q:Exit→Act→World→Prop} (h:(execOp a.eval o).run P w=.ok (.value v) w') (hk:K (a.put o.dst v) w'):o.wp P a w K Q:=by
 unfold Oper.wp;rw[h];exact hk
theorem Hz (w:World) (cs:List Value) (t:TypeId) (n:Nat) (h:n≤cs.length):L0 (w.alloc (.cells ⟨cs⟩ t)) w.heap.size n:=
 ⟨⟨cs⟩,t,by show(w.heap.push _)[w.heap.size]?=_;simp,by simpa using h⟩
theorem Fi (w:World) (cs:List Value) (t:TypeId) (n:Nat) (h:n≤cs.length) (h1:∀c∈cs,c.oneCell'=true):BN (w.alloc (.cells ⟨cs⟩ t)) w.heap.size n:=
 ⟨⟨cs⟩,t,by show(w.heap.push _)[w.heap.size]?=_;simp,by simpa using h,h1⟩
theorem d8 (w:World) (o:Obj):(w.alloc o).heap[w.heap.size]?=some o:=by
 show(w.heap.push _)[w.heap.size]?=_;simp
theorem FQ (h:SRel e σ x a) (d:Nat) (hd:d<e.n) (ho:o.dst=some d) {K:St→Prop} {t:TypeId} {cs:List AV} {cvs:List Value} (hc:aD x cs cvs)
  (hrun:(execOp a.eval o).run P x.w=.ok (.value (.pointer (some ⟨x.w.heap.size,0,none⟩))) (x.w.alloc (.cells ⟨cvs⟩ t)))
  (hK:K ((σ.newRow d (.box (AV.clips (only d) cs))).put d (.ptr d 0))):iB P e o a x.w K:=by
 intro Q
 refine aT hrun ?_
 have hb:=dT x.w (.cells ⟨cvs⟩ t)
 let l:Loc:=⟨x.w.heap.size,0,0,0,true,0⟩
 have kept:=n9 h hb d (.box (AV.clips (only d) cs)) l (fun _=>Nat.le_refl _)
 have h1:=SRel.fresh h hb d (.box (AV.clips (only d) cs)) l (fun _=>Nat.le_refl _) ⟨rfl,by
   simp only[Nat.zero_add,bV,l]
   exact Hz _ _ _ _ (by rw[hc.length];exact Nat.le_refl _),aO.of (aD.clip kept (tI _ _ _) cs hc) (aV.of_heap (d8 _ _))⟩ (by have:=h.small;omega)
 rw[ho]
 refine⟨_,bA e σ x (x.w.alloc (.cells ⟨cvs⟩ t)) d (.box (AV.clips (only d) cs)) l,h1.put hd (v:=.ptr d 0) ?_,rfl,hK,cP hb⟩
 simp[aB,bA,bT,l]
theorem Lw (h:SRel e σ x a) (d:Nat) (hd:d<e.n) (hdst:o.dst=some d) {t:TypeId} (ho:o.op=.alloc t) {i:TypeInfo} {zv:Value} (hi:P.info? t=some i) (hz:i.zero=some zv)
  {zero:List AV} (hzero:∀y:Cx,aD y zero zv.cells.toList) {K:St→Prop} (hK:K ((σ.newRow d (.box (AV.clips (only d) zero))).put d (.ptr d 0))):iB P e o a x.w K:=by
 refine FQ (t:=t) h d hd hdst (hzero x) ?_ hK
 simp[execOp,ho,Instr.alloc,zeroValue,typeInfo,hi,hz,newVar,newRow,newObj,Sem.run]
theorem PL (h:SRel e σ x a) (d:Nat) (hd:d<e.n) (hdst:o.dst=some d) {t:TypeId} {y:Operand} (ho:o.op=.box t y) {z:Opd} (hz:Opd.of y=some z) (hc:z.cd σ=true) (hk:Av (z.sv σ)=true)
  {K:St→Prop} (hK:K ((σ.newRow d (.box (AV.clips (only d) (z.sv σ).cells))).put d (.ptr d 0))):iB P e o a x.w K:=by
 refine FQ (t:=t) h d hd hdst (gR (Opd.of_sv h hz hc) hk) ?_ hK
 simp[execOp,ho,Instr.box,newVar,newRow,newObj,Sem.run]
theorem SRel.value_ext (h:SRel e σ x a) {w':World} (hb:Below x.w.heap.size x.w w') {d:Nat} (hd:d<e.n) {v:AV} {cv:Value} (hv:aB ⟨w',x.F,x.ρ⟩ v cv):
  SRel e (σ.put d v) ⟨w',x.F,x.ρ⟩ (a.put (some d) cv):=(h.ext hb).put hd hv
theorem Ek (h:SRel e σ x a) {b:Nat} (hb:x.F b):b<x.w.heap.size:=by
 rcases(h.F b).1 hb with h0|⟨r,row,hm,hok,rfl⟩
 ·exact Nat.lt_of_lt_of_le (h.f0 b h0).1 h.below.size
 ·exact h.blk_lt r row hm hok
def iY:List AV→Bool
 | []=>true
 | v::vs=>Av v&&iY vs
theorem rD:∀{vs:List AV},iY vs=true→∀v∈vs,Av v=true
 | [],_,v,h=>by cases h
 | u::vs,ho,v,h=>by
  simp only[iY,Bool.and_eq_true]at ho
  rcases List.mem_cons.1 h with rfl|h
  ·exact ho.1
  ·exact rD ho.2 v h
def oX (s:Nat):List AV→Prop
 | []=>True
 | v::vs=>v.cells.length=s∧oX s vs
def AV.one:AV→Bool
 | .pv p=>p.one
 | .un|.agg _|.tup _|.whn _ _=>false
 | _=>true
theorem PV.one_rel {w:World} {F:Nat→Prop} {p:PV} {v:Value} (h:aG w F p v) (ho:p.one=true):v.oneCell'=true:=by
 cases p<;>simp only[aG]at h<;>simp only[PV.one]at ho
 case sc c=>subst h;exact ho
 case lst xs=>obtain⟨_,_,_,rfl,_⟩:=h;rfl
 case fn f xs=>obtain⟨_,rfl,_⟩:=h;rfl
 case pt xs=>obtain⟨_,_,rfl,_⟩:=h;rfl
 all_goals cases ho
theorem AV.one_rel {v:AV} {cv:Value} (h:aB x v cv) (ho:v.one=true):cv.oneCell'=true:=by
 cases v<;>simp only[aB]at h<;>simp only[AV.one]at ho
 case pv p=>exact PV.one_rel h ho
 case e0=>obtain⟨_,rfl⟩:=h;rfl
 case lit xs=>obtain⟨_,_,_,rfl,_⟩:=h;rfl
 case row r off n=>rcases h with⟨_,_,_,rfl⟩|⟨_,_,rfl,_⟩<;>rfl
 case ptr=>subst h;rfl
 case rptr=>subst h;rfl
 case eptr=>obtain⟨_,_,rfl,_⟩:=h;rfl
 case cptr=>obtain⟨_,_,rfl,_⟩:=h;rfl
 case ful=>obtain⟨_,_,rfl,_⟩:=h;rfl
 case fn=>obtain⟨_,rfl,_⟩:=h;rfl
 case bnd=>obtain⟨_,rfl,_⟩:=h;rfl
 case mp=>subst h;rfl
 case it=>subst h;rfl
 all_goals cases ho
theorem aD.sizes {s:Nat}:∀{vs:List AV} {cvs:List Value},aD x vs cvs→iY vs=true→oX s vs→∀c∈cvs,c.cells.size=s
 | [],_,h,_,_,c,hc=>by simp only[aD]at h;subst h;cases hc
 | v::vs,_,h,ho,hw,c,hc=>by
  simp only[aD]at h
  obtain⟨u,r,rfl,h1,h2⟩:=h
  simp only[iY,Bool.and_eq_true]at ho
  simp only[oX]at hw
  rcases List.mem_cons.1 hc with rfl|hc
  ·have:=(gR h1 ho.1).length
   rw[hw.1]at this;simpa using this
  ·exact aD.sizes h2 ho.2 hw.2 c hc
structure LitOf (P:Program) (o:Oper) (zs:List Opd) (s:Nat):Prop where
 it:∃t et i zv parts ys,o.op=.buildSlice t ys.length parts∧parts.toList=ys.zipIdx.map (fun q=>(q.2,q.1))∧fA ys=some zs∧P.underlying t=some (.slice et)∧P.info? et=some i∧
  i.zero=some zv∧0<i.size∧i.size=s
theorem oQ (ev:Operand→Value):∀(ys:List Operand) (k:Nat),((ys.zipIdx k).map fun q=>(q.2,q.1)).map (fun q=>(q.1,ev q.2))=((ys.map ev).zipIdx k).map fun q=>(q.2,q.1)
 | [],_=>rfl
 | y::ys,k=>by simp only[List.zipIdx_cons,List.map_cons,oQ ev ys (k+1)]
theorem FI (h:SRel e σ x a) {zs:List Opd} {s:Nat} (hl:LitOf P o zs s) (hcd:e8 σ zs=true) (hok:iY (eD σ zs)=true) (hw:oX s (eD σ zs)) (hn:zs.length*s≤16777216):
  ∃cvs et,aD x (eD σ zs) cvs∧cvs.length=zs.length∧(∀c∈cvs,c.cells.size=s)∧∀w',(execOp a.eval o).run P w'=.ok (.value (.slice (some ⟨w'.heap.size,0,none⟩) cvs.length cvs.length)) (w'.alloc (.cells ⟨Value.allCells cvs⟩ et)):=by
 obtain⟨t,et,i,zv,parts,ys,ho,hp,hz,ht,hi,hzv,hs0,rfl⟩:=hl.it
 have hr:=iK h hz hcd
 have hlen:(ys.map a.eval).length=zs.length:=by
  have:(eD σ zs).length=zs.length:=by
   clear hr hok hw hcd hl hn hz
   induction zs with
   | nil=>rfl
   | cons z zs ih=>simp[eD,ih]
  rw[hr.length,this]
 refine⟨ys.map a.eval,et,hr,hlen,hr.sizes hok hw,fun w'=>?_⟩
 have hsz:=hr.sizes hok hw
 have e1:(parts.map fun q=>(q.1,a.eval q.2))=(((ys.map a.eval).zipIdx).map fun q=>(q.2,q.1)).toArray:=by
  apply Array.toList_inj.1
  simp only[Array.toList_map,hp,oQ]
 have:=Ar (P:=P) (w:=w') ht hi hzv hs0 (ys.map a.eval) hsz (by rw[hlen];exact hn)
 rw[List.length_map]at this
 simp only[execOp,ho]
 simp only[Sem.run_bind]
 rw[show(parts.map fun(i,x)=>(i,a.eval x))=(((ys.map a.eval).zipIdx).map fun q=>(q.2,q.1)).toArray from e1,this]
 simp
theorem NZ (h:SRel e σ x a) (d:Nat) (hd:d<e.n) (hdst:o.dst=some d) {zs:List Opd} {s:Nat} (hl:LitOf P o zs s) (hcd:e8 σ zs=true) (hok:iY (eD σ zs)=true) (hw:oX s (eD σ zs)) (hn:zs.length*s≤16777216)
  {K:St→Prop} (hK:K (σ.put d (oP (eD σ zs)))):iB P e o a x.w K:=by
 intro Q
 obtain⟨cvs,et,hr,hlen,_,hrun⟩:=FI h hl hcd hok hw hn
 refine aT (hrun x.w) ?_
 have hb:=dT x.w (.cells ⟨Value.allCells cvs⟩ et)
 rw[hdst]
 refine⟨_,_,h.value_ext hb hd (v:=oP (eD σ zs)) ?_,rfl,hK,cP hb⟩
 have kept:Kept x ⟨x.w.alloc (.cells ⟨Value.allCells cvs⟩ et),x.F,x.ρ⟩:=⟨hb.size,fun b _ hl=>hb.block b hl,fun b _ hy=>hy⟩
 have hr':=hr.kept kept rfl
 have hA:=aS.of (x:=⟨x.w.alloc (.cells ⟨Value.allCells cvs⟩ et),x.F,x.ρ⟩) hr' (rD hok) (aV.of_heap (d8 _ _))
 have hnF:¬x.F x.w.heap.size:=fun hF=>by have:=Ek h hF;omega
 have hlt:x.w.heap.size<(x.w.alloc (.cells ⟨Value.allCells cvs⟩ et)).heap.size:=by simp
 unfold oP
 split
 ·rename_i hps
  simp only[aB]
  have hpl:=(dN hps hr).length
  simp only[List.length_nil]at hpl
  exact⟨some ⟨x.w.heap.size,0,none⟩,by rw[hpl]⟩
 ·rename_i ps _ hps
  simp only[aB,aG]
  have hpl:=(dN hps hr).length
  exact⟨_,_,_,rfl,hpl,Nat.le_refl _,fun _=>⟨_,_,rfl,hlt,hnF,aS.pure hps hA⟩⟩
 ·simp only[aB]
  exact⟨_,_,_,rfl,hr.length,Nat.le_refl _,fun _=>⟨_,_,rfl,hlt,hnF,hA⟩⟩
theorem Dn:∀{vs:List AV} {cvs:List Value},aD x vs cvs→(∀v∈vs,AV.one v=true)→∀c∈cvs,c.oneCell'=true
 | [],_,h,_,c,hc=>by simp only[aD]at h;subst h;cases hc
 | v::vs,_,h,ho,c,hc=>by
  simp only[aD]at h
  obtain⟨u,r,rfl,h1,h2⟩:=h
  rcases List.mem_cons.1 hc with rfl|hc
  ·exact AV.one_rel h1 (ho v (by simp))
  ·exact Dn h2 (fun v hv=>ho v (List.mem_cons_of_mem _ hv)) c hc
theorem sA:∀{vs:List AV} {cvs:List Value},aD x vs cvs→(∀v∈vs,Av v=true)→(∀v∈vs,∀c∈v.cells,AV.one c=true)→∀c∈Value.allCells cvs,c.oneCell'=true
 | [],_,h,_,_,c,hc=>by simp only[aD]at h;subst h;cases hc
 | v::vs,_,h,hk,ho,c,hc=>by
  simp only[aD]at h
  obtain⟨u,r,rfl,h1,h2⟩:=h
  simp only[Value.allCells]at hc
  rcases List.mem_append.1 hc with hc|hc
  ·exact Dn (gR h1 (hk v (by simp))) (ho v (by simp)) c hc
  ·exact sA h2 (fun v hv=>hk v (List.mem_cons_of_mem _ hv)) (fun v hv=>ho v (List.mem_cons_of_mem _ hv)) c hc
theorem PF (h:SRel e σ x a) (d:Nat) (hd:d<e.n) (hdst:o.dst=some d) {zs:List Opd} {s:Nat} (hl:LitOf P o zs s) (hcd:e8 σ zs=true) (hok:iY (eD σ zs)=true) (hw:oX s (eD σ zs)) (hn:zs.length*s≤16777216) (hone:∀v∈eD σ zs,∀c∈v.cells,AV.one c=true)
  {ps:List PV} (hps:cH (eD σ zs)=some ps) {K:St→Prop} (hK:K ((σ.newRow d (.sl s ps)).put d (.row d 0 zs.length))):iB P e o a x.w K:=by
 intro Q
 obtain⟨cvs,et,hr,hlen,hsz,hrun⟩:=FI h hl hcd hok hw hn
 refine aT (hrun x.w) ?_
 have hb:=dT x.w (.cells ⟨Value.allCells cvs⟩ et)
 rw[hdst]
 let l:Loc:=⟨x.w.heap.size,0,cvs.length,s,true,ps.length⟩
 have kept:=n9 h hb d (.sl s ps) l (fun _=>Nat.le_refl _)
 have hr':=aD.clip kept (tI d (.sl s ps) l) _ hr
 have hpl:=(dN hps hr).length
 have hpure:AV.clips (only d) (eD σ zs)=eD σ zs:=by
  have:∀{vs:List AV} {ps:List PV},cH vs=some ps→AV.clips (only d) vs=vs:=by
   intro vs
   induction vs with
   | nil=>intro _ _;rfl
   | cons v vs ih=>
    intro ps hp
    cases v with
    | pv p=>
     simp only[cH]at hp
     split at hp
     ·rename_i qs hq;simp only[AV.clips,AV.clip,ih hq]
     ·cases hp
    | e0=>
     simp only[cH]at hp
     split at hp
     ·rename_i qs hq;simp only[AV.clips,AV.clip,ih hq]
     ·cases hp
    | _=>simp[cH]at hp
  exact this hps
 rw[hpure]at hr'
 have hA:=aS.of hr' (rD hok) (aV.of_heap (w:=(bA e σ x _ d (.sl s ps) l).w) (d8 _ _))
 have hcl:∀{vs:List AV} {ps:List PV},cH vs=some ps→oX s vs→(∀v∈vs,∀c∈v.cells,AV.one c=true)→cY s ps:=by
  intro vs
  induction vs with
  | nil=>intro ps hp _ _ p hm;simp only[cH,Option.some.injEq]at hp;subst hp;cases hm
  | cons v vs ih=>
   intro ps hp hw h1 p hm
   simp only[oX]at hw
   cases v with
   | pv q=>
    simp only[cH]at hp
    split at hp
    ·rename_i qs hq
     injection hp with hp;subst hp
     rcases List.mem_cons.1 hm with rfl|hm
     ·exact⟨by simpa[AV.cells]using hw.1,fun c hc=>by simpa[AV.one]using h1 (.pv p) (by simp) (.pv c) (by simp only[AV.cells];exact List.mem_map.2 ⟨c,hc,rfl⟩)⟩
     ·exact ih hq hw.2 (fun v hv=>h1 v (List.mem_cons_of_mem _ hv)) p hm
    ·cases hp
   | e0=>
    simp only[cH]at hp
    split at hp
    ·rename_i qs hq
     injection hp with hp;subst hp
     rcases List.mem_cons.1 hm with rfl|hm
     ·exact⟨by simpa[AV.cells,PV.cells]using hw.1,fun c hc=>by simp only[PV.cells,List.mem_singleton]at hc;subst hc;rfl⟩
     ·exact ih hq hw.2 (fun v hv=>h1 v (List.mem_cons_of_mem _ hv)) p hm
    ·cases hp
   | _=>simp[cH]at hp
 have h1:=SRel.fresh h hb d (.sl s ps) l (fun _=>Nat.le_refl _) (.inr ⟨rfl,rfl,⟨rfl,by simp only[l];omega⟩,hcl hps hw hone,Fi _ _ _ _ (by simp only[l,Nat.zero_add];rw[oS cvs hsz];exact Nat.le_refl _) (sA hr (rD hok) hone),aS.pure hps hA⟩) (by have:=h.small;omega)
 refine⟨_,_,h1.put hd (v:=.row d 0 zs.length) ?_,rfl,hK,cP hb⟩
 simp only[aB]
 refine .inr ⟨cvs.length,by simp[bA,bT,l],by simp[bA,bT,l,hlen],by omega,by simp[bA,bT,l],by simp[bA,bT,l];omega⟩
end
end Go.Vc

namespace Go.Vc
open Go.RowKit
section
variable {P:Program} {e:Env} {σ:St} {x:Cx} {a:Act} {o:Oper}
theorem aV.madeCells {w:World} {b:Nat} {z:Array Value} {s n k:Nat} {t:TypeId} {fz:Nat×Nat} (h:w.heap[b]?=some (.cells (madeCells z (n*s)) t fz)) (hz:z.size=s) (hk:k<n):
  aV w b (k*s) z.toList:=fun j c hj=>by
 have hj':j<s:=by have:=(List.getElem?_eq_some_iff.1 hj).1;simpa[hz]using this
 have hlt:k*s+j<n*s:=by
  have:(k+1)*s≤n*s:=Nat.mul_le_mul_right _ hk
  rw[Nat.succ_mul]at this;omega
 have hm:(k*s+j)%z.size=j:=by rw[hz,Nat.mul_comm,Nat.mul_add_mod];exact Nat.mod_eq_of_lt hj'
 have hc:z[j]?=some c:=by simpa using hj
 obtain⟨h2,h3⟩:=Array.getElem?_eq_some_iff.1 hc
 simp only[World.cell?,h,Go.madeCells]
 simp[hlt,hm,h2,h3]
theorem aJ.replicate {w:World} {F:Nat→Prop} {p:PV} {s:Nat} (hp:p.cells.length=s) {b:Nat}:∀(n o':Nat),(∀k,k<n→aN w F p.cells b (o'+k*s))→aJ w F (List.replicate n p) b o'
 | 0,_,_=>by simp[aJ]
 | n+1,o',h=>by
  have h0:=h 0 (by omega)
  have rest:=aJ.replicate hp n (o'+s) fun k hk=>by
   have:=h (k+1) (by omega)
   rw[Nat.succ_mul]at this
   rw[show o'+s+k*s=o'+(k*s+s)by omega];exact this
  simp only[Nat.zero_mul,Nat.add_zero]at h0
  cases p with
  | agg cs=>simp only[List.replicate_succ,aJ];simp only[PV.cells]at hp h0;rw[hp];exact⟨h0,rest⟩
  | _=>
   simp only[PV.cells,List.length_cons,List.length_nil,Nat.zero_add]at hp
   subst hp
   simp only[PV.cells,aN,and_true]at h0
   simp only[List.replicate_succ,aJ]
   exact⟨h0,rest⟩
theorem AA {s:Nat} {p:PV} {n:Nat} (h:p.cells.length=s∧∀c∈p.cells,c.one=true):cY s (List.replicate n p):=fun q hq=>by
 rw[(List.mem_replicate.1 hq).2];exact h
theorem aE.ones {w:World} {F:Nat→Prop}:∀{ps:List PV} {vs:List Value},aE w F ps vs→(∀c∈ps,c.one=true)→∀c∈vs,c.oneCell'=true
 | [],_,h,_,c,hc=>by simp only[aE]at h;subst h;cases hc
 | p::ps,_,h,h1,c,hc=>by
  simp only[aE]at h
  obtain⟨u,r,rfl,h2,h3⟩:=h
  rcases List.mem_cons.1 hc with rfl|hc
  ·exact PV.one_rel h2 (h1 p (by simp))
  ·exact h3.ones (fun q hq=>h1 q (List.mem_cons_of_mem _ hq)) c hc
theorem As {z:Array Value} {n:Nat} (h:∀c∈z.toList,c.oneCell'=true) (hz:0<z.size):∀c∈(madeCells z n).toList,c.oneCell'=true:=fun c hc=>by
 simp only[Go.madeCells,Array.toList_map,Array.toList_range,List.mem_map]at hc
 obtain⟨k,_,rfl⟩:=hc
 have hk:k%z.size<z.size:=Nat.mod_lt _ hz
 rw[getElem!_pos z _ hk]
 exact h _ (by simp)
theorem q9:∀(vs L:List Value) (off:Nat),(∀c∈L,c.oneCell'=true)→(∀c∈vs,c.oneCell'=true)→∀c∈cL L off vs,c.oneCell'=true
 | [],_,_,h,_=>h
 | v::vs,L,off,h,h'=>q9 vs _ _ (fun c hc=>by
   rcases List.mem_or_eq_of_mem_set hc with h1|h1
   ·exact h c h1
   ·subst h1;exact h' c (by simp)) (fun c hc=>h' c (List.mem_cons_of_mem _ hc))
theorem PH (h:SRel e σ x a) (d:Nat) (hd:d<e.n) (hdst:o.dst=some d) {t et:TypeId} {yl yc:Operand} (ho:o.op=.makeSlice t yl yc) {i:TypeInfo} {zv:Value} (ht:P.underlying t=some (.slice et)) (hi:P.info? et=some i)
  (hz:i.zero=some zv) {kl kc:IntKind} {n c:Int} (hl:a.eval yl=.int kl n) (hc:a.eval yc=.int kc c) (h0:0≤n) (h1:n≤c) (h2:(i.bytes:Int)*c≤281474976710656) (h3:c≤9223372036854775807)
  {p:PV} (hp:∀(w:World) (F:Nat→Prop),aE w F p.cells zv.cells.toList) (hp1:∀c∈p.cells,c.one=true) (hzs:zv.cells.size=i.size) (hz0:0<i.size)
  {K:St→Prop} (hK:K ((σ.newRow d (.sl i.size (List.replicate n.toNat p))).put d (.row d 0 n.toNat))):iB P e o a x.w K:=by
 intro Q
 have hlen:p.cells.length=i.size:=by have:=(hp x.w x.F).length;rw[←this];simpa using hzs
 refine aT (v:=.slice (some ⟨x.w.heap.size,0,none⟩) n.toNat c.toNat) (w':=x.w.alloc (.cells (madeCells zv.cells (c.toNat*i.size)) et)) ?_ ?_
 ·simp[execOp,ho,hl,hc,run_make x.w t et i zv ht hi hz kl kc n c h0 h1 h2 h3]
 have hb:=dT x.w (.cells (madeCells zv.cells (c.toNat*i.size)) et)
 rw[hdst]
 let l:Loc:=⟨x.w.heap.size,0,c.toNat,i.size,true,n.toNat⟩
 have h4:=SRel.fresh h hb d (.sl i.size (List.replicate n.toNat p)) l (fun _=>Nat.le_refl _) (.inr ⟨rfl,rfl,⟨by simp[l],by simp only[l,List.length_replicate];omega⟩,AA ⟨hlen,hp1⟩,
  ⟨_,_,d8 _ _,by simp only[l,Nat.zero_add];simp[size_madeCells],As ((hp x.w x.F).ones hp1) (by rw[hzs];exact hz0)⟩,aJ.replicate hlen _ _ fun k hk=>by
   have:=aV.madeCells (w:=x.w.alloc (.cells (madeCells zv.cells (c.toNat*i.size)) et)) (d8 _ _) hzs (show k<c.toNat by omega)
   simp only[l,Nat.zero_add]
   exact aN.of (hp _ _) this⟩) (by have:=h.small;omega)
 refine⟨_,bA e σ x (x.w.alloc (.cells (madeCells zv.cells (c.toNat*i.size)) et)) d (.sl i.size (List.replicate n.toNat p)) l,h4.put hd (v:=.row d 0 n.toNat) ?_,rfl,hK,cP hb⟩
 simp only[aB]
 exact .inr ⟨c.toNat,by simp[bA,bT,l],by simp[bA,bT,l],by omega,by simp[bA,bT,l],by simp[bA,bT,l]⟩
theorem PG (h:SRel e σ x a) (d:Nat) (hd:d<e.n) (hdst:o.dst=some d) {t et:TypeId} {yl yc:Operand} (ho:o.op=.makeSlice t yl yc) {i:TypeInfo} {zv:Value} (ht:P.underlying t=some (.slice et)) (hi:P.info? et=some i)
  (hz:i.zero=some zv) {kl kc:IntKind} {n c:Int} (hl:a.eval yl=.int kl n) (hc:a.eval yc=.int kc c) (h0:0≤n) (hnc:n=c) (h2:(i.bytes:Int)*c≤281474976710656) (h3:c≤9223372036854775807)
  (hz1:zv=.slice none 0 0) (hs1:i.size=1)
  {K:St→Prop} (hK:K ((σ.newRow d (.bxs (List.replicate n.toNat .e0))).put d (.row d 0 n.toNat))):iB P e o a x.w K:=by
 intro Q
 subst hnc
 refine aT (v:=.slice (some ⟨x.w.heap.size,0,none⟩) n.toNat n.toNat) (w':=x.w.alloc (.cells (madeCells zv.cells (n.toNat*i.size)) et)) ?_ ?_
 ·simp[execOp,ho,hl,hc,run_make x.w t et i zv ht hi hz kl kc n n h0 (Int.le_refl _) h2 h3]
 have hb:=dT x.w (.cells (madeCells zv.cells (n.toNat*i.size)) et)
 have hzs:zv.cells.size=i.size:=by rw[hz1,hs1];rfl
 rw[hdst]
 let l:Loc:=⟨x.w.heap.size,0,n.toNat,1,true,n.toNat⟩
 have hcell:∀k,k<n.toNat→(x.w.alloc (.cells (madeCells zv.cells (n.toNat*i.size)) et)).cell? ⟨x.w.heap.size,k,none⟩=some (.slice none 0 0):=fun k hk=>by
  have:=aV.madeCells (w:=x.w.alloc (.cells (madeCells zv.cells (n.toNat*i.size)) et)) (d8 _ _) hzs hk 0 (.slice none 0 0) (by rw[hz1];rfl)
  simpa[hs1]using this
 have hAC:∀(z:Cx),z.w=x.w.alloc (.cells (madeCells zv.cells (n.toNat*i.size)) et)→∀(m k:Nat),k+m=n.toNat→aO z (List.replicate m .e0) x.w.heap.size k:=by
  intro z hzw m
  induction m with
  | zero=>intro k _;simp[aO]
  | succ m ih=>
   intro k hk
   simp only[List.replicate_succ,aO]
   exact⟨⟨_,by rw[hzw];exact hcell k (by omega),by simp[aB]⟩,ih (k+1) (by omega)⟩
 have h4:=SRel.fresh h hb d (.bxs (List.replicate n.toNat .e0)) l (fun _=>Nat.le_refl _) ⟨rfl,⟨rfl,by simp[l],by simp[l]⟩,
  ⟨_,_,d8 _ _,by simp only[l,Nat.zero_add];simp[size_madeCells,hs1]⟩,hAC _ rfl _ _ (by simp[l])⟩ (by have:=h.small;omega)
 refine⟨_,bA e σ x (x.w.alloc (.cells (madeCells zv.cells (n.toNat*i.size)) et)) d (.bxs (List.replicate n.toNat .e0)) l,h4.put hd (v:=.row d 0 n.toNat) ?_,rfl,hK,cP hb⟩
 simp only[aB]
 exact .inr ⟨n.toNat,by simp[bA,bT,l],by simp[bA,bT,l],by omega,by simp[bA,bT,l],by simp[bA,bT,l]⟩
def bW (w:World) (b:Nat) (L:List Value) (t:TypeId):World:={ w with heap:=w.heap.setIfInBounds b (.cells ⟨L⟩ t (0,0)) }
theorem fQ {w:World} {b:Nat} {L L':List Value} {t:TypeId} (h:w.heap[b]?=some (.cells ⟨L⟩ t (0,0))):(bW w b L' t).heap[b]?=some (.cells ⟨L'⟩ t (0,0)):=by
 have:=(Array.getElem?_eq_some_iff.1 h).1
 simp[bW,this]
theorem fE {w:World} {b b':Nat} {L':List Value} {t:TypeId} (h:b'≠b):(bW w b L' t).heap[b']?=w.heap[b']?:=by
 simp only[bW]
 rw[Array.getElem?_setIfInBounds_ne (fun e=>h e.symm)]
theorem gW (w:World) (b:Nat) (L':List Value) (t:TypeId):(bW w b L' t).heap.size=w.heap.size:=by simp[bW]
theorem wF {w:World} {b:Nat} {L:List Value} {t:TypeId} (h:w.heap[b]?=some (.cells ⟨L⟩ t (0,0))):bW w b L t=w:=by
 have hlt:=(Array.getElem?_eq_some_iff.1 h).1
 have hg:=(Array.getElem?_eq_some_iff.1 h).2
 unfold bW
 have:w.heap.setIfInBounds b (.cells ⟨L⟩ t (0,0))=w.heap:=by
  apply Array.ext_getElem?
  intro i
  by_cases hi:b=i
  ·subst hi;simp[hlt,hg]
  ·rw[Array.getElem?_setIfInBounds_ne hi]
 rw[this]
theorem AB {w:World} {b off:Nat} {L:List Value} {t:TypeId} {v:Value} (h:w.heap[b]?=some (.cells ⟨L⟩ t (0,0))) (hl:off<L.length) (hv:v.oneCell'=true):
  (store ⟨b,off,none⟩ v).run P w=.ok () (bW w b (L.set off v) t):=by
 have hc:w.cell? ⟨b,off,none⟩=some L[off]:=by simp[World.cell?,h,hl]
 have hf:w.frozen? ⟨b,off,none⟩=false:=by simp[World.frozen?,h]
 rw[run_store P w _ v _ hv,hc]
 simp only[hf,Bool.false_eq_true,if_false]
 congr 1
 have hlt:=(Array.getElem?_eq_some_iff.1 h).1
 have hg:=(Array.getElem?_eq_some_iff.1 h).2
 simp only[World.setCell,bW]
 congr 1
 apply Array.ext_getElem?
 intro i
 rw[Array.getElem?_modify]
 by_cases hi:b=i
 ·subst hi;simp[hlt,hg]
 ·rw[if_neg (by omega),Array.getElem?_setIfInBounds_ne hi]
theorem fN {b:Nat} {t:TypeId}:∀(vs:List Value) (w:World) (L:List Value) (base k:Nat),w.heap[b]?=some (.cells ⟨L⟩ t (0,0))→base+k+vs.length≤L.length→(∀v∈vs,v.oneCell'=true)→
  (storeCells ⟨b,base,none⟩ vs k).run P w=.ok () (bW w b (cL L (base+k) vs) t)
 | [],w,L,base,k,h,_,_=>by simp[storeCells,cL,wF h]
 | v::vs,w,L,base,k,h,hl,hv=>by
  simp only[List.length_cons]at hl
  have h1:=AB (P:=P) h (off:=base+k) (by omega) (hv v (by simp))
  have h2:=fN vs (bW w b (L.set (base+k) v) t) (L.set (base+k) v) base (k+1) (fQ h) (by simp;omega) (fun u hu=>hv u (List.mem_cons_of_mem _ hu))
  simp only[storeCells,Sem.run_bind,iO,h1,Result.andThen_ok,h2,cL]
  simp[bW,Nat.add_assoc]
theorem tS:∀(vs:List Value) (L:List Value) (off j:Nat),off+vs.length≤L.length→(cL L off vs)[j]?=if off≤j∧j<off+vs.length then vs[j-off]? else L[j]?
 | [],L,off,j,_=>by
  simp only[cL,List.length_nil,Nat.add_zero]
  rw[if_neg (by omega)]
 | v::vs,L,off,j,h=>by
  simp only[List.length_cons]at h
  simp only[cL]
  rw[tS vs (L.set off v) (off+1) j (by simp;omega)]
  by_cases h1:off+1≤j∧j<off+1+vs.length
  ·rw[if_pos h1,if_pos ⟨by omega,by simp;omega⟩]
   rw[show j-off=(j-(off+1))+1 by omega];simp
  ·rw[if_neg h1]
   by_cases h2:j=off
   ·subst h2
    rw[if_pos ⟨Nat.le_refl _,by simp⟩,Nat.sub_self,List.getElem?_cons_zero,List.getElem?_set_self (by omega)]
   ·rw[if_neg (by simp;omega),List.getElem?_set_ne (by omega)]
theorem aV.lay {w:World} {b base k:Nat} {L cvs vs:List Value} {t:TypeId} (h:w.heap[b]?=some (.cells ⟨L⟩ t (0,0))) (hc:aV w b base cvs) (hl:base+k+vs.length≤L.length) (hk:k+vs.length≤cvs.length):
  aV (bW w b (cL L (base+k) vs) t) b base (cL cvs k vs):=fun j c hj=>by
 rw[tS vs cvs k j hk]at hj
 simp only[World.cell?,fQ h,Option.isSome_none,Bool.false_eq_true,if_false]
 have e:(⟨cL L (base+k) vs⟩:Array Value)[base+j]?=(cL L (base+k) vs)[base+j]?:=by simp
 rw[e,tS vs L (base+k) (base+j) hl]
 by_cases h1:k≤j∧j<k+vs.length
 ·rw[if_pos h1]at hj
  rw[if_pos ⟨by omega,by omega⟩,←hj];congr 1;omega
 ·rw[if_neg h1]at hj
  rw[if_neg (by omega)]
  have:=hc j c hj
  simpa[World.cell?,h]using this
end
end Go.Vc

namespace Go.Vc
open Go.RowKit
section
variable {P:Program} {e:Env} {σ:St} {x:Cx} {a:Act} {o:Oper}
theorem wQ:∀l:List (Nat×AV),iH (fun _=>false) l=l
 | []=>rfl
 | (k,v)::r=>by simp only[iH,nJ,wQ r]
theorem Cw (r:Row):r.clip (fun _=>false)=r:=by
 cases r<;>simp only[Row.clip,dJ,Bool.false_eq_true,if_false]
theorem p8:∀l:List (Nat×Row),eG (fun _=>false) l=l
 | []=>rfl
 | (k,v)::r=>by simp only[eG,Cw,p8 r]
theorem SRel.write (h:SRel e σ x a) {r:Nat} {row row':Row} (hm:(r,row)∈σ.st) (hok:(x.ρ r).ok=true) {w':World} (hsize:w'.heap.size=x.w.heap.size) (hos:w'.os=x.w.os) (htape:w'.tape=x.w.tape)
  (hout:w'.output=x.w.output) (hdr:True) (hfar:∀b,b≠(x.ρ r).blk→w'.heap[b]?=x.w.heap[b]?) (hrow:row'.rel ⟨w',x.F,x.ρ⟩ (x.ρ r)):SRel e ⟨σ.fr,(r,row')::aQ σ.st r⟩ ⟨w',x.F,x.ρ⟩ a:=by
 have:=SRel.turn (y:=⟨w',x.F,x.ρ⟩) h r row' (fun _=>false) (Nat.le_of_eq hsize.symm) hos htape hout hdr (fun b _ hb=>hfar b (hb row hm hok)) (fun _ _=>rfl) (fun _ h=>by cases h) (fun _ _=>rfl)
  (fun _=>.inr ⟨⟨row,hm⟩,hok,rfl⟩) (fun b=>?_) hrow (.inr rfl)
 ·simpa only[wQ,p8]using this
 ·rw[h.F b,p8]
  constructor
  ·rintro(h0|⟨q,rw',h1,h2,h3⟩)
   ·exact .inl h0
   ·by_cases hq:q=r
    ·subst hq;exact .inr ⟨q,row',by simp,h2,h3⟩
    ·refine .inr ⟨q,rw',List.mem_cons_of_mem _ ?_,h2,h3⟩
     have:∀{l:List (Nat×Row)},(q,rw')∈l→(q,rw')∈aQ l r:=by
      intro l
      induction l with
      | nil=>intro h;cases h
      | cons u l ih=>
       intro hm
       obtain⟨k,v⟩:=u
       simp only[aQ]
       rcases List.mem_cons.1 hm with hm|hm
       ·injection hm with h4 h5;subst h4;subst h5;rw[if_neg hq];simp
       ·by_cases hk:k=r
        ·rw[if_pos hk];exact ih hm
        ·rw[if_neg hk];exact List.mem_cons_of_mem _ (ih hm)
     exact this h1
  ·rintro(h0|⟨q,rw',h1,h2,h3⟩)
   ·exact .inl h0
   ·rcases List.mem_cons.1 h1 with h1|h1
    ·injection h1 with h4 _;subst h4;exact .inr ⟨q,row,hm,h2,h3⟩
    ·exact .inr ⟨q,rw',(bE h1).1,h2,h3⟩
theorem eH (h:SRel e σ x a) {r:Nat} {row:Row} (hm:(r,row)∈σ.st) (hok:(x.ρ r).ok=true) {w':World} (hsize:w'.heap.size=x.w.heap.size) (hfar:∀b,b≠(x.ρ r).blk→w'.heap[b]?=x.w.heap[b]?):
  Kept x ⟨w',x.F,x.ρ⟩:=⟨Nat.le_of_eq hsize.symm,fun b hb _=>hfar b fun hbe=>hb ((h.F b).2 (.inr ⟨r,row,hm,hok,hbe.symm⟩)),fun _ _ h=>h⟩
def AV.allOne:List AV→Bool
 | []=>true
 | v::vs=>v.one&&AV.allOne vs
theorem oF:∀{vs:List AV} {cvs:List Value},aD x vs cvs→AV.allOne vs=true→∀c∈cvs,c.oneCell'=true
 | [],_,h,_,c,hc=>by simp only[aD]at h;subst h;cases hc
 | v::vs,_,h,ho,c,hc=>by
  simp only[aD]at h
  obtain⟨u,r,rfl,h1,h2⟩:=h
  simp only[AV.allOne,Bool.and_eq_true]at ho
  rcases List.mem_cons.1 hc with rfl|hc
  ·exact AV.one_rel h1 ho.1
  ·exact oF h2 ho.2 c hc
theorem qB {w:World} {t:TypeId} {i:TypeInfo} (hi:P.info? t=some i) {b off:Nat} {v:Value} (hn:v.cells.size=i.size) {L:List Value} {et:TypeId} (h:w.heap[b]?=some (.cells ⟨L⟩ et (0,0)))
  (hl:off+i.size≤L.length) (h1:∀c∈v.cells.toList,c.oneCell'=true):(Instr.storeAt t (.pointer (some ⟨b,off,none⟩)) v).run P w=.ok () (bW w b (cL L off v.cells.toList) et):=by
 have:=fN (P:=P) v.cells.toList w L off 0 h (by simp[hn];omega) h1
 simp only[Nat.add_zero]at this
 simp[Instr.storeAt,Instr.sureAddr,storeVar,sizeOf,typeInfo,hi,hn,this]
theorem Js (h:SRel e σ x a) (hdst:o.dst=none) {t:TypeId} {yp yv:Operand} (ho:o.op=.store t yp yv) {i:TypeInfo} (hi:P.info? t=some i) {r off:Nat} {v:AV} (hp:aB x (.ptr r off) (a.eval yp)) (hv:aB x v (a.eval yv))
  {cs:List AV} (hr:aL σ.st r=some (.box cs)) (hok:Av v=true) (hn:v.cells.length=i.size) (hone:AV.allOne v.cells=true) (hl:off+i.size≤cs.length) {K:St→Prop}
  (hK:K ⟨σ.fr,(r,.box (lay cs off v.cells))::aQ σ.st r⟩):∀Q,o.wp P a x.w (fun a' w'=>∃σ' y,SRel e σ' y a'∧y.w=w'∧K σ') Q:=by
 intro Q
 have hm:=aH hr
 have hrow:=h.st r _ hm
 simp only[Row.rel]at hrow
 obtain⟨hlok,⟨arr,et,hh,harr⟩,hcells⟩:=hrow
 simp only[aB]at hp
 have hcr:=gR hv hok
 have hcn:(a.eval yv).cells.size=i.size:=by have:=hcr.length;rw[hn]at this;simpa using this
 have hone':=oF hcr hone
 obtain⟨L⟩:=arr
 have hrun:=qB (P:=P) (w:=x.w) hi hcn hh (off:=(x.ρ r).base+off) (by simp at harr;omega) hone'
 unfold Oper.wp
 simp only[execOp,ho,hp]
 simp only[Sem.run_bind,hrun,Result.andThen_ok,Sem.run_pure,Oper.upon,hdst,Act.put]
 have hsz:=gW x.w (x.ρ r).blk (cL L ((x.ρ r).base+off) (a.eval yv).cells.toList) et
 have hfar:∀b,b≠(x.ρ r).blk→(bW x.w (x.ρ r).blk (cL L ((x.ρ r).base+off) (a.eval yv).cells.toList) et).heap[b]?=x.w.heap[b]?:=fun b hb=>fE hb
 have kept:=eH h hm hlok hsz hfar
 refine⟨_,_,h.write hm hlok hsz rfl rfl rfl trivial hfar ?_,rfl,hK⟩
 simp only[Row.rel]
 obtain⟨cvs,hc1,hc2⟩:=hcells.list
 refine⟨hlok,⟨_,et,fQ hh,by simp[fK,jN];simpa using harr⟩,aO.of (xL (hcr.kept kept rfl) (hc1.kept kept rfl)) ?_⟩
 have hcl:=hc1.length
 refine aV.lay hh hc2 ?_ ?_
 ·simp at harr;simp[hcn];omega
 ·simp[hcn];omega
theorem Jr (h:SRel e σ x a) (hdst:o.dst=none) {t:TypeId} {yp yv:Operand} (ho:o.op=.store t yp yv) {i:TypeInfo} (hi:P.info? t=some i) {r off:Nat} {v:AV} (hp:aB x (.rptr r off 0) (a.eval yp)) (hv:aB x v (a.eval yv))
  {cs:List AV} (hr:aL σ.st r=some (.bxs cs)) (hok:Av v=true) (hn:v.cells.length=i.size) (hn1:i.size=1) (hone:AV.allOne v.cells=true) (hl:off<cs.length) {K:St→Prop}
  (hK:K ⟨σ.fr,(r,.bxs (lay cs off v.cells))::aQ σ.st r⟩):∀Q,o.wp P a x.w (fun a' w'=>∃σ' y,SRel e σ' y a'∧y.w=w'∧K σ') Q:=by
 intro Q
 have hm:=aH hr
 have hrow:=h.st r _ hm
 simp only[Row.rel]at hrow
 obtain⟨hlok,⟨hs,hln,hcap⟩,⟨arr,et,hh,harr⟩,hcells⟩:=hrow
 simp only[aB,hs,Nat.mul_one,Nat.add_zero]at hp
 have hcr:=gR hv hok
 have hcn:(a.eval yv).cells.size=i.size:=by have:=hcr.length;rw[hn]at this;simpa using this
 have hone':=oF hcr hone
 obtain⟨L⟩:=arr
 have hrun:=qB (P:=P) (w:=x.w) hi hcn hh (off:=(x.ρ r).base+off) (by simp at harr;omega) hone'
 unfold Oper.wp
 simp only[execOp,ho,hp]
 simp only[Sem.run_bind,hrun,Result.andThen_ok,Sem.run_pure,Oper.upon,hdst,Act.put]
 have hsz:=gW x.w (x.ρ r).blk (cL L ((x.ρ r).base+off) (a.eval yv).cells.toList) et
 have hfar:∀b,b≠(x.ρ r).blk→(bW x.w (x.ρ r).blk (cL L ((x.ρ r).base+off) (a.eval yv).cells.toList) et).heap[b]?=x.w.heap[b]?:=fun b hb=>fE hb
 have kept:=eH h hm hlok hsz hfar
 refine⟨_,_,h.write hm hlok hsz rfl rfl rfl trivial hfar ?_,rfl,hK⟩
 simp only[Row.rel]
 obtain⟨cvs,hc1,hc2⟩:=hcells.list
 refine⟨hlok,⟨hs,by rw[jN];exact hln,by rw[jN];exact hcap⟩,⟨_,et,fQ hh,by simp[fK,jN];simpa using harr⟩,aO.of (xL (hcr.kept kept rfl) (hc1.kept kept rfl)) ?_⟩
 have hcl:=hc1.length
 refine aV.lay hh hc2 ?_ ?_
 ·simp at harr;simp[hcn];omega
 ·simp[hcn];omega
def flat:List PV→List PV
 | []=>[]
 | p::ps=>p.cells++flat ps
theorem aJ.cons_iff {w:World} {F:Nat→Prop} {p:PV} {ps:List PV} {b o':Nat}:aJ w F (p::ps) b o'↔aN w F p.cells b o'∧aJ w F ps b (o'+p.cells.length):=by
 cases p<;>simp[aJ,PV.cells,aN]
theorem aN.append_iff {w:World} {F:Nat→Prop}:∀{u v:List PV} {b o':Nat},aN w F (u++v) b o'↔aN w F u b o'∧aN w F v b (o'+u.length)
 | [],v,b,o'=>by simp[aN]
 | c::u,v,b,o'=>by
  simp only[List.cons_append,aN,aN.append_iff (u:=u),List.length_cons,and_assoc]
  rw[show o'+1+u.length=o'+(u.length+1)by omega]
theorem aJ.flat_iff {w:World} {F:Nat→Prop}:∀{ps:List PV} {b o':Nat},aJ w F ps b o'↔aN w F (flat ps) b o'
 | [],b,o'=>by simp[aJ,flat,aN]
 | p::ps,b,o'=>by rw[aJ.cons_iff,flat,aN.append_iff,aJ.flat_iff]
theorem aN.list {w:World} {F:Nat→Prop} {cs:List PV} {b o':Nat} (h:aN w F cs b o'):∃vs,aE w F cs vs∧aV w b o' vs:=by
 obtain⟨vs,_,h2,h3⟩:=h.cut 0 cs.length (by omega)
 exact⟨vs,by simpa using h2,by simpa using h3⟩
theorem cD {s:Nat}:∀{ps:List PV},cY s ps→(flat ps).length=ps.length*s
 | [],_=>by simp[flat]
 | p::ps,h=>by
  simp only[flat,List.length_append,(h p (by simp)).1,cD (fun q hq=>h q (List.mem_cons_of_mem _ hq)),List.length_cons,Nat.succ_mul];omega
def mL (cs:List PV) (off:Nat):List PV→List PV
 | []=>cs
 | v::vs=>mL (cs.set off v) (off+1) vs
theorem aE.set {w:World} {F:Nat→Prop}:∀{vs:List PV} {cs:List Value} {i:Nat} {v:PV} {c:Value},aE w F vs cs→aG w F v c→aE w F (vs.set i v) (cs.set i c)
 | [],_,_,_,_,h,_=>by simp only[aE]at h;subst h;simp[aE]
 | u::vs,_,0,v,c,h,hv=>by
  simp only[aE]at h
  obtain⟨v',r,rfl,h1,h2⟩:=h
  simp only[List.set_cons_zero,aE]
  exact⟨c,r,rfl,hv,h2⟩
 | u::vs,_,i+1,v,c,h,hv=>by
  simp only[aE]at h
  obtain⟨v',r,rfl,h1,h2⟩:=h
  simp only[List.set_cons_succ,aE]
  exact⟨v',r.set i c,rfl,h1,h2.set hv⟩
theorem yX {w:World} {F:Nat→Prop}:∀{vs:List PV} {vvs:List Value} {cs:List PV} {cvs:List Value} {off:Nat},aE w F vs vvs→aE w F cs cvs→aE w F (mL cs off vs) (cL cvs off vvs)
 | [],_,_,_,_,h,hc=>by simp only[aE]at h;subst h;exact hc
 | v::vs,_,cs,cvs,off,h,hc=>by
  simp only[aE]at h
  obtain⟨c,r,rfl,h1,h2⟩:=h
  simp only[mL,cL]
  exact yX h2 (hc.set h1)
theorem wL:∀(vs:List PV) (cs:List PV) (off:Nat),(mL cs off vs).length=cs.length
 | [],_,_=>rfl
 | v::vs,cs,off=>by simp only[mL,wL vs];simp
theorem Dy:∀(vs:List PV) (cs:List PV) (off:Nat),(∀c∈cs,c.one=true)→(∀c∈vs,c.one=true)→∀c∈mL cs off vs,c.one=true
 | [],_,_,h,_=>h
 | v::vs,cs,off,h,h'=>Dy vs _ _ (fun c hc=>by
   rcases List.mem_or_eq_of_mem_set hc with h1|h1
   ·exact h c h1
   ·subst h1;exact h' c (by simp)) (fun c hc=>h' c (List.mem_cons_of_mem _ hc))
theorem wM:∀(vs u v:List PV) (off:Nat),u.length≤off→mL (u++v) off vs=u++mL v (off-u.length) vs
 | [],_,_,_,_=>rfl
 | c::vs,u,v,off,h=>by
  simp only[mL]
  rw[List.set_append_right _ _ h,wM vs u _ (off+1) (by omega)]
  rw[show off+1-u.length=off-u.length+1 by omega]
theorem jP:∀(vs u v:List PV) (off:Nat),off+vs.length≤u.length→mL (u++v) off vs=mL u off vs++v
 | [],_,_,_,_=>rfl
 | c::vs,u,v,off,h=>by
  simp only[List.length_cons]at h
  simp only[mL]
  rw[List.set_append_left _ _ (by omega),jP vs _ v (off+1) (by simp;omega)]
def lV (p:PV) (off:Nat) (ps:List PV):PV:=match p with
 | .agg cs=>.agg (mL cs off ps)
 | q=>ps.getD 0 q
theorem r8 {p:PV} {off:Nat} {ps:List PV} (h:off+ps.length≤p.cells.length) (hp:0<ps.length) (h1:∀c∈ps,c.one=true):(lV p off ps).cells=mL p.cells off ps:=by
 cases p with
 | agg cs=>rfl
 | _=>
  simp only[PV.cells,List.length_cons,List.length_nil]at h
  match ps,hp,h with
  | [q],_,h=>
   simp only[List.length_cons,List.length_nil]at h
   obtain rfl:off=0:=by omega
   have hq:=h1 q (by simp)
   simp only[lV,List.getD_cons_zero,mL,PV.cells,List.set_cons_zero]
   cases q<;>simp[PV.one]at hq<;>rfl
theorem DC {s off:Nat} {ps:List PV}:∀{xs:List PV} {i:Nat},cY s xs→i<xs.length→off+ps.length≤s→0<ps.length→(∀c∈ps,c.one=true)→
  flat (xs.set i (lV (xs.getD i default) off ps))=mL (flat xs) (i*s+off) ps
 | [],i,_,hi,_,_,_=>by simp at hi
 | p::xs,0,hw,_,hl,hp,h1=>by
  have h0:=(hw p (by simp)).1
  simp only[List.getD_cons_zero,List.set_cons_zero,flat,Nat.zero_mul,Nat.zero_add]
  rw[r8 (by rw[h0];exact hl) hp h1,jP _ _ _ _ (by rw[h0];exact hl)]
 | p::xs,i+1,hw,hi,hl,hp,h1=>by
  have h0:=(hw p (by simp)).1
  simp only[List.getD_cons_succ,List.set_cons_succ,flat]
  rw[DC (s:=s) (fun q hq=>hw q (List.mem_cons_of_mem _ hq)) (by simpa using hi) hl hp h1,wM _ _ _ _ (by rw[h0,Nat.succ_mul];omega)]
  rw[show(i+1)*s+off-p.cells.length=i*s+off by rw[h0,Nat.succ_mul];omega]
theorem KD {s off:Nat} {ps:List PV} {xs:List PV} {i:Nat} (hw:cY s xs) (hi:i<xs.length) (hl:off+ps.length≤s) (hp:0<ps.length) (h1:∀c∈ps,c.one=true):
  cY s (xs.set i (lV (xs.getD i default) off ps)):=fun q hq=>by
 rcases List.mem_or_eq_of_mem_set hq with h|h
 ·exact hw q h
 ·have hm:xs.getD i default∈xs:=by simp[List.getD_eq_getElem?_getD,hi]
  have h0:=hw _ hm
  subst h
  have e:=r8 (p:=xs.getD i default) (off:=off) (ps:=ps) (by rw[h0.1];exact hl) hp h1
  rw[e]
  exact⟨by rw[wL];exact h0.1,Dy _ _ _ h0.2 h1⟩
theorem Lp (h:SRel e σ x a) (hdst:o.dst=none) {t:TypeId} {yp yv:Operand} (ho:o.op=.store t yp yv) {i:TypeInfo} (hi:P.info? t=some i) {r k off:Nat} {v:AV} (hp:aB x (.rptr r k off) (a.eval yp)) (hv:aB x v (a.eval yv))
  {s:Nat} {xs:List PV} (hr:aL σ.st r=some (.sl s xs)) (hok:Av v=true) (hn:v.cells.length=i.size) (hpos:0<i.size) {ps:List PV} (hps:cH v.cells=some ps) (hone:∀c∈ps,c.one=true) (hk:k<xs.length)
  (hl:off+i.size≤s) {K:St→Prop}
  (hK:K ⟨σ.fr,(r,.sl s (xs.set k (lV (xs.getD k default) off ps)))::aQ σ.st r⟩):∀Q,o.wp P a x.w (fun a' w'=>∃σ' y,SRel e σ' y a'∧y.w=w'∧K σ') Q:=by
 intro Q
 have hm:=aH hr
 have hrow:=h.st r _ hm
 simp only[Row.rel]at hrow
 rcases hrow with⟨_,hx⟩|⟨hls,hlok,⟨hln,hcap⟩,hwf,⟨arr,et,hh,harr,hao⟩,hcells⟩
 ·subst hx;simp at hk
 simp only[aB]at hp
 have hcr:=gR hv hok
 have hpr:=dN hps hcr
 have hcn:(a.eval yv).cells.size=i.size:=by have:=hcr.length;rw[hn]at this;simpa using this
 have hpl:ps.length=i.size:=by have:=hpr.length;simp only[Array.length_toList]at this;omega
 have hone':∀c∈(a.eval yv).cells.toList,c.oneCell'=true:=by
  have:∀{ps:List PV} {vs:List Value},aE x.w x.F ps vs→(∀c∈ps,c.one=true)→∀c∈vs,c.oneCell'=true:=by
   intro ps
   induction ps with
   | nil=>intro vs h _ c hc;simp only[aE]at h;subst h;cases hc
   | cons p ps ih=>
    intro vs h h1 c hc
    simp only[aE]at h
    obtain⟨u,r,rfl,h2,h3⟩:=h
    rcases List.mem_cons.1 hc with rfl|hc
    ·exact PV.one_rel h2 (h1 p (by simp))
    ·exact ih h3 (fun q hq=>h1 q (List.mem_cons_of_mem _ hq)) c hc
  exact this hpr hone
 obtain⟨L⟩:=arr
 have hks:(k+1)*s≤xs.length*s:=Nat.mul_le_mul_right _ hk
 have hcs:xs.length*s≤(x.ρ r).cap*s:=Nat.mul_le_mul_right _ hcap
 rw[Nat.succ_mul]at hks
 rw[hls]at harr hp
 have harr':(x.ρ r).base+(x.ρ r).cap*s≤L.length:=by simpa using harr
 have hrun:=qB (P:=P) (w:=x.w) hi hcn hh (off:=(x.ρ r).base+k*s+off) (by omega) hone'
 unfold Oper.wp
 simp only[execOp,ho,hp]
 simp only[Sem.run_bind,hrun,Result.andThen_ok,Sem.run_pure,Oper.upon,hdst,Act.put]
 have hsz:=gW x.w (x.ρ r).blk (cL L ((x.ρ r).base+k*s+off) (a.eval yv).cells.toList) et
 have hfar:∀b,b≠(x.ρ r).blk→(bW x.w (x.ρ r).blk (cL L ((x.ρ r).base+k*s+off) (a.eval yv).cells.toList) et).heap[b]?=x.w.heap[b]?:=fun b hb=>fE hb
 have kept:=eH h hm hlok hsz hfar
 refine⟨_,_,h.write hm hlok hsz rfl rfl rfl trivial hfar ?_,rfl,hK⟩
 simp only[Row.rel]
 refine .inr ⟨hls,hlok,⟨by simpa using hln,by simpa using hcap⟩,KD hwf hk (by omega) (by omega) hone,⟨_,et,fQ hh,by rw[hls];simp[fK];simpa using harr,q9 _ _ _ hao hone'⟩,?_⟩
 rw[aJ.flat_iff,DC hwf hk (by omega) (by omega) hone]
 rw[aJ.flat_iff]at hcells
 obtain⟨cvs,hc1,hc2⟩:=hcells.list
 have hcl:=hc1.length
 rw[cD hwf]at hcl
 have e1:(x.ρ r).base+k*s+off=(x.ρ r).base+(k*s+off):=by omega
 rw[e1]
 have k1:aE (bW x.w (x.ρ r).blk (cL L ((x.ρ r).base+(k*s+off)) (a.eval yv).cells.toList) et) x.F ps (a.eval yv).cells.toList:=by rw[←e1];exact aE.kept kept ps hpr
 have k2:aE (bW x.w (x.ρ r).blk (cL L ((x.ρ r).base+(k*s+off)) (a.eval yv).cells.toList) et) x.F (flat xs) cvs:=by rw[←e1];exact aE.kept kept _ hc1
 refine aN.of (yX k1 k2) (aV.lay hh hc2 ?_ ?_)
 ·simp[hcn];omega
 ·simp[hcn];omega
end
end Go.Vc

namespace Go.Vc
open Go.RowKit
set_option linter.constructorNameAsVariable false
section
variable {P:Program} {e:Env} {σ:St} {x:Cx} {a:Act} {o:Oper}
theorem Iz (h:SRel e σ x a) (d:Nat) (hd:d<e.n) (hdst:o.dst=some d) (hrun:(execOp a.eval o).run P x.w=.ok (.value (.map (some x.w.heap.size))) (x.w.alloc (.map #[] 0)))
  {K:St→Prop} (hK:K ((σ.newRow d (.mp [])).put d (.mp d))):iB P e o a x.w K:=by
 intro Q
 refine aT hrun ?_
 have hb:=dT x.w (.map #[] 0)
 let l:Loc:=⟨x.w.heap.size,0,0,0,true,0⟩
 have h1:=SRel.fresh h hb d (.mp []) l (fun _=>Nat.le_refl _) ⟨rfl,[],0,d8 _ _,rfl,fun i p e hp=>by simp at hp,rfl,fun i e he=>by simp at he⟩ (by have:=h.small;omega)
 rw[hdst]
 refine⟨_,bA e σ x (x.w.alloc (.map #[] 0)) d (.mp []) l,h1.put hd (v:=.mp d) ?_,rfl,hK,cP hb⟩
 simp[aB,bA,bT,l]
theorem PI (h:SRel e σ x a) (d:Nat) (hd:d<e.n) (hdst:o.dst=some d) {t:TypeId} (ho:o.op=.makeMap t none)
  {K:St→Prop} (hK:K ((σ.newRow d (.mp [])).put d (.mp d))):iB P e o a x.w K:=
 Iz h d hd hdst (by simp[execOp,ho,Instr.makeMap,newObj,Sem.run]) hK
theorem NX (h:SRel e σ x a) (d:Nat) (hd:d<e.n) (hdst:o.dst=some d) {t kt et:TypeId} {y:Operand} (ho:o.op=.makeMap t (some y)) (ht:P.underlying t=some (.map kt et)) {k:IntKind} {n:Int} (hy:a.eval y=.int k n)
  {K:St→Prop} (hK:K ((σ.newRow d (.mp [])).put d (.mp d))):iB P e o a x.w K:=
 Iz h d hd hdst (by simp[execOp,ho,hy,Instr.makeMap,run_underlying ht,asInt,asIntOf,newObj,Sem.run]) hK
def f9 (w:World) (b:Nat) (ents:List MapEntry) (clock:Nat):World:={ w with heap:=w.heap.setIfInBounds b (.map ⟨ents⟩ clock) }
theorem jF {w:World} {b:Nat} {es:Array MapEntry} {c:Nat} (h:w.heap[b]?=some (.map es c)) (ents:List MapEntry) (clock:Nat):(setObj b (.map ⟨ents⟩ clock)).run P w=.ok () (f9 w b ents clock):=by
 simp[setObj,Sem.run,h,f9]
theorem yR {w:World} {b:Nat} {es:Array MapEntry} {c:Nat} (h:w.heap[b]?=some (.map es c)) (ents:List MapEntry) (clock:Nat):(f9 w b ents clock).heap[b]?=some (.map ⟨ents⟩ clock):=by
 have:=(Array.getElem?_eq_some_iff.1 h).1
 simp[f9,this]
theorem u4 {w:World} {b b':Nat} (h:b'≠b) (ents:List MapEntry) (clock:Nat):(f9 w b ents clock).heap[b']?=w.heap[b']?:=by
 simp only[f9]
 rw[Array.getElem?_setIfInBounds_ne (Ne.symm h)]
theorem Iy (h:SRel e σ x a) (hdst:o.dst=none) {t kt et:TypeId} {y z u:Operand} {kk:Kk} (ho:o.op=.mapUpdate t y z u∨o.op=.insert t y z u) (ht:P.underlying t=some (.map kt et)) (hkt:xY P kt kk)
  {r:Nat} {k v:PV} {es:List (PV×PV)} (hr:aL σ.st r=some (.mp es)) (hy:aB x (.mp r) (a.eval y)) (hz:aB x (.pv k) (a.eval z)) (hu:aB x (.pv v) (a.eval u)) (h1:gA kk k) (h2:aW kk k es)
  {K:St→Prop} (hK:K ⟨σ.fr,(r,.mp (nP k v es))::aQ σ.st r⟩):∀Q,o.wp P a x.w (fun a' w'=>∃σ' y,SRel e σ' y a'∧y.w=w'∧K σ') Q:=by
 intro Q
 have hm:=aH hr
 have hrow:=h.st r _ hm
 simp only[Row.rel]at hrow
 obtain⟨hok,ents,clock,hh,hlen,hents,hclk,hborn⟩:=hrow
 simp only[aB]at hy hz hu
 have hop:execOp a.eval o=(do Instr.mapUpdate t (a.eval y) (a.eval z) (a.eval u);pure .skip):=by
  rcases ho with ho|ho<;>simp only[execOp,ho]
 unfold Oper.wp
 rw[hop,hy]
 have fin:∀(ents':List MapEntry) (clock':Nat),(Instr.mapUpdate t (.map (some (x.ρ r).blk)) (a.eval z) (a.eval u)).run P x.w=.ok () (f9 x.w (x.ρ r).blk ents' clock')→ents'.length=(nP k v es).length→
   (∀(i:Nat) p e,(nP k v es)[i]?=some p→ents'[i]?=some e→iP x p e)→clock'=ents'.length→(∀(i:Nat) e,ents'[i]?=some e→e.born=i)→
   Oper.upon P o a (fun a' w'=>∃σ' y,SRel e σ' y a'∧y.w=w'∧K σ') Q ((do Instr.mapUpdate t (.map (some (x.ρ r).blk)) (a.eval z) (a.eval u);pure .skip:Sem Next).run P x.w):=by
  intro ents' clock' hrun g1 g2 g3 g4
  simp only[Sem.run_bind,hrun,Result.andThen_ok,Sem.run_pure,Oper.upon,hdst,Act.put]
  have hfar:∀b,b≠(x.ρ r).blk→(f9 x.w (x.ρ r).blk ents' clock').heap[b]?=x.w.heap[b]?:=fun b hb=>u4 hb _ _
  have hsz:(f9 x.w (x.ρ r).blk ents' clock').heap.size=x.w.heap.size:=by simp[f9]
  have kept:=eH h hm hok hsz hfar
  refine⟨_,_,h.write hm hok hsz rfl rfl rfl trivial hfar ?_,rfl,hK⟩
  simp only[Row.rel]
  exact⟨hok,ents',clock',yR hh _ _,g1,fun i p e hp he=>⟨aG.kept kept _ (g2 i p e hp he).1,aG.kept kept _ (g2 i p e hp he).2⟩,g3,g4⟩
 obtain⟨res,hfind,hfound⟩:=fL (P:=P) hkt h1 hz es ents hlen hents h2
 cases res with
 | none=>
  obtain⟨_,f2⟩:=hfound.no rfl
  have f2:=f2 v
  refine fin (ents++[{ key:=a.eval z,val:=a.eval u,born:=clock }]) (clock+1) ?_ ?_ ?_ ?_ ?_
  ·have hrun:=jF (P:=P) hh (ents++[{ key:=a.eval z,val:=a.eval u,born:=clock }]) (clock+1)
   simp only[Instr.mapUpdate,Sem.run_bind,run_underlying ht,Result.andThen_ok,bR hh,bZ hkt h1 hz,hfind]
   simpa using hrun
  ·rw[f2];simp[hlen]
  ·intro i p e hp he
   rw[f2]at hp
   rcases Nat.lt_or_ge i es.length with hi|hi
   ·rw[List.getElem?_append_left hi]at hp
    rw[List.getElem?_append_left (by omega)]at he
    exact hents i p e hp he
   ·rw[List.getElem?_append_right hi]at hp
    rw[List.getElem?_append_right (by omega)]at he
    rw[hlen]at he
    cases hj:i-es.length with
    | zero=>
     rw[hj]at hp he
     simp only[List.getElem?_cons_zero,Option.some.injEq]at hp he
     subst hp;subst he
     exact⟨hz,hu⟩
    | succ n=>rw[hj]at hp;simp at hp
  ·simp[hclk]
  ·intro i e he
   rcases Nat.lt_or_ge i ents.length with hi|hi
   ·rw[List.getElem?_append_left hi]at he
    exact hborn i e he
   ·rw[List.getElem?_append_right hi]at he
    cases hj:i-ents.length with
    | zero=>
     rw[hj]at he
     simp only[List.getElem?_cons_zero,Option.some.injEq]at he
     subst he
     show clock=i
     omega
    | succ n=>rw[hj]at he;simp at he
 | some jv=>
  obtain⟨j,cv⟩:=jv
  obtain⟨p,q,en,_,_,f4,f5,f6,f7,f8⟩:=hfound.yes j cv rfl
  have f8:=f8 v
  have hen:=hents j _ _ f4 f5
  have hsb:=t8 f6 (f7 kk h2) hz hen.1
  have hjl:j<ents.length:=(List.getElem?_eq_some_iff.1 f5).1
  refine fin (ents.set j { en with key:=a.eval z,val:=a.eval u }) clock ?_ ?_ ?_ ?_ ?_
  ·have e1:((⟨ents⟩:Array MapEntry).modify j fun e=>{ e with key:=a.eval z,val:=a.eval u })=⟨ents.set j { en with key:=a.eval z,val:=a.eval u }⟩:=by
    apply Array.ext'
    simp only[Array.toList_modify]
    apply List.ext_getElem?
    intro i
    rw[List.getElem?_modify,List.getElem?_set]
    by_cases hij:j=i
    ·subst hij
     have f5':ents[j]=en:=by simpa[hjl]using f5
     simp[hjl,f5']
    ·simp[hij]
   have e2:(((⟨ents⟩:Array MapEntry)[j]?).map (·.key)).getD (a.eval z)=en.key:=by simp[f5]
   simp only[Instr.mapUpdate,Sem.run_bind,run_underlying ht,Result.andThen_ok,bR hh,bZ hkt h1 hz,hfind,e2,Instr.keyThatStays,hsb,if_true,Sem.run_pure,e1]
   exact jF (P:=P) hh _ _
  ·rw[f8];simp[hlen]
  ·intro i p' e' hp he
   rw[f8,List.getElem?_set]at hp
   rw[List.getElem?_set]at he
   by_cases hij:j=i
   ·subst hij
    simp only[if_true,hjl,hlen▸hjl,Option.some.injEq]at hp he
    subst hp;subst he
    exact⟨hz,hu⟩
   ·rw[if_neg hij]at hp he
    exact hents i p' e' hp he
  ·simp[hclk]
  ·intro i e' he
   rw[List.getElem?_set]at he
   by_cases hij:j=i
   ·subst hij
    simp only[if_true,hjl,Option.some.injEq]at he
    subst he
    exact hborn j en f5
   ·rw[if_neg hij]at he
    exact hborn i e' he
theorem xM (h:SRel e σ x a) (hdst:o.dst=none) {t kt et:TypeId} {y z u:Operand} {kk:Kk} (ho:o.op=.mapUpdate t y z u∨o.op=.insert t y z u) (ht:P.underlying t=some (.map kt et)) (hkt:xY P kt kk)
  {r:Nat} {row:Row} {k:PV} {v:AV} {ks:List PV} {vs:List AV} (hr:aL σ.st r=some row) (hok:(x.ρ r).ok=true) {ents:List MapEntry} {clock:Nat} (hh:x.w.heap[(x.ρ r).blk]?=some (.map ⟨ents⟩ clock)) (hlen:ents.length=ks.length) (hlv:vs.length=ks.length)
  (hents:∀(i:Nat) k v e,ks[i]?=some k→vs[i]?=some v→ents[i]?=some e→aG x.w x.F k e.key∧aB x v e.val) (hclk:clock=ents.length) (hborn:∀(i:Nat) e,ents[i]?=some e→e.born=i)
  (hy:aB x (.mp r) (a.eval y)) (hz:aB x (.pv k) (a.eval z)) (hu:aB x v (a.eval u)) (h1:gA kk k) (h2:aW kk k (LZ ks)) (h3:rJ k ks vs=none)
  {K:St→Prop} (hK:K ⟨σ.fr,(r,.mpx (ks++[k]) (vs++[v]))::aQ σ.st r⟩):∀Q,o.wp P a x.w (fun a' w'=>∃σ' y,SRel e σ' y a'∧y.w=w'∧K σ') Q:=by
 intro Q
 have hm:=aH hr
 simp only[aB]at hy hz
 have hop:execOp a.eval o=(do Instr.mapUpdate t (a.eval y) (a.eval z) (a.eval u);pure .skip):=by
  rcases ho with ho|ho<;>simp only[execOp,ho]
 unfold Oper.wp
 rw[hop,hy]
 obtain⟨res,hfind,hfound⟩:=fL (P:=P) hkt h1 hz (AH ks ents) ents (by rw[Cn hlen];exact hlen) (F5 hlen hlv hents) (y7 h2)
 have hres:res=none:=by
  cases res with
  | none=>rfl
  | some q=>
   obtain⟨j,cv⟩:=q
   obtain⟨p,_,_,g1,_⟩:=hfound.yes j cv rfl
   rw[(vA hlen hlv).2 h3]at g1
   cases g1
 subst hres
 obtain⟨ents',he'⟩:∃l,l=ents++[{ key:=a.eval z,val:=a.eval u,born:=clock }]:=⟨_,rfl⟩
 have hrun:(Instr.mapUpdate t (.map (some (x.ρ r).blk)) (a.eval z) (a.eval u)).run P x.w=.ok () (f9 x.w (x.ρ r).blk ents' (clock+1)):=by
  subst he'
  have hrun:=jF (P:=P) hh (ents++[{ key:=a.eval z,val:=a.eval u,born:=clock }]) (clock+1)
  simp only[Instr.mapUpdate,Sem.run_bind,run_underlying ht,Result.andThen_ok,bR hh,bZ hkt h1 hz,hfind]
  simpa using hrun
 simp only[Sem.run_bind,hrun,Result.andThen_ok,Sem.run_pure,Oper.upon,hdst,Act.put]
 have hfar:∀b,b≠(x.ρ r).blk→(f9 x.w (x.ρ r).blk ents' (clock+1)).heap[b]?=x.w.heap[b]?:=fun b hb=>u4 hb _ _
 have hsz:(f9 x.w (x.ρ r).blk ents' (clock+1)).heap.size=x.w.heap.size:=by simp[f9]
 have kept:=eH h hm hok hsz hfar
 refine⟨_,_,h.write hm hok (row':=.mpx (ks++[k]) (vs++[v])) hsz rfl rfl rfl trivial hfar ?_,rfl,hK⟩
 simp only[Row.rel]
 refine⟨hok,ents',clock+1,yR hh _ _,by subst he';simp[hlen],by simp[hlv],fun i q w en hq hw he=>?_,by subst he';simp[hclk],fun i en he=>?_⟩
 ·have hk:∀{s:AV} {cv:Value},aB x s cv→aB ⟨f9 x.w (x.ρ r).blk ents' (clock+1),x.F,x.ρ⟩ s cv:=fun hs=>aB.kept kept rfl hs
  rcases Nat.lt_or_ge i ks.length with hi|hi
  ·rw[List.getElem?_append_left hi]at hq
   rw[List.getElem?_append_left (by omega)]at hw
   rw[he',List.getElem?_append_left (by omega)]at he
   exact⟨aG.kept kept _ (hents i q w en hq hw he).1,hk (hents i q w en hq hw he).2⟩
  ·have hi2:i=ks.length:=by
    have:=(List.getElem?_eq_some_iff.1 hq).1
    simp at this;omega
   subst hi2
   simp at hq
   rw[←hlv]at hw
   simp at hw
   rw[he',←hlen]at he
   simp at he
   subst hq;subst hw;subst he
   exact⟨aG.kept kept _ hz,hk hu⟩
 ·rw[he']at he
  rcases Nat.lt_or_ge i ents.length with hi|hi
  ·rw[List.getElem?_append_left hi]at he
   exact hborn i en he
  ·have hi2:i=ents.length:=by
    have:=(List.getElem?_eq_some_iff.1 he).1
    simp at this;omega
   subst hi2
   simp at he
   subst he
   exact hclk
theorem q8 (h:SRel e σ x a) (hdst:o.dst=none) {r:Nat} {es es':List (Nat×PV×PV)} {ck ck':Nat} {ents ents':List MapEntry} (hr:aL σ.st r=some (.mpd es ck)) (hh:x.w.heap[(x.ρ r).blk]?=some (.map ⟨ents⟩ ck)) {v:Next}
  (hv:v=.skip∨∃u,v=.value u) (hrun:(execOp a.eval o).run P x.w=.ok v (f9 x.w (x.ρ r).blk ents' ck')) (hl:ents'.length=es'.length)
  (hents:∀(i:Nat) p e,es'[i]?=some p→ents'[i]?=some e→iP x p.2 e∧e.born=p.1) (hn:(es'.map (·.1)).Nodup) (hb:∀p∈es',p.1<ck')
  {K:St→Prop} (hK:K ⟨σ.fr,(r,.mpd es' ck')::aQ σ.st r⟩) (Q:Exit→Act→World→Prop):o.wp P a x.w (fun a' w'=>∃σ' y,SRel e σ' y a'∧y.w=w'∧K σ') Q:=by
 have hm:=aH hr
 have hrow:=h.st r _ hm
 simp only[Row.rel]at hrow
 obtain⟨hok,_⟩:=hrow
 have hfar:∀b,b≠(x.ρ r).blk→(f9 x.w (x.ρ r).blk ents' ck').heap[b]?=x.w.heap[b]?:=fun b hb=>u4 hb _ _
 have hsz:(f9 x.w (x.ρ r).blk ents' ck').heap.size=x.w.heap.size:=by simp[f9]
 have kept:=eH h hm hok hsz hfar
 have fin:∃σ' y,SRel e σ' y a∧y.w=f9 x.w (x.ρ r).blk ents' ck'∧K σ':=by
  refine⟨_,_,h.write hm hok (row':=.mpd es' ck') hsz rfl rfl rfl trivial hfar ?_,rfl,hK⟩
  simp only[Row.rel]
  exact⟨hok,ents',yR hh _ _,hl,fun i p e hp he=>⟨⟨aG.kept kept _ (hents i p e hp he).1.1,aG.kept kept _ (hents i p e hp he).1.2⟩,(hents i p e hp he).2⟩,hn,hb⟩
 unfold Oper.wp
 rw[hrun]
 rcases hv with rfl|⟨u,rfl⟩
 ·simpa only[Oper.upon,hdst,Act.put]using fin
 ·simpa only[Oper.upon,hdst,Act.put]using fin
theorem FZ (h:SRel e σ x a) (hdst:o.dst=none) {t kt et:TypeId} {y z u:Operand} {kk:Kk} (ho:o.op=.mapUpdate t y z u∨o.op=.insert t y z u) (ht:P.underlying t=some (.map kt et)) (hkt:xY P kt kk)
  {r:Nat} {k v:PV} {es:List (Nat×PV×PV)} {ck:Nat} (hr:aL σ.st r=some (.mpd es ck)) (hy:aB x (.mp r) (a.eval y)) (hz:aB x (.pv k) (a.eval z)) (hu:aB x (.pv v) (a.eval u)) (h1:gA kk k) (h2:aW kk k (oT es))
  {K:St→Prop} (hK:K ⟨σ.fr,(r,.mpd (kU k v ck es) (Ef k es ck))::aQ σ.st r⟩):∀Q,o.wp P a x.w (fun a' w'=>∃σ' y,SRel e σ' y a'∧y.w=w'∧K σ') Q:=by
 intro Q
 have hrow:=h.st r _ (aH hr)
 simp only[Row.rel]at hrow
 obtain⟨hok,ents,hh,hlen,hents,hbn,hbl⟩:=hrow
 simp only[aB]at hy hz hu
 have hop:execOp a.eval o=(do Instr.mapUpdate t (a.eval y) (a.eval z) (a.eval u);pure .skip):=by
  rcases ho with ho|ho<;>simp only[execOp,ho]
 rw[hy]at hop
 obtain⟨res,hfind,hfound⟩:=fL (P:=P) hkt h1 hz (oT es) ents (by rw[n5];exact hlen) (xP hents) h2
 have e2s:=A9 (k:=k) (v:=v) (c:=ck) es
 have e1s:=Bc (k:=k) (v:=v) (c:=ck) es
 have at_:∀(i:Nat) (p:Nat×PV×PV),(kU k v ck es)[i]?=some p→(nP k v (oT es))[i]?=some p.2∧((kU k v ck es).map (·.1))[i]?=some p.1:=fun i p hp=>by
  rw[←e2s]
  unfold oT
  simp[List.getElem?_map,hp]
 cases res with
 | none=>
  obtain⟨f1,f2⟩:=hfound.no rfl
  have f2:=f2 v
  rw[f2]at at_ e2s
  rw[if_pos f1]at e1s
  rw[e1s]at at_
  have hck:Ef k es ck=ck+1:=by unfold Ef;rw[f1]
  rw[hck]at hK
  have hlen2:(kU k v ck es).length=es.length+1:=by have:=congrArg List.length e1s;simpa using this
  refine q8 h hdst hr hh (ents':=ents++[{ key:=a.eval z,val:=a.eval u,born:=ck }]) (.inl rfl) ?_ (by rw[hlen2];simp[hlen]) ?_ ?_ ?_ hK Q
  ·have hrun:=jF (P:=P) hh (ents++[{ key:=a.eval z,val:=a.eval u,born:=ck }]) (ck+1)
   rw[hop]
   simp only[Instr.mapUpdate,Sem.run_bind,run_underlying ht,Result.andThen_ok,bR hh,bZ hkt h1 hz,hfind]
   have:(setObj (x.ρ r).blk (.map ((⟨ents⟩:Array MapEntry).push { key:=a.eval z,val:=a.eval u,born:=ck }) (ck+1))).run P x.w=.ok () (f9 x.w (x.ρ r).blk (ents++[{ key:=a.eval z,val:=a.eval u,born:=ck }]) (ck+1)):=by simpa using hrun
   simp only[this,Result.andThen_ok,Sem.run_pure]
  ·intro i p e hp he
   obtain⟨g1,g2⟩:=at_ i p hp
   rcases Nat.lt_or_ge i es.length with hi|hi
   ·rw[List.getElem?_append_left (by rw[n5];exact hi)]at g1
    rw[List.getElem?_append_left (by simpa using hi)]at g2
    rw[List.getElem?_append_left (by omega)]at he
    have hq:es[i]?=some es[i]:=List.getElem?_eq_getElem hi
    simp only[oT,List.getElem?_map,hq,Option.map_some,Option.some.injEq]at g1 g2
    have:=hents i es[i] e hq he
    rw[g1,g2]at this
    exact this
   ·rw[List.getElem?_append_right (by rw[n5];exact hi),n5]at g1
    rw[List.getElem?_append_right (by simpa using hi),List.length_map]at g2
    rw[List.getElem?_append_right (by omega),hlen]at he
    cases hj:i-es.length with
    | zero=>
     rw[hj]at g1 g2 he
     simp only[List.getElem?_cons_zero,Option.some.injEq]at g1 g2 he
     rw[←g1,←g2,←he]
     exact⟨⟨hz,hu⟩,rfl⟩
    | succ n=>rw[hj]at g1;simp at g1
  ·rw[e1s]
   refine List.nodup_append.2 ⟨hbn,by simp,fun q hq b hb=>?_⟩
   rw[List.mem_singleton]at hb
   subst hb
   obtain⟨p,hp,rfl⟩:=List.mem_map.1 hq
   have:=hbl p hp
   omega
  ·intro p hp
   have:p.1∈es.map (·.1)++[ck]:=by rw[←e1s];exact List.mem_map_of_mem hp
   rcases List.mem_append.1 this with hq|hq
   ·obtain⟨q,hq,he⟩:=List.mem_map.1 hq
    have:=hbl q hq
    omega
   ·rw[List.mem_singleton]at hq;omega
 | some jv=>
  obtain⟨j,cv⟩:=jv
  obtain⟨p,q,en,f1,_,f4,f5,f6,f7,f8⟩:=hfound.yes j cv rfl
  have f8:=f8 v
  rw[f8]at at_ e2s
  rw[if_neg (by rw[f1];simp)]at e1s
  rw[e1s]at at_
  have hck:Ef k es ck=ck:=by unfold Ef;rw[f1]
  rw[hck]at hK
  have hen:=xP hents j _ _ f4 f5
  have hsb:=t8 f6 (f7 kk h2) hz hen.1
  have hjl:j<ents.length:=(List.getElem?_eq_some_iff.1 f5).1
  have hlen2:(kU k v ck es).length=es.length:=by have:=congrArg List.length e1s;simpa using this
  refine q8 h hdst hr hh (ents':=ents.set j { en with key:=a.eval z,val:=a.eval u }) (.inl rfl) ?_ (by rw[hlen2];simp[hlen]) ?_ (by rw[e1s];exact hbn) ?_ hK Q
  ·have e1:((⟨ents⟩:Array MapEntry).modify j fun e=>{ e with key:=a.eval z,val:=a.eval u })=⟨ents.set j { en with key:=a.eval z,val:=a.eval u }⟩:=by
    apply Array.ext'
    simp only[Array.toList_modify]
    apply List.ext_getElem?
    intro i
    rw[List.getElem?_modify,List.getElem?_set]
    by_cases hij:j=i
    ·subst hij
     have f5':ents[j]=en:=by simpa[hjl]using f5
     simp[hjl,f5']
    ·simp[hij]
   have e2:(((⟨ents⟩:Array MapEntry)[j]?).map (·.key)).getD (a.eval z)=en.key:=by simp[f5]
   rw[hop]
   simp only[Instr.mapUpdate,Sem.run_bind,run_underlying ht,Result.andThen_ok,bR hh,bZ hkt h1 hz,hfind,e2,Instr.keyThatStays,hsb,if_true,Sem.run_pure,e1,jF (P:=P) hh]
  ·intro i p' e' hp he
   obtain⟨g1,g2⟩:=at_ i p' hp
   have hil:i<es.length:=by rw[←hlen2];exact(List.getElem?_eq_some_iff.1 hp).1
   have hq:es[i]?=some es[i]:=List.getElem?_eq_getElem hil
   simp only[List.getElem?_map,hq,Option.map_some,Option.some.injEq]at g2
   rw[List.getElem?_set]at g1 he
   by_cases hij:j=i
   ·subst hij
    simp only[if_true,hjl,n5,hil,Option.some.injEq]at g1 he
    have hb:=(hents j es[j] en hq f5).2
    rw[←g1,←he]
    exact⟨⟨hz,hu⟩,by rw[←g2];exact hb⟩
   ·rw[if_neg hij]at g1 he
    simp only[oT,List.getElem?_map,hq,Option.map_some,Option.some.injEq]at g1
    have:=hents i es[i] e' hq he
    rw[g1,g2]at this
    exact this
  ·intro p' hp'
   have:p'.1∈es.map (·.1):=by rw[←e1s];exact List.mem_map_of_mem hp'
   obtain⟨q',hq',he'⟩:=List.mem_map.1 this
   rw[←he']
   exact hbl q' hq'
theorem NY (h:SRel e σ x a) (hdst:o.dst=none) {t t2 kt et:TypeId} {y z:Operand} {kk:Kk} (ho:o.op=.call { callee:=.builtin .delete,args:=#[y,z],argTypes:=#[t,t2] }) (ht:P.underlying t=some (.map kt et)) (hkt:xY P kt kk)
  {r:Nat} {k:PV} {es:List (Nat×PV×PV)} {ck:Nat} (hr:aL σ.st r=some (.mpd es ck)) (hy:aB x (.mp r) (a.eval y)) (hz:aB x (.pv k) (a.eval z)) (h1:gA kk k) (h2:aW kk k (oT es))
  {K:St→Prop} (hK:K ⟨σ.fr,(r,.mpd (rX k es) ck)::aQ σ.st r⟩):∀Q,o.wp P a x.w (fun a' w'=>∃σ' y,SRel e σ' y a'∧y.w=w'∧K σ') Q:=by
 intro Q
 have hrow:=h.st r _ (aH hr)
 simp only[Row.rel]at hrow
 obtain⟨hok,ents,hh,hlen,hents,hbn,hbl⟩:=hrow
 simp only[aB]at hy hz
 have hexec:∀{w':World} {v:Value},(Builtin.delete_ #[t,t2] o.type #[a.eval y,a.eval z]).run P x.w=.ok v w'→(execOp a.eval o).run P x.w=.ok (.value v) w':=fun hr=>by
  simp[execOp,ho,resolve,invoke,builtin,hr]
 obtain⟨res,hfind,hfound⟩:=fL (P:=P) hkt h1 hz (oT es) ents (by rw[n5];exact hlen) (xP hents) h2
 rw[hy]at hexec
 cases res with
 | none=>
  rw[z1 es (hfound.no rfl).1]at hK
  refine q8 h hdst hr hh (ents':=ents) (.inr ⟨.tuple #[],rfl⟩) (hexec ?_) hlen hents hbn hbl hK Q
  have hrun:=jF (P:=P) hh ents ck
  simp[Builtin.delete_,run_underlying ht,bR hh,bZ hkt h1 hz,hfind,hrun]
 | some jv=>
  obtain⟨j,cv⟩:=jv
  obtain⟨p,q,en,f1,_,f4,f5,f6,_⟩:=hfound.yes j cv rfl
  have hjl:j<ents.length:=(List.getElem?_eq_some_iff.1 f5).1
  have he:=wK es j (hfound.fst j cv rfl) ⟨q,p,f4,f6⟩
  rw[he]at hK
  refine q8 h hdst hr hh (ents':=ents.eraseIdx j) (.inr ⟨.tuple #[],rfl⟩) (hexec ?_) ?_ ?_ ?_ ?_ hK Q
  ·have e1:(⟨ents⟩:Array MapEntry).eraseIdxIfInBounds j=⟨ents.eraseIdx j⟩:=by
    apply Array.ext'
    simp[Array.eraseIdxIfInBounds,hjl]
   have hrun:=jF (P:=P) hh (ents.eraseIdx j) ck
   simp[Builtin.delete_,run_underlying ht,bR hh,bZ hkt h1 hz,hfind,e1,hrun]
  ·rw[List.length_eraseIdx_of_lt hjl,List.length_eraseIdx_of_lt (by omega),hlen]
  ·intro i p' e' hp he'
   rw[List.getElem?_eraseIdx]at hp he'
   split at hp
   ·rename_i hij
    rw[if_pos hij]at he'
    exact hents i p' e' hp he'
   ·rename_i hij
    rw[if_neg hij]at he'
    exact hents (i+1) p' e' hp he'
  ·exact hbn.sublist ((List.eraseIdx_sublist es j).map _)
  ·exact fun p' hp'=>hbl p' ((List.eraseIdx_sublist es j).subset hp')
theorem Lq (h:SRel e σ x a) (d:Nat) (hd:d<e.n) (hdst:o.dst=some d) {t kt et:TypeId} {y:Operand} (ho:o.op=.range t y) (ht:P.underlying t=some (.map kt et))
  {r:Nat} {es:List (Nat×PV×PV)} {ck:Nat} (hr:aL σ.st r=some (.mpd es ck)) (hy:aB x (.mp r) (a.eval y)) (hrd:r≠d)
  {K:St→Prop} (hK:K ((σ.newRow d (.mid r ck (es.map (·.1)) (List.range es.length) none)).put d (.it d))):iB P e o a x.w K:=by
 intro Q
 have hrow:=h.st r _ (aH hr)
 simp only[Row.rel]at hrow
 obtain⟨hok,ents,hh,hlen,hents,hbn,hbl⟩:=hrow
 simp only[aB]at hy
 let ob:Obj:=.mapIter (some (x.ρ r).blk) ck #[] ck
 have hrun:(execOp a.eval o).run P x.w=.ok (.value (.pointer (some ⟨x.w.heap.size,0,none⟩))) (x.w.alloc ob):=by
  simp[execOp,ho,hy,Instr.range,run_underlying ht,bR hh,newObj,Sem.run,ob]
 refine aT hrun ?_
 have hb:=dT x.w ob
 let l:Loc:=⟨x.w.heap.size,0,0,0,true,0⟩
 let row:Row:=.mid r ck (es.map (·.1)) (List.range es.length) none
 have hρ:(bA e σ x (x.w.alloc ob) d row l).ρ r=x.ρ r:=by simp[bA,bT,hrd]
 have h1:=SRel.fresh h hb d row l (fun _=>Nat.le_refl _) (by
  simp only[row,Row.rel]
  refine⟨rfl,#[],?_,List.nodup_range,fun i=>?_,fun c hc=>by cases hc⟩
  ·rw[hρ]
   exact d8 _ _
  ·rw[List.mem_range]
   constructor
   ·intro hi
    exact⟨es[i].1,by simp[hi],by simp⟩
   ·rintro⟨b,hb,_⟩
    have:=(List.getElem?_eq_some_iff.1 hb).1
    simpa using this) (by have:=h.small;omega)
 rw[hdst]
 refine⟨_,bA e σ x (x.w.alloc ob) d row l,h1.put hd (v:=.it d) ?_,rfl,hK,cP hb⟩
 simp[aB,bA,bT,l]
theorem NU (h:SRel e σ x a) (d:Nat) (hd:d<e.n) (hdst:o.dst=some d) {t kt et:TypeId} {y:Operand} (ho:o.op=.range t y) (ht:P.underlying t=some (.map kt et))
  {r:Nat} {es:List (PV×PV)} (hr:aL σ.st r=some (.mp es)) (hy:aB x (.mp r) (a.eval y)) (hrd:r≠d)
  {K:St→Prop} (hK:K ((σ.newRow d (.mit r es.length (List.range es.length) none)).put d (.it d))):iB P e o a x.w K:=by
 intro Q
 have hrow:=h.st r _ (aH hr)
 simp only[Row.rel]at hrow
 obtain⟨hok,ents,clock,hh,hlen,hents,hclk,hborn⟩:=hrow
 simp only[aB]at hy
 let ob:Obj:=.mapIter (some (x.ρ r).blk) es.length #[] es.length
 have hrun:(execOp a.eval o).run P x.w=.ok (.value (.pointer (some ⟨x.w.heap.size,0,none⟩))) (x.w.alloc ob):=by
  have e1:clock=es.length:=by omega
  subst e1
  simp[execOp,ho,hy,Instr.range,run_underlying ht,bR hh,newObj,Sem.run,ob]
 refine aT hrun ?_
 have hb:=dT x.w ob
 let l:Loc:=⟨x.w.heap.size,0,0,0,true,0⟩
 let row:Row:=.mit r es.length (List.range es.length) none
 have hρ:(bA e σ x (x.w.alloc ob) d row l).ρ r=x.ρ r:=by simp[bA,bT,hrd]
 have h1:=SRel.fresh h hb d row l (fun _=>Nat.le_refl _) (by
  simp only[row,Row.rel]
  refine⟨rfl,#[],?_,List.nodup_range,fun i=>by simp,rfl,fun c hc=>by cases hc⟩
  rw[hρ]
  exact d8 _ _) (by have:=h.small;omega)
 rw[hdst]
 refine⟨_,bA e σ x (x.w.alloc ob) d row l,h1.put hd (v:=.it d) ?_,rfl,hK,cP hb⟩
 simp[aB,bA,bT,l]
theorem NT (h:SRel e σ x a) (d:Nat) (hd:d<e.n) (hdst:o.dst=some d) {t:TypeId} {y:Operand} (ho:o.op=.range t y) (ht:P.underlying t=some .string)
  {s:ByteArray} (hy:aB x (.pv (.sc (.string s))) (a.eval y)) {K:St→Prop} (hK:K ((σ.newRow d (.sit s 0)).put d (.it d))):iB P e o a x.w K:=by
 intro Q
 simp only[aB,aG]at hy
 have hrun:(execOp a.eval o).run P x.w=.ok (.value (.pointer (some ⟨x.w.heap.size,0,none⟩))) (x.w.alloc (.stringIter s 0)):=by
  simp[execOp,ho,hy,Instr.range,run_underlying ht,newObj,Sem.run]
 refine aT hrun ?_
 have hb:=dT x.w (.stringIter s 0)
 let l:Loc:=⟨x.w.heap.size,0,0,0,true,0⟩
 have h1:=SRel.fresh h hb d (.sit s 0) l (fun _=>Nat.le_refl _) ⟨rfl,d8 _ _⟩ (by have:=h.small;omega)
 rw[hdst]
 refine⟨_,bA e σ x (x.w.alloc (.stringIter s 0)) d (.sit s 0) l,h1.put hd (v:=.it d) ?_,rfl,hK,cP hb⟩
 simp[aB,bA,bT,l]
def hJ (w:World) (b:Nat) (ob:Obj):World:={ w with heap:=w.heap.setIfInBounds b ob }
theorem u0 {w:World} {b b':Nat} (h:b'≠b) (ob:Obj):(hJ w b ob).heap[b']?=w.heap[b']?:=by
 simp only[hJ]
 rw[Array.getElem?_setIfInBounds_ne (Ne.symm h)]
theorem yQ {w:World} {b:Nat} (h:b<w.heap.size) (ob:Obj):(hJ w b ob).heap[b]?=some ob:=by
 simp[hJ,h]
theorem NV (h:SRel e σ x a) (d:Nat) (hd:d<e.n) (hdst:o.dst=some d) {y:Operand} (ho:o.op=.next y true)
  {r:Nat} {s:ByteArray} {pos:Nat} (hr:aL σ.st r=some (.sit s pos)) (hy:aB x (.it r) (a.eval y)) {K:St→Prop}
  (hK1:pos<s.size→K (St.put ⟨σ.fr,(r,.sit s (pos+(Utf8.decode s pos).2))::aQ σ.st r⟩ d (.tup [aY true,dZ .i64 (pos:Nat),dZ .i32 ((Utf8.decode s pos).1:Nat)])))
  (hK2:¬pos<s.size→K (σ.put d (.tup [aY false]))):∀Q,o.wp P a x.w (fun a' w'=>∃σ' y,SRel e σ' y a'∧y.w=w'∧K σ') Q:=by
 intro Q
 have hm:=aH hr
 have hrow:=h.st r _ hm
 simp only[Row.rel]at hrow
 obtain⟨hok,hh⟩:=hrow
 simp only[aB]at hy
 have hlt:=(Array.getElem?_eq_some_iff.1 hh).1
 by_cases hp:pos<s.size
 ·have hrun:(execOp a.eval o).run P x.w=.ok (.value (.tuple #[.bool true,goInt (pos:Nat),.int .i32 ((Utf8.decode s pos).1:Nat)])) (hJ x.w (x.ρ r).blk (.stringIter s (pos+(Utf8.decode s pos).2))):=by
   simp[execOp,ho,hy,Instr.next,getObj,setObj,Sem.run,hh,hp,hJ]
  refine aT hrun ?_
  rw[hdst]
  have hfar:∀b,b≠(x.ρ r).blk→(hJ x.w (x.ρ r).blk (.stringIter s (pos+(Utf8.decode s pos).2))).heap[b]?=x.w.heap[b]?:=fun b hb=>u0 hb _
  have hw:=h.write hm hok (row':=.sit s (pos+(Utf8.decode s pos).2)) (w':=hJ x.w (x.ρ r).blk (.stringIter s (pos+(Utf8.decode s pos).2))) (by simp[hJ]) rfl rfl rfl trivial hfar ⟨hok,yQ hlt _⟩
  refine⟨_,_,hw.put hd (v:=.tup [aY true,dZ .i64 (pos:Nat),dZ .i32 ((Utf8.decode s pos).1:Nat)]) ?_,rfl,hK1 hp⟩
  simp only[aB,aD,aY,dZ,aG]
  exact⟨_,rfl,_,_,rfl,rfl,_,_,rfl,rfl,_,_,rfl,rfl,rfl⟩
 ·have hrun:(execOp a.eval o).run P x.w=.ok (.value (.tuple #[.bool false])) x.w:=by
   simp[execOp,ho,hy,Instr.next,getObj,Sem.run,hh,hp]
  refine aT hrun ?_
  rw[hdst]
  refine⟨_,_,h.put hd (v:=.tup [aY false]) ?_,rfl,hK2 hp⟩
  simp only[aB,aD,aY,aG]
  exact⟨_,rfl,_,_,rfl,rfl,rfl⟩
theorem NW (h:SRel e σ x a) (d:Nat) (hd:d<e.n) (hdst:o.dst=some d) {y:Operand} (ho:o.op=.next y false)
  {r m n:Nat} {rem:List Nat} {cur:Option Nat} {es:List (PV×PV)} (hr:aL σ.st r=some (.mit m n rem cur)) (hm:aL σ.st m=some (.mp es)) (hn:es.length=n) (hy:aB x (.it r) (a.eval y)) {K:St→Prop}
  (hK1:rem=[]→K (σ.put d (.tup [aY false])))
  (hK2:∀i,i∈rem→K (St.put ⟨σ.fr,(r,.mit m n (rem.erase i) (some i))::aQ σ.st r⟩ d (.tup [aY true,.pv (es.getD i default).1,.pv (es.getD i default).2]))):
  ∀Q,o.wp P a x.w (fun a' w'=>∃σ' y,SRel e σ' y a'∧y.w=w'∧K σ') Q:=by
 intro Q
 have hmem:=aH hr
 have hrow:=h.st r _ hmem
 have hmap:=h.st m _ (aH hm)
 simp only[Row.rel]at hrow hmap
 obtain⟨hok,seen,hh,hnd,hrem,hcur,hcn⟩:=hrow
 obtain⟨hokm,ents,clock,hhm,hlen,hents,hclk,hborn⟩:=hmap
 simp only[aB]at hy
 have hall:∀z∈(⟨ents⟩:Array MapEntry).toList,z.born<n:=fun z hz=>by
  obtain⟨i,hi,rfl⟩:=List.mem_iff_getElem.1 hz
  simp only at hi
  have:=hborn i ents[i] (List.getElem?_eq_getElem hi)
  show ents[i].born<n
  omega
 have key:=run_next_at (P:=P) x.w o.type (x.ρ r).blk (x.ρ m).blk n n seen ⟨ents⟩ clock hh hhm hall (Nat.le_refl _)
 have hexec:∀{rr:Result Value},(Instr.next (.pointer (some ⟨(x.ρ r).blk,0,none⟩)) false o.type).run P x.w=rr→(execOp a.eval o).run P x.w=rr.andThen fun v w=>.ok (.value v) w:=by
  intro rr hrr
  simp only[execOp,ho,hy,Sem.run_bind,hrr,Sem.run_pure]
 rcases key with⟨h0,hrun⟩|⟨en,hen,w1,hw1,hrun⟩
 ·have hr0:rem=[]:=by
   apply List.eq_nil_iff_forall_not_mem.2
   intro i hi
   obtain⟨h2,h3⟩:=(hrem i).1 hi
   have hil:i<ents.length:=by omega
   have:ents[i]∈(leftOf ⟨ents⟩ seen).toList:=by
    simp only[leftOf,Array.toList_filter,List.mem_filter]
    refine⟨List.getElem_mem hil,?_⟩
    rw[hborn i ents[i] (List.getElem?_eq_getElem hil),h3]
    rfl
   have h4:=List.length_pos_of_mem this
   simp only[Array.length_toList]at h4
   omega
  refine aT (v:=.tuple #[.bool false]) (w':=x.w) (by rw[hexec hrun];rfl) ?_
  rw[hdst]
  refine⟨_,_,h.put hd (v:=.tup [aY false]) ?_,rfl,hK1 hr0⟩
  simp only[aB,aD,aY,aG]
  exact⟨_,rfl,_,_,rfl,rfl,rfl⟩
 ·simp only[leftOf,Array.toList_filter,List.mem_filter]at hen
  obtain⟨hin,hns⟩:=hen
  obtain⟨i,hil,rfl⟩:=List.mem_iff_getElem.1 hin
  have hbi:=hborn i ents[i] (List.getElem?_eq_getElem hil)
  rw[hbi]at hns hrun
  have hir:i∈rem:=(hrem i).2 ⟨by omega,by simpa using hns⟩
  refine aT (v:=.tuple #[.bool true,ents[i].key,ents[i].val]) (w':=hJ w1 (x.ρ r).blk (.mapIter (some (x.ρ m).blk) n (seen.push i) clock)) (by rw[hexec hrun];rfl) ?_
  have hb1:Below x.w.heap.size x.w w1:=by
   rcases hw1 with rfl|rfl
   ·exact Below.refl _ _
   ·exact(Below.refl _ _).drew
  have h1:=h.ext hb1
  have hlt:(x.ρ r).blk<w1.heap.size:=Nat.lt_of_lt_of_le (Array.getElem?_eq_some_iff.1 hh).1 hb1.size
  have hfar:∀b,b≠(x.ρ r).blk→(hJ w1 (x.ρ r).blk (.mapIter (some (x.ρ m).blk) n (seen.push i) clock)).heap[b]?=w1.heap[b]?:=fun b hb=>u0 hb _
  have hsz:(hJ w1 (x.ρ r).blk (.mapIter (some (x.ρ m).blk) n (seen.push i) clock)).heap.size=w1.heap.size:=by simp[hJ]
  have hpe:∃p,es[i]?=some p:=⟨es[i]'(by omega),List.getElem?_eq_getElem _⟩
  obtain⟨p,hpe⟩:=hpe
  have hrel:=hents i p ents[i] hpe (List.getElem?_eq_getElem hil)
  have hd':es.getD i default=p:=by simp[List.getD_eq_getElem?_getD,hpe]
  have kept1:Kept x ⟨w1,x.F,x.ρ⟩:=⟨hb1.size,fun b _ hl=>hb1.block b hl,fun b _ hy=>hy⟩
  have kept2:=eH h1 hmem hok hsz hfar
  have hcl:clock=n:=by omega
  have hw:=h1.write hmem hok (row':=.mit m n (rem.erase i) (some i)) (w':=hJ w1 (x.ρ r).blk (.mapIter (some (x.ρ m).blk) n (seen.push i) clock)) hsz rfl rfl rfl trivial hfar (by
   simp only[Row.rel]
   refine⟨hok,seen.push i,?_,hnd.erase _,fun j=>?_,by simp,fun c hc=>by injection hc with hc;subst hc;omega⟩
   ·rw[hcl]
    exact yQ (by simpa using hlt) _
   ·rw[hnd.mem_erase_iff,hrem j]
    simp only[Array.contains_eq_mem,Array.mem_push,decide_eq_false_iff_not,not_or]
    constructor
    ·rintro⟨g1,g2,g3⟩;exact⟨g2,g3,g1⟩
    ·rintro⟨g1,g2,g3⟩;exact⟨g3,g1,g2⟩)
  rw[hdst]
  refine⟨_,_,hw.put hd (v:=.tup [aY true,.pv (es.getD i default).1,.pv (es.getD i default).2]) ?_,rfl,hK2 i hir⟩
  rw[hd']
  simp only[aB,aD,aY,aG]
  exact⟨_,rfl,_,_,rfl,rfl,_,_,rfl,aG.kept kept2 _ (aG.kept kept1 _ hrel.1),_,_,rfl,aG.kept kept2 _ (aG.kept kept1 _ hrel.2),rfl⟩
theorem Lr (h:SRel e σ x a) (d:Nat) (hd:d<e.n) (hdst:o.dst=some d) {y:Operand} (ho:o.op=.next y false)
  {r m n ck:Nat} {bs rem:List Nat} {cur:Option Nat} {es:List (Nat×PV×PV)} (hr:aL σ.st r=some (.mid m n bs rem cur)) (hm:aL σ.st m=some (.mpd es ck)) (hn:es.map (·.1)=bs∧ck=n) (hy:aB x (.it r) (a.eval y)) {K:St→Prop}
  (hK1:rem=[]→K (σ.put d (.tup [aY false])))
  (hK2:∀i,i∈rem→K (St.put ⟨σ.fr,(r,.mid m n bs (rem.erase i) (some i))::aQ σ.st r⟩ d (.tup [aY true,.pv (es.getD i default).2.1,.pv (es.getD i default).2.2]))):
  ∀Q,o.wp P a x.w (fun a' w'=>∃σ' y,SRel e σ' y a'∧y.w=w'∧K σ') Q:=by
 intro Q
 obtain⟨rfl,rfl⟩:=hn
 have hmem:=aH hr
 have hrow:=h.st r _ hmem
 have hmap:=h.st m _ (aH hm)
 simp only[Row.rel]at hrow hmap
 obtain⟨hok,seen,hh,hnd,hrem,hcur⟩:=hrow
 obtain⟨hokm,ents,hhm,hlen,hents,hbn,hbl⟩:=hmap
 simp only[aB]at hy
 have born:∀(i:Nat) (h1:i<ents.length) (h2:i<es.length),ents[i].born=es[i].1:=fun i h1 h2=>(hents i es[i] ents[i] (List.getElem?_eq_getElem h2) (List.getElem?_eq_getElem h1)).2
 have hall:∀z∈(⟨ents⟩:Array MapEntry).toList,z.born<ck:=fun z hz=>by
  obtain⟨i,hi,rfl⟩:=List.mem_iff_getElem.1 hz
  simp only at hi
  show ents[i].born<ck
  rw[born i hi (by omega)]
  exact hbl _ (List.getElem_mem _)
 have key:=run_next_at (P:=P) x.w o.type (x.ρ r).blk (x.ρ m).blk ck ck seen ⟨ents⟩ ck hh hhm hall (Nat.le_refl _)
 have hexec:∀{rr:Result Value},(Instr.next (.pointer (some ⟨(x.ρ r).blk,0,none⟩)) false o.type).run P x.w=rr→(execOp a.eval o).run P x.w=rr.andThen fun v w=>.ok (.value v) w:=by
  intro rr hrr
  simp only[execOp,ho,hy,Sem.run_bind,hrr,Sem.run_pure]
 rcases key with⟨h0,hrun⟩|⟨en,hen,w1,hw1,hrun⟩
 ·have hr0:rem=[]:=by
   apply List.eq_nil_iff_forall_not_mem.2
   intro i hi
   obtain⟨b,h2,h3⟩:=(hrem i).1 hi
   have hil:i<es.length:=by simpa using(List.getElem?_eq_some_iff.1 h2).1
   have hbb:es[i].1=b:=by simpa[hil]using h2
   have:ents[i]'(by omega)∈(leftOf ⟨ents⟩ seen).toList:=by
    simp only[leftOf,Array.toList_filter,List.mem_filter]
    refine⟨List.getElem_mem _,?_⟩
    rw[born i (by omega) hil,hbb,h3]
    rfl
   have h4:=List.length_pos_of_mem this
   simp only[Array.length_toList]at h4
   omega
  refine aT (v:=.tuple #[.bool false]) (w':=x.w) (by rw[hexec hrun];rfl) ?_
  rw[hdst]
  refine⟨_,_,h.put hd (v:=.tup [aY false]) ?_,rfl,hK1 hr0⟩
  simp only[aB,aD,aY,aG]
  exact⟨_,rfl,_,_,rfl,rfl,rfl⟩
 ·simp only[leftOf,Array.toList_filter,List.mem_filter]at hen
  obtain⟨hin,hns⟩:=hen
  obtain⟨i,hil,rfl⟩:=List.mem_iff_getElem.1 hin
  have hil':i<es.length:=by have h9:i<ents.length:=hil;omega
  have hbi:=born i hil hil'
  rw[hbi]at hns hrun
  have hbs:(es.map (·.1))[i]?=some es[i].1:=by simp[hil']
  have hir:i∈rem:=(hrem i).2 ⟨_,hbs,by simpa using hns⟩
  refine aT (v:=.tuple #[.bool true,ents[i].key,ents[i].val]) (w':=hJ w1 (x.ρ r).blk (.mapIter (some (x.ρ m).blk) ck (seen.push es[i].1) ck)) (by rw[hexec hrun];rfl) ?_
  have hb1:Below x.w.heap.size x.w w1:=by
   rcases hw1 with rfl|rfl
   ·exact Below.refl _ _
   ·exact(Below.refl _ _).drew
  have h1:=h.ext hb1
  have hlt:(x.ρ r).blk<w1.heap.size:=Nat.lt_of_lt_of_le (Array.getElem?_eq_some_iff.1 hh).1 hb1.size
  have hfar:∀b,b≠(x.ρ r).blk→(hJ w1 (x.ρ r).blk (.mapIter (some (x.ρ m).blk) ck (seen.push es[i].1) ck)).heap[b]?=w1.heap[b]?:=fun b hb=>u0 hb _
  have hsz:(hJ w1 (x.ρ r).blk (.mapIter (some (x.ρ m).blk) ck (seen.push es[i].1) ck)).heap.size=w1.heap.size:=by simp[hJ]
  have hpe:es[i]?=some es[i]:=List.getElem?_eq_getElem hil'
  have hrel:=(hents i es[i] ents[i] hpe (List.getElem?_eq_getElem hil)).1
  have hd':es.getD i default=es[i]:=by simp[List.getD_eq_getElem?_getD,hpe]
  have kept1:Kept x ⟨w1,x.F,x.ρ⟩:=⟨hb1.size,fun b _ hl=>hb1.block b hl,fun b _ hy=>hy⟩
  have kept2:=eH h1 hmem hok hsz hfar
  have hw:=h1.write hmem hok (row':=.mid m ck (es.map (·.1)) (rem.erase i) (some i)) (w':=hJ w1 (x.ρ r).blk (.mapIter (some (x.ρ m).blk) ck (seen.push es[i].1) ck)) hsz rfl rfl rfl trivial hfar (by
   simp only[Row.rel]
   refine⟨hok,seen.push es[i].1,yQ (by simpa using hlt) _,hnd.erase _,fun j=>?_,fun c hc=>by injection hc with hc;subst hc;exact⟨_,hbs,by simp⟩⟩
   rw[hnd.mem_erase_iff,hrem j]
   constructor
   ·rintro⟨g1,b,g2,g3⟩
    refine⟨b,g2,?_⟩
    simp only[Array.contains_eq_mem,Array.mem_push,decide_eq_false_iff_not,not_or]at g3 ⊢
    refine⟨g3,fun hbe=>g1 ?_⟩
    rw[hbe,←hbs]at g2
    exact(List.getElem?_inj (by simpa using(List.getElem?_eq_some_iff.1 (g2.trans hbs)).1) hbn).1 g2
   ·rintro⟨b,g2,g3⟩
    simp only[Array.contains_eq_mem,Array.mem_push,decide_eq_false_iff_not,not_or]at g3 ⊢
    refine⟨fun hji=>g3.2 ?_,b,g2,g3.1⟩
    subst hji
    rw[hbs]at g2
    injection g2 with g2
    exact g2.symm)
  rw[hdst]
  refine⟨_,_,hw.put hd (v:=.tup [aY true,.pv (es.getD i default).2.1,.pv (es.getD i default).2.2]) ?_,rfl,hK2 i hir⟩
  rw[hd']
  simp only[aB,aD,aY,aG]
  exact⟨_,rfl,_,_,rfl,rfl,_,_,rfl,aG.kept kept2 _ (aG.kept kept1 _ hrel.1),_,_,rfl,aG.kept kept2 _ (aG.kept kept1 _ hrel.2),rfl⟩
end
end Go.Vc

namespace Go.Vc
open Go.RowKit
section
variable {P:Program} {e:Env} {σ:St} {x:Cx} {a:Act} {o:Oper}
structure Src (P:Program) (w:World) (size:Nat) (x:Value) (m:Nat) (news:List Value):Prop where
 len:∀w',(Builtin.lenOf x).run P w'=.ok m w'
 here:∀w',w'.heap=w.heap→(Builtin.firstCells size m x).run P w'=.ok news.toArray w'
 size:news.length=m*size
theorem Src.slice {w:World} {size m c:Nat} {ad:Option Addr} {news:List Value} (hl:news.length=m*size) (h:0<m→∃b o',ad=some ⟨b,o',none⟩∧aV w b o' news):Src P w size (.slice ad m c) m news:=by
 refine⟨fun w'=>by simp[Builtin.lenOf],fun w' hw=>?_,hl⟩
 rcases Nat.eq_zero_or_pos m with h0|h0
 ·subst h0
  have:news=[]:=List.eq_nil_of_length_eq_zero (by simpa using hl)
  subst this
  cases ad<;>simp[Builtin.firstCells,loadCells,loadCellsFrom]
 ·obtain⟨b,o',rfl,hc⟩:=h h0
  simp only[Builtin.firstCells,←hl]
  exact jT b o' news fun j c hj=>by
   have:=hc j c hj
   simpa[World.cell?,hw]using this
theorem fV {w:World} {t t2 ty et et2:TypeId} {i:TypeInfo} {zv:Value} (ht:P.underlying t=some (.slice et)) (ht2:P.underlying t2=some (.slice et2)) (hi:P.info? et=some i) (hz:i.zero=some zv)
  {ba:Option Addr} {n c:Nat} {olds:List Value} (hold:Src P w i.size (.slice ba n c) n olds) {y:Value} {m:Nat} {news:List Value} (hnew:Src P w i.size y m news)
  (hg:c<n+m) (h63:n+m≤9223372036854775807) (hfit:(n+m)*i.bytes≤140737488355328):
  (Builtin.append_ #[t,t2] ty #[.slice ba n c,y]).run P w=.ok (.slice (some ⟨w.heap.size,0,none⟩) (n+m) (grownCap w (n+m) c et))
   (w.drew.alloc (.cells ⟨olds++news++(Builtin.zeroCells zv.cells (grownCap w (n+m) c et-(n+m))).toList⟩ et)):=by
 have hn:¬(n+m≤c):=by omega
 have h63':¬(9223372036854775807<((n:Int)+(m:Int))):=by omega
 have h48':¬(281474976710656<Builtin.nextslicecap (n+m) c*i.bytes):=by
  have:=growslice_fits (need:=n+m) (old:=c) (bytes:=i.bytes) hg hfit;omega
 have hf:=hnew.here w.drew rfl
 have hfo:=hold.here w.drew rfl
 simp[Builtin.append_,run_underlying ht,run_underlying ht2,sizeOf,typeInfo,zeroValue,hi,hz,hnew.len,hn,h63',h48',Question.forced,hf,hfo,newRow,grownCap]
 congr 2
 apply Array.ext'
 simp
theorem oK {w:World} {t t2 ty et et2:TypeId} {i:TypeInfo} (ht:P.underlying t=some (.slice et)) (ht2:P.underlying t2=some (.slice et2)) (hi:P.info? et=some i)
  {b o' n c:Nat} {L:List Value} {tb:TypeId} (hb:w.heap[b]?=some (.cells ⟨L⟩ tb (0,0))) {y:Value} {m:Nat} {news:List Value} (hnew:Src P w i.size y m news) (h1:∀v∈news,v.oneCell'=true)
  (hg:n+m≤c) (hl:o'+n*i.size+news.length≤L.length):
  (Builtin.append_ #[t,t2] ty #[.slice (some ⟨b,o',none⟩) n c,y]).run P w=.ok (.slice (some ⟨b,o',none⟩) (n+m) c) (bW w b (cL L (o'+n*i.size) news) tb):=by
 have hf:=hnew.here w rfl
 have hst:=fN (P:=P) news w L (o'+n*i.size) 0 hb (by omega) h1
 simp only[Nat.add_zero]at hst
 simp[Builtin.append_,run_underlying ht,run_underlying ht2,sizeOf,typeInfo,hi,hnew.len,hg,hf,iO,hst]
theorem uA {w:World} {t t2 ty et et2:TypeId} {i:TypeInfo} (ht:P.underlying t=some (.slice et)) (ht2:P.underlying t2=some (.slice et2)) (hi:P.info? et=some i)
  {ba:Option Addr} {c:Nat} {y:Value} (hnew:Src P w i.size y 0 []):
  (Builtin.append_ #[t,t2] ty #[.slice ba 0 c,y]).run P w=.ok (.slice ba 0 c) w:=by
 have hf:=hnew.here w rfl
 cases ba<;>simp[Builtin.append_,run_underlying ht,run_underlying ht2,sizeOf,typeInfo,hi,hnew.len,hf,storeCells]
def mJ (σ:St):AV→Option (List PV)
 | .pv (.lst ps)=>some ps
 | .e0=>some []
 | .row r off m=>match aL σ.st r with
  | some (.sl _ xs)=>some ((xs.drop off).take m)
  | _=>none
 | _=>none
theorem cY.drop {s n:Nat} {xs:List PV} (h:cY s xs):cY s (xs.drop n):=fun p hp=>h p (List.mem_of_mem_drop hp)
theorem cY.take {s n:Nat} {xs:List PV} (h:cY s xs):cY s (xs.take n):=fun p hp=>h p (List.mem_of_mem_take hp)
theorem cY.append {s:Nat} {xs ys:List PV} (h:cY s xs) (k:cY s ys):cY s (xs++ys):=fun p hp=>(List.mem_append.1 hp).elim (h p) (k p)
theorem dA:∀(xs ys:List PV),flat (xs++ys)=flat xs++flat ys
 | [],_=>rfl
 | x::xs,ys=>by simp only[List.cons_append,flat,dA xs ys,List.append_assoc]
theorem iL {s:Nat}:∀{xs:List PV},cY s xs→∀c∈flat xs,c.one=true
 | [],_,c,h=>by cases h
 | p::ps,h,c,hc=>by
  simp only[flat]at hc
  rcases List.mem_append.1 hc with h1|h1
  ·exact(h p (by simp)).2 c h1
  ·exact iL (fun q hq=>h q (List.mem_cons_of_mem _ hq)) c h1
theorem aE.append {w:World} {F:Nat→Prop}:∀{us vs:List PV} {as bs:List Value},aE w F us as→aE w F vs bs→aE w F (us++vs) (as++bs)
 | [],_,_,_,h,k=>by simp only[aE]at h;subst h;simpa using k
 | u::us,vs,_,bs,h,k=>by
  simp only[aE]at h
  obtain⟨v,r,rfl,h1,h2⟩:=h
  simp only[List.cons_append,aE]
  exact⟨v,r++bs,rfl,h1,h2.append k⟩
theorem nE {s off m:Nat} {xs:List PV} {l:Loc} {w:World} {F:Nat→Prop} (hw:cY s xs) (h:aJ w F xs l.blk l.base) (hl:off+m≤xs.length):
  ∃vs,aE w F (flat ((xs.drop off).take m)) vs∧aV w l.blk (l.base+off*s) vs∧vs.length=m*s:=by
 have h1:=(h.drop off (fun p hp=>(hw p hp).1) (by omega)).take m
 rw[aJ.flat_iff]at h1
 obtain⟨vs,h2,h3⟩:=h1.list
 refine⟨vs,h2,h3,?_⟩
 rw[h2.length,cD (hw.drop.take)]
 congr 1
 rw[List.length_take,List.length_drop];omega
theorem Pe {ev:Operand→Value} (h:SRel e σ x a) {s t et:TypeId} {y:Operand} (ho:o.op=.convert s t y) (hs:P.underlying s=some (.slice et)) (ht:P.underlying t=some .string) (het:P.underlying et=some (.int .u8)) {v:AV} (hy:aB x v (ev y)) (hp:xT (uK σ v)):
  dO P x o ev (CH (uK σ v)):=by
 have val:∀{ps:List PV} {ns:List Int},j9 ps=some ns→aB x (.pv (.lst ps)) (ev y)→dO P x o ev (CH (.pv (.lst ps))):=fun {ps ns} hns hv=>by
  simp only[aB,aG]at hv
  obtain⟨a,n,c,e1,e2,e3,h3⟩:=hv
  exact BX ho hs ht het hns e1 e2 fun h0=>let⟨b,o',g1,_,_,g2⟩:=h3 h0;⟨b,o',g1,g2⟩
 cases v with
 | row r off n=>
  unfold uK at hp ⊢
  cases hr:aL σ.st r with
  | none=>simp only[hr,xT]at hp
  | some row=>
   cases row with
   | sl sz xs=>
    simp only[hr,xT]at hp ⊢
    obtain⟨ns,hns⟩:=hp
    have hrow:=h.st r _ (aH hr)
    simp only[Row.rel]at hrow
    simp only[aB]at hy
    rcases hy with⟨rfl,_,ad,he⟩|⟨c,hok,he,h2,_,h4⟩
    ·exact BX ho hs ht het hns he (by simp) fun h0=>absurd h0 (by omega)
    ·rcases hrow with⟨h1,_⟩|⟨hs2,_,⟨hln,_⟩,hwf,_,hE⟩
     ·rw[h1]at hok;cases hok
     ·rw[hln]at h4
      refine BX ho hs ht het hns he (by rw[List.length_take,List.length_drop];omega) fun _=>⟨_,_,rfl,?_⟩
      rw[hs2]
      exact(hE.drop off (fun p hp=>(hwf p hp).1) (by omega)).take n
   | _=>simp only[hr,xT]at hp
 | e0=>
  simp only[aB]at hy
  obtain⟨ad,he⟩:=hy
  exact BX ho hs ht het (ps:=[]) (ns:=[]) rfl he rfl fun h0=>absurd h0 (by omega)
 | pv p=>
  cases p with
  | lst ps=>
   simp only[uK,xT]at hp ⊢
   obtain⟨ns,hns⟩:=hp
   exact val hns hy
  | _=>simp only[uK,xT]at hp
 | _=>simp only[uK,xT]at hp
theorem yE (h:SRel e σ x a) {v:AV} {cv:Value} (hv:aB x v cv) {ps:List PV} {s:Nat} (hp:mJ σ v=some ps) (hw:cY s ps) (hrow:∀r off m,v=.row r off m→∃xs,aL σ.st r=some (.sl s xs)):
  ∃news,Src P x.w s cv ps.length news∧aE x.w x.F (flat ps) news:=by
 unfold mJ at hp
 split at hp
 ·rename_i qs
  injection hp with hp;subst hp
  simp only[aB,aG]at hv
  obtain⟨ad,n,c,rfl,rfl,_,h3⟩:=hv
  rcases Nat.eq_zero_or_pos qs.length with h0|h0
  ·have:qs=[]:=List.eq_nil_of_length_eq_zero h0
   subst this
   exact⟨[],Src.slice (by simp) (fun h=>absurd h (by simp)),by simp[flat,aE]⟩
  ·obtain⟨b,o',rfl,_,_,h4⟩:=h3 h0
   rw[aJ.flat_iff]at h4
   obtain⟨vs,h5,h6⟩:=h4.list
   exact⟨vs,Src.slice (by rw[h5.length,cD hw]) (fun _=>⟨b,o',rfl,h6⟩),h5⟩
 ·injection hp with hp;subst hp
  simp only[aB]at hv
  obtain⟨ad,rfl⟩:=hv
  exact⟨[],Src.slice (by simp) (fun h=>absurd h (by simp)),by simp[flat,aE]⟩
 ·rename_i r off m
  obtain⟨xs,hr⟩:=hrow r off m rfl
  rw[hr]at hp
  injection hp with hp;subst hp
  have h1:=h.st r _ (aH hr)
  simp only[Row.rel]at h1
  simp only[aB]at hv
  rcases hv with⟨rfl,_,ad,rfl⟩|⟨c,hok,rfl,_,_,hl⟩
  ·simp only[List.take_zero,List.length_nil]
   exact⟨[],Src.slice (by simp) (fun h=>absurd h (by omega)),by simp[flat,aE]⟩
  ·rcases h1 with⟨h1,_⟩|⟨hs,_,⟨hln,_⟩,hwf,_,hE⟩
   ·rw[h1]at hok;cases hok
   ·rw[hln]at hl
    have hlen:((xs.drop off).take m).length=m:=by rw[List.length_take,List.length_drop];omega
    rw[hlen]
    obtain⟨vs,h2,h3,h4⟩:=nE hwf hE hl
    rw[hs]
    exact⟨vs,Src.slice h4 (fun _=>⟨_,_,rfl,h3⟩),h2⟩
 ·cases hp
theorem nC (z:Array Value):∀n,(Builtin.zeroCells z n).toList=(List.replicate n z.toList).flatten
 | 0=>by simp[Builtin.zeroCells]
 | n+1=>by
  have ih:=nC z n
  simp only[Builtin.zeroCells,Array.toList_map,Array.toList_range]at ih ⊢
  rw[Nat.succ_mul,List.range_add,List.map_append,ih,List.replicate_succ',List.flatten_append]
  congr 1
  simp only[List.map_map,List.flatten_cons,List.flatten_nil,List.append_nil]
  refine List.ext_getElem (by simp) fun j h1 h2=>?_
  simp only[List.length_map,List.length_range]at h1
  have:(n*z.size+j)%z.size=j:=by rw[Nat.add_comm,Nat.add_mul_mod_self_right,Nat.mod_eq_of_lt h1]
  simp[this,h1]
theorem qS {z:Array Value} (n:Nat) (h:∀c∈z.toList,c.oneCell'=true):∀c∈(Builtin.zeroCells z n).toList,c.oneCell'=true:=fun c hc=>by
 rw[nC]at hc
 obtain⟨l,hl,hcl⟩:=List.mem_flatten.1 hc
 rw[(List.mem_replicate.1 hl).2]at hcl
 exact h c hcl
theorem nN (w:World) (o:Obj):Below w.heap.size w (w.drew.alloc o):=((Below.refl _ w).drew).alloc (Nat.le_refl _) o
theorem rC (h:SRel e σ x a) {d:Nat} (hd:d<e.n) {r s n:Nat} {xs:List PV} {et:TypeId} {cells:List Value} {cap:Nat} {K:St→Prop} (hw:cY s xs) (hxs:aE x.w x.F (flat xs) (cells.take (xs.length*s)))
  (hc:cells.length=cap*s) (hone:∀c∈cells,c.oneCell'=true) (hcap:xs.length≤cap) (hn:n=xs.length) (hr:r<200000) (hK:K ((σ.newRow r (.sl s xs)).put d (.row r 0 n))):
  ∃σ' y,SRel e σ' y (a.put (some d) (.slice (some ⟨x.w.heap.size,0,none⟩) n cap))∧y.w=x.w.drew.alloc (.cells ⟨cells⟩ et)∧K σ':=by
 have hb:=nN x.w (.cells ⟨cells⟩ et)
 let l:Loc:=⟨x.w.heap.size,0,cap,s,true,xs.length⟩
 have hnew:(x.w.drew.alloc (.cells ⟨cells⟩ et)).heap[x.w.heap.size]?=some (.cells ⟨cells⟩ et (0,0)):=d8 x.w.drew _
 have kept:=n9 h hb r (.sl s xs) l (fun _=>Nat.le_refl _)
 have hmul:xs.length*s≤cap*s:=Nat.mul_le_mul_right _ hcap
 have h1:=SRel.fresh h hb r (.sl s xs) l (fun _=>Nat.le_refl _) (.inr ⟨rfl,rfl,⟨rfl,hcap⟩,hw,⟨_,et,hnew,by simp only[l,Nat.zero_add];simp[hc],hone⟩,by
  rw[aJ.flat_iff]
  refine aN.of (aE.kept kept _ hxs) fun j c hj=>?_
  have hj':cells[j]?=some c:=by
   rw[List.getElem?_take]at hj
   split at hj
   ·exact hj
   ·cases hj
  exact aV.of_heap (w:=(bA e σ x (x.w.drew.alloc (.cells ⟨cells⟩ et)) r (.sl s xs) l).w) hnew j c hj'⟩) hr
 refine⟨_,bA e σ x (x.w.drew.alloc (.cells ⟨cells⟩ et)) r (.sl s xs) l,h1.put hd (v:=.row r 0 n) ?_,rfl,hK⟩
 simp only[aB]
 exact .inr ⟨cap,by simp[bA,bT,l],by simp[bA,bT,l],by omega,by simp[bA,bT,l],by simp[bA,bT,l];omega⟩
theorem HA (h:SRel e σ x a) {d:Nat} (hd:d<e.n) {r s:Nat} {ad:Option Addr} {K:St→Prop} (hr:r<200000) (hK:K ((σ.newRow r (.sl s [])).put d (.row r 0 0))):
  ∃σ' y,SRel e σ' y (a.put (some d) (.slice ad 0 0))∧y.w=x.w∧K σ':=by
 let l:Loc:=⟨0,0,0,s,false,0⟩
 have h1:=SRel.fresh h (Below.refl _ x.w) r (.sl s []) l (fun h=>by cases h) (.inl ⟨rfl,rfl⟩) hr
 refine⟨_,bA e σ x x.w r (.sl s []) l,h1.put hd (v:=.row r 0 0) ?_,rfl,hK⟩
 simp only[aB]
 exact .inl ⟨trivial,fun hk=>by simp[bA,bT,l]at hk,ad,rfl⟩
end
end Go.Vc

namespace Go.Vc
open Go.RowKit
section
variable {P:Program} {e:Env} {σ:St} {x:Cx} {a:Act} {o:Oper}
theorem Aa {w:World} {b o':Nat} {L olds news:List Value} {t:TypeId} (h:w.heap[b]?=some (.cells ⟨L⟩ t (0,0))) (hold:aV w b o' olds) (hl:o'+olds.length+news.length≤L.length):
  aV (bW w b (cL L (o'+olds.length) news) t) b o' (olds++news):=fun j c hj=>by
 simp only[World.cell?,fQ h,Option.isSome_none,Bool.false_eq_true,if_false]
 have e1:(⟨cL L (o'+olds.length) news⟩:Array Value)[o'+j]?=(cL L (o'+olds.length) news)[o'+j]?:=by simp
 rw[e1,tS news L (o'+olds.length) (o'+j) hl]
 by_cases h1:j<olds.length
 ·rw[List.getElem?_append_left h1]at hj
  rw[if_neg (by omega)]
  have:=hold j c hj
  simpa[World.cell?,h]using this
 ·rw[List.getElem?_append_right (by omega)]at hj
  have:=(List.getElem?_eq_some_iff.1 hj).1
  rw[if_pos ⟨by omega,by omega⟩,←hj]
  congr 1;omega
theorem upon_value {o:Oper} {a:Act} {w w':World} {v:Value} {K:Act→World→Prop} {Q:Exit→Act→World→Prop} (h:(execOp a.eval o).run P w=.ok (.value v) w') (hk:K (a.put o.dst v) w'):o.wp P a w K Q:=aT h hk
theorem Mg (h:SRel e σ x a) (d:Nat) (hd:d<e.n) (hdst:o.dst=some d) {t t2 et et2:TypeId} {yb ys:Operand} (ho:o.op=.call { callee:=.builtin .append,args:=#[yb,ys],argTypes:=#[t,t2] })
  {i:TypeInfo} {zv:Value} (ht:P.underlying t=some (.slice et)) (ht2:P.underlying t2=some (.slice et2)) (hi:P.info? et=some i) (hz:i.zero=some zv) (hzs:zv.cells.size=i.size) (hzo:∀c∈zv.cells.toList,c.oneCell'=true)
  {r off n:Nat} {vb vs:AV} {olds:List PV} (hb:aB x vb (a.eval yb)) (hs:aB x vs (a.eval ys)) {ps:List PV} (hp:mJ σ vs=some ps) (hw:cY i.size ps)
  (hrow:∀r off m,vs=.row r off m→∃xs,aL σ.st r=some (.sl i.size xs))
  (hbase:(vb=.e0∧n=0∧olds=[])∨(vb=.row r off n∧∃xs,aL σ.st r=some (.sl i.size xs)∧olds=(xs.drop off).take n))
  (hbytes:(n+ps.length)*i.bytes≤140737488355328) (h63:n+ps.length≤9223372036854775807) (hrr:r<200000)
  {K:St→Prop} (hK:K ((σ.newRow r (.sl i.size (olds++ps))).put d (.row r 0 (n+ps.length)))):∀Q,o.wp P a x.w (fun a' w'=>∃σ' y,SRel e σ' y a'∧y.w=w'∧K σ') Q:=by
 intro Q
 obtain⟨news,hsrc,hpr⟩:=yE h hs hp hw hrow
 have hexec:∀{w':World} {v:Value},(Builtin.append_ #[t,t2] o.type #[a.eval yb,a.eval ys]).run P x.w=.ok v w'→(execOp a.eval o).run P x.w=.ok (.value v) w':=fun hr=>by
  simp[execOp,ho,resolve,invoke,builtin,hr]
 have none_:∀(ad:Option Addr),a.eval yb=.slice ad 0 0→n=0→olds=[]→o.wp P a x.w (fun a' w'=>∃σ' y,SRel e σ' y a'∧y.w=w'∧K σ') Q:=by
  intro ad he hn0 ho0
  subst hn0;subst ho0
  rw[he]at hexec
  simp only[Nat.zero_add,List.nil_append]at hK hbytes h63
  rcases Nat.eq_zero_or_pos ps.length with h0|h0
  ·have:ps=[]:=List.eq_nil_of_length_eq_zero h0
   subst this
   have hn:news=[]:=List.eq_nil_of_length_eq_zero (by have:=hsrc.size;simpa using this)
   subst hn
   have hr:=uA (P:=P) (ty:=o.type) ht ht2 hi (ba:=ad) (c:=0) hsrc
   refine aT (hexec hr) ?_
   rw[hdst]
   exact HA h hd hrr hK
  ·have hold:Src P x.w i.size (.slice ad 0 0) 0 []:=Src.slice (by simp) (fun h=>absurd h (by omega))
   have hr:=fV (P:=P) (ty:=o.type) ht ht2 hi hz hold hsrc (by omega) (by omega) (by simpa using hbytes)
   simp only[Nat.zero_add,List.nil_append]at hr
   refine aT (hexec hr) ?_
   rw[hdst]
   have hge:=grownCap_ge x.w ps.length 0 et
   have htk:(news++(Builtin.zeroCells zv.cells (grownCap x.w ps.length 0 et-ps.length)).toList).take (ps.length*i.size)=news:=by rw[←hsrc.size];exact List.take_left
   refine rC h hd hw (by rw[htk];exact hpr) ?_ (fun c hc=>(List.mem_append.1 hc).elim (hpr.ones (iL hw) c) (qS _ hzo c)) hge rfl hrr hK
   have hzc:=size_zeroCells zv.cells (grownCap x.w ps.length 0 et-ps.length)
   simp only[List.length_append,Array.length_toList,hzc,hzs,hsrc.size,←Nat.add_mul]
   congr 1;omega
 rcases hbase with⟨rfl,hn0,ho0⟩|⟨rfl,xs,hr,rfl⟩
 ·simp only[aB]at hb
  obtain⟨ad,he⟩:=hb
  exact none_ ad he hn0 ho0
 ·have hm:=aH hr
  have hrel:=h.st r _ hm
  simp only[Row.rel]at hrel
  simp only[aB]at hb
  rcases hb with⟨hn0,_,ad,he⟩|⟨c,hok,he,hnc,hcap,hlen⟩
  ·exact none_ ad he hn0 (by rw[hn0];simp)
  ·rcases hrel with⟨h1,_⟩|⟨hls,_,⟨hln,hxc⟩,hwf,⟨arr,tb,hh,harr,hao⟩,hE⟩
   ·rw[h1]at hok;cases hok
   rw[hln]at hlen
   obtain⟨olds,ho1,ho2,ho3⟩:=nE hwf hE hlen
   have hxl:((xs.drop off).take n).length=n:=by rw[List.length_take,List.length_drop];omega
   have hwo:=(hwf.drop (n:=off)).take (n:=n)
   rw[he]at hexec
   rw[hls]at hexec harr
   have hold:Src P x.w i.size (.slice (some ⟨(x.ρ r).blk,(x.ρ r).base+off*i.size,none⟩) n c) n olds:=Src.slice ho3 (fun _=>⟨_,_,rfl,ho2⟩)
   have hpr2:=ho1.append hpr
   rw[←dA]at hpr2
   have hsum:olds.length+news.length=(n+ps.length)*i.size:=by rw[ho3,hsrc.size,Nat.add_mul]
   by_cases hroom:n+ps.length≤c
   ·
    obtain⟨L⟩:=arr
    have harr':(x.ρ r).base+(x.ρ r).cap*i.size≤L.length:=by simpa using harr
    have hmul:(off+c)*i.size≤(x.ρ r).cap*i.size:=Nat.mul_le_mul_right _ (Nat.le_of_eq hcap)
    have hmul2:(n+ps.length)*i.size≤c*i.size:=Nat.mul_le_mul_right _ hroom
    rw[Nat.add_mul]at hmul
    have hfit:(x.ρ r).base+off*i.size+n*i.size+news.length≤L.length:=by omega
    have hrun:=oK (P:=P) (ty:=o.type) (c:=c) ht ht2 hi hh hsrc (hpr.ones (iL hw)) hroom hfit
    refine aT (hexec hrun) ?_
    rw[hdst]
    have hsz:=gW x.w (x.ρ r).blk (cL L ((x.ρ r).base+off*i.size+n*i.size) news) tb
    let w':=bW x.w (x.ρ r).blk (cL L ((x.ρ r).base+off*i.size+n*i.size) news) tb
    let l:Loc:=⟨(x.ρ r).blk,(x.ρ r).base+off*i.size,c,i.size,true,n+ps.length⟩
    let row':Row:=.sl i.size ((xs.drop off).take n++ps)
    let y:Cx:=bA e σ x w' r row' l
    have e1:y.ρ r=l:=by simp[y,bA,bT]
    have hρ:∀q,only r q=false→y.ρ q=x.ρ q:=tI r row' l
    have hFy:∀b,y.F b→x.F b:=fun b hy=>by
     rcases hy with h0|⟨q,rw',hq,hqo,hqb⟩
     ·exact(h.F b).2 (.inl h0)
     ·rcases List.mem_cons.1 hq with hq|hq
      ·injection hq with h1 _
       subst h1
       simp only[bT,if_true,l]at hqb
       exact(h.F b).2 (.inr ⟨q,_,hm,hok,hqb⟩)
      ·obtain⟨u,h1,_⟩:=gL hq
       obtain⟨h3,h4⟩:=bE h1
       simp only[bT,if_neg h4]at hqo hqb
       exact(h.F b).2 (.inr ⟨q,u,h3,hqo,hqb⟩)
    have kept:Kept x y:=⟨Nat.le_of_eq hsz.symm,fun b hb _=>fE fun hbe=>hb ((h.F b).2 (.inr ⟨r,_,hm,hok,hbe.symm⟩)),fun b _ hy=>hFy b hy⟩
    have hrow':row'.rel y l:=by
     refine .inr ⟨rfl,rfl,⟨by simp only[l,List.length_append,hxl],by simp only[l,List.length_append,hxl];exact hroom⟩,hwo.append hw,⟨_,tb,fQ hh,by simp only[l];simp[fK];omega,q9 _ _ _ hao (hpr.ones (iL hw))⟩,?_⟩
     rw[aJ.flat_iff]
     have h5:=Aa (news:=news) hh ho2 (by rw[ho3];exact hfit)
     rw[ho3]at h5
     exact aN.of (aE.kept kept _ hpr2) h5
    have h6:=SRel.turn (y:=y) h r row' (only r) (Nat.le_of_eq hsz.symm) rfl rfl rfl trivial (fun b _ hb=>fE (hb _ hm hok)) hρ (fun q hq=>by simpa[only]using hq) (fun q hq=>hρ q (by simp[only,hq]))
     (fun _=>.inr ⟨⟨_,hm⟩,hok,by rw[e1]⟩) (fun b=>Iff.rfl) (by rw[e1];exact hrow') (.inl hrr)
    refine⟨_,y,h6.put hd (v:=.row r 0 (n+ps.length)) ?_,rfl,hK⟩
    simp only[aB]
    exact .inr ⟨c,by rw[e1],by rw[e1];simp[l],hroom,by rw[e1];simp[l],by rw[e1];simp[l]⟩
   ·
    have hr3:=fV (P:=P) (ty:=o.type) ht ht2 hi hz hold hsrc (by omega) h63 hbytes
    refine aT (hexec hr3) ?_
    rw[hdst]
    have hge:=grownCap_ge x.w (n+ps.length) c et
    have htk:(olds++news++(Builtin.zeroCells zv.cells (grownCap x.w (n+ps.length) c et-(n+ps.length))).toList).take (((xs.drop off).take n++ps).length*i.size)=olds++news:=by
     rw[List.length_append,hxl,←hsum,←List.length_append];exact List.take_left
    refine rC h hd (hwo.append hw) (by rw[htk];exact hpr2) ?_ (fun c hc=>(List.mem_append.1 hc).elim (hpr2.ones (iL (hwo.append hw)) c) (qS _ hzo c)) (by rw[List.length_append,hxl];exact hge) (by rw[List.length_append,hxl]) hrr hK
    have hzc:=size_zeroCells zv.cells (grownCap x.w (n+ps.length) c et-(n+ps.length))
    simp only[List.length_append,Array.length_toList,hzc,hzs]
    rw[hsum,←Nat.add_mul]
    congr 1;omega
theorem N2 (h:SRel e σ x a) (d:Nat) (hd:d<e.n) (hdst:o.dst=some d) {t t2 et et2:TypeId} {yb ys:Operand} (ho:o.op=.call { callee:=.builtin .append,args:=#[yb,ys],argTypes:=#[t,t2] })
  {i:TypeInfo} {zv:Value} (ht:P.underlying t=some (.slice et)) (ht2:P.underlying t2=some (.slice et2)) (hi:P.info? et=some i) (hz:i.zero=some zv)
  {vb vs:AV} (hb:aB x vb (a.eval yb)) (hnr:HL vb) (hs:aB x vs (a.eval ys)) {ps:List PV} (hp:mJ σ vs=some ps) (hw:cY i.size ps) (hw0:cY i.size (kR vb)) (hne:kR vb=[]∨0<ps.length)
  (hrow:∀r off m,vs=.row r off m→∃xs,aL σ.st r=some (.sl i.size xs)) (hbytes:((kR vb).length+ps.length)*i.bytes≤140737488355328) (h63:(kR vb).length+ps.length≤9223372036854775807)
  {K:St→Prop} (hK:K (σ.put d (.pv (.lst (kR vb++ps))))):iB P e o a x.w K:=by
 intro Q
 obtain⟨news,hsrc,hpr⟩:=yE h hs hp hw hrow
 have hexec:∀{w':World} {v:Value},(Builtin.append_ #[t,t2] o.type #[a.eval yb,a.eval ys]).run P x.w=.ok v w'→(execOp a.eval o).run P x.w=.ok (.value v) w':=fun hr=>by
  simp[execOp,ho,resolve,invoke,builtin,hr]
 obtain⟨ad,he,hold0⟩:∃ad,a.eval yb=.slice ad (kR vb).length (kR vb).length∧aB x (.pv (.lst (kR vb))) (a.eval yb):=by
  unfold HL at hnr
  split at hnr
  ·simp only[aB]at hb
   obtain⟨ad,he⟩:=hb
   refine⟨ad,he,?_⟩
   rw[he]
   simp only[aB,aG,kR]
   exact⟨ad,0,0,rfl,rfl,Nat.le_refl _,fun hn=>absurd hn (by omega)⟩
  ·simp only[aB]at hb
   obtain⟨ad,n,he,hn,h3⟩:=hb
   refine⟨ad,by rw[he,hn];rfl,?_⟩
   rw[he]
   simp only[aB,aG,kR]
   exact⟨ad,n,n,rfl,hn,Nat.le_refl _,h3⟩
  ·exact hnr.elim
 obtain⟨olds,hold,hpo⟩:=yE h hold0 (ps:=kR vb) rfl hw0 (fun r off m he=>by cases he)
 obtain⟨os,hos⟩:∃os,kR vb=os:=⟨_,rfl⟩
 rw[hos]at hw0 hne hbytes h63 hK he hold hpo
 rw[he]at hexec hold
 rcases Nat.eq_zero_or_pos ps.length with h0|h0
 ·have:ps=[]:=List.eq_nil_of_length_eq_zero h0
  subst this
  have hos:os=[]:=by rcases hne with h1|h1;exact h1;simp at h1
  subst hos
  have hn:news=[]:=List.eq_nil_of_length_eq_zero (by have:=hsrc.size;simpa using this)
  subst hn
  have hr:=uA (P:=P) (ty:=o.type) ht ht2 hi (ba:=ad) (c:=0) hsrc
  refine aT (hexec hr) ?_
  rw[hdst]
  refine⟨_,x,h.put hd (v:=.pv (.lst [])) ?_,rfl,hK,Agr.refl _⟩
  simp only[aB,aG]
  exact⟨ad,0,0,rfl,rfl,Nat.le_refl _,fun hn=>absurd hn (by omega)⟩
 ·have hr:=fV (P:=P) (ty:=o.type) ht ht2 hi hz hold hsrc (by omega) h63 hbytes
  refine aT (hexec hr) ?_
  rw[hdst]
  have hge:=grownCap_ge x.w (os.length+ps.length) os.length et
  generalize (Builtin.zeroCells zv.cells (grownCap x.w (os.length+ps.length) os.length et-(os.length+ps.length))).toList=Z at*
  have hat:=heap_alloc_new x.w.drew (.cells ⟨olds++news++Z⟩ et)
  have hB:Below x.w.heap.size x.w (x.w.drew.alloc (.cells ⟨olds++news++Z⟩ et)):=
   ⟨rfl,rfl,rfl,by simp,fun k hk=>heap_alloc_old x.w.drew _ hk,trivial⟩
  have hnF:¬x.F x.w.heap.size:=fun hF=>by have:=Ek h hF;omega
  have kept:Kept x ⟨x.w.drew.alloc (.cells ⟨olds++news++Z⟩ et),x.F,x.ρ⟩:=⟨hB.size,fun b _ hl=>hB.block b hl,fun b _ hy=>hy⟩
  have hpa:=hpo.append hpr
  rw[←dA]at hpa
  refine⟨_,_,h.value_ext hB hd (v:=.pv (.lst (os++ps))) ?_,rfl,hK,cP hB⟩
  simp only[aB,aG]
  refine⟨_,_,_,rfl,by simp,hge,fun _=>⟨_,_,rfl,by simp,hnF,?_⟩⟩
  rw[aJ.flat_iff]
  refine aN.of (aE.kept kept _ hpa) fun j c hj=>?_
  rw[cell_of_row _ x.w.heap.size (0+j) _ et (0,0) hat]
  have hjl:=(List.getElem?_eq_some_iff.1 hj).1
  simp only[Nat.zero_add,List.getElem?_toArray]
  rw[List.getElem?_append_left hjl]
  exact hj
theorem Ap (h:SRel e σ x a) {d:Nat} (hd:d<e.n) {r n:Nat} {xs:List AV} {news zs:List Value} {et:TypeId} {cap:Nat} {K:St→Prop} (hxs:aD x xs news)
  (hc:(news++zs).length=cap) (hn:n=xs.length) (hcap:n≤cap) (hr:r<200000) (hK:K ((σ.newRow r (.bxs (AV.clips (only r) xs))).put d (.row r 0 n))):
  ∃σ' y,SRel e σ' y (a.put (some d) (.slice (some ⟨x.w.heap.size,0,none⟩) n cap))∧y.w=x.w.drew.alloc (.cells ⟨news++zs⟩ et)∧K σ':=by
 have hb:=nN x.w (.cells ⟨news++zs⟩ et)
 let l:Loc:=⟨x.w.heap.size,0,cap,1,true,xs.length⟩
 have hnew:(x.w.drew.alloc (.cells ⟨news++zs⟩ et)).heap[x.w.heap.size]?=some (.cells ⟨news++zs⟩ et (0,0)):=d8 x.w.drew _
 have kept:=n9 h hb r (.bxs (AV.clips (only r) xs)) l (fun _=>Nat.le_refl _)
 have hρ:=tI (e:=e) (σ:=σ) (x:=x) (w':=x.w.drew.alloc (.cells ⟨news++zs⟩ et)) r (.bxs (AV.clips (only r) xs)) l
 have h1:=SRel.fresh h hb r (.bxs (AV.clips (only r) xs)) l (fun _=>Nat.le_refl _) ⟨rfl,⟨rfl,by simp only[l,bV],by simp only[l,bV];omega⟩,⟨_,et,hnew,by simp only[l,Nat.zero_add];simp[hc]⟩,by
  refine aO.of (aD.clip kept hρ _ hxs) fun j c hj=>?_
  have hj':(news++zs)[j]?=some c:=by
   have:=(List.getElem?_eq_some_iff.1 hj).1
   rw[List.getElem?_append_left this];exact hj
  exact aV.of_heap (w:=(bA e σ x (x.w.drew.alloc (.cells ⟨news++zs⟩ et)) r (.bxs (AV.clips (only r) xs)) l).w) hnew j c hj'⟩ hr
 refine⟨_,bA e σ x (x.w.drew.alloc (.cells ⟨news++zs⟩ et)) r (.bxs (AV.clips (only r) xs)) l,h1.put hd (v:=.row r 0 n) ?_,rfl,hK⟩
 simp only[aB]
 exact .inr ⟨cap,by simp[bA,bT,l],by simp[bA,bT,l],by omega,by simp[bA,bT,l],by simp[bA,bT,l];omega⟩
theorem aD.app2 {x:Cx}:∀{us:List AV} {vs:List Value} {us':List AV} {vs':List Value},aD x us vs→aD x us' vs'→aD x (us++us') (vs++vs')
 | [],_,_,_,h,h'=>by simp only[aD]at h;subst h;exact h'
 | u::us,_,_,_,h,h'=>by
  simp only[aD,List.cons_append]at h ⊢
  obtain⟨v,r,rfl,h1,h2⟩:=h
  exact⟨v,r++_,rfl,h1,h2.app2 h'⟩
theorem aD.len {x:Cx}:∀{us:List AV} {vs:List Value},aD x us vs→vs.length=us.length
 | [],_,h=>by simp only[aD]at h;subst h;rfl
 | u::us,_,h=>by
  simp only[aD]at h
  obtain⟨v,r,rfl,_,h2⟩:=h
  simp[h2.len]
theorem IA (h:SRel e σ x a) (d:Nat) (hd:d<e.n) (hdst:o.dst=some d) {t t2 et et2:TypeId} {yb ys:Operand} (ho:o.op=.call { callee:=.builtin .append,args:=#[yb,ys],argTypes:=#[t,t2] })
  {i:TypeInfo} {zv:Value} (ht:P.underlying t=some (.slice et)) (ht2:P.underlying t2=some (.slice et2)) (hi:P.info? et=some i) (hz:i.zero=some zv) (hzs:zv.cells.size=i.size) (hs1:i.size=1)
  {vb v:AV} (hb:aB x vb (a.eval yb)) (hs:aB x (.lit [v]) (a.eval ys)) (hone:v.one=true) (hv1:∀cs,v≠.agg cs) (hv2:∀cs,v≠.pv (.agg cs))
  {r n:Nat} {olds:List AV} (hbase:(vb=.e0∧n=0∧olds=[])∨(vb=.row r 0 n∧aL σ.st r=some (.bxs olds)∧n=olds.length∧0<n))
  (hbytes:(n+1)*i.bytes≤140737488355328) (h63:n+1≤9223372036854775807) (hrr:r<200000)
  {K:St→Prop} (hK:K ((σ.newRow r (.bxs (AV.clips (only r) (olds++[v])))).put d (.row r 0 (n+1)))):∀Q,o.wp P a x.w (fun a' w'=>∃σ' y,SRel e σ' y a'∧y.w=w'∧K σ') Q:=by
 intro Q
 simp only[aB]at hs
 obtain⟨as,ns,cs,hys,hns,hle,hel⟩:=hs
 simp only[List.length_singleton]at hns
 subst hns
 obtain⟨sb,so,rfl,hsl,hsF,hel⟩:=hel (by omega)
 obtain⟨⟨cv,hcell,hvr⟩,_⟩:=(gO hv1 hv2).1 hel
 have hvs:aD x [v] [cv]:=by simp only[aD];exact⟨cv,[],rfl,hvr,rfl⟩
 have hcv1:∀c∈[cv],c.oneCell'=true:=oF hvs (by simp[AV.allOne,hone])
 have hsrc:Src P x.w i.size (a.eval ys) 1 [cv]:=by
  rw[hys,hs1]
  exact Src.slice rfl (fun _=>⟨sb,so,rfl,fun j c hj=>by
   cases j with
   | zero=>simp only[List.getElem?_cons_zero,Option.some.injEq]at hj;subst hj;simpa using hcell
   | succ j=>simp at hj⟩)
 have hexec:∀{w':World} {v:Value},(Builtin.append_ #[t,t2] o.type #[a.eval yb,a.eval ys]).run P x.w=.ok v w'→(execOp a.eval o).run P x.w=.ok (.value v) w':=fun hr=>by
  simp[execOp,ho,resolve,invoke,builtin,hr]
 have hzc:∀k,(Builtin.zeroCells zv.cells k).size=k:=fun k=>by rw[size_zeroCells,hzs,hs1,Nat.mul_one]
 rcases hbase with⟨rfl,hn0,ho0⟩|⟨rfl,hr,hnl,hn0⟩
 ·subst hn0;subst ho0
  simp only[aB]at hb
  obtain⟨ad,he⟩:=hb
  rw[he]at hexec
  have hold:Src P x.w i.size (.slice ad 0 0) 0 []:=Src.slice (by simp) (fun h=>absurd h (by omega))
  have hrun:=fV (P:=P) (ty:=o.type) ht ht2 hi hz hold hsrc (by omega) h63 hbytes
  refine aT (hexec hrun) ?_
  rw[hdst]
  have hge:=grownCap_ge x.w (0+1) 0 et
  refine Ap h hd (xs:=[v]) (by simpa using hvs) ?_ rfl hge hrr hK
  simp only[List.length_append,Array.length_toList,hzc,List.length_nil,List.length_singleton]
  omega
 ·have hm:=aH hr
  have hrel:=h.st r _ hm
  simp only[Row.rel]at hrel
  simp only[aB]at hb
  obtain⟨hok,⟨hls,hln,hcp⟩,⟨arr,tb,hh,harr⟩,hcells⟩:=hrel
  rcases hb with⟨h0,_⟩|⟨c,_,he,hnc,hcap,hlen⟩
  ·omega
  rw[hls,Nat.zero_mul,Nat.add_zero]at he
  obtain⟨cvs,hc1,hc2⟩:=hcells.list
  have hcl:cvs.length=olds.length:=hc1.len
  rw[he]at hexec
  have hold:Src P x.w i.size (.slice (some ⟨(x.ρ r).blk,(x.ρ r).base,none⟩) n c) n cvs:=Src.slice (by rw[hs1];omega) (fun _=>⟨_,_,rfl,hc2⟩)
  have hall:aD x (olds++[v]) (cvs++[cv]):=hc1.app2 hvs
  by_cases hroom:n+1≤c
  ·obtain⟨L⟩:=arr
   have harr':(x.ρ r).base+(x.ρ r).cap≤L.length:=by simpa using harr
   have hfit:(x.ρ r).base+n*i.size+[cv].length≤L.length:=by rw[hs1];simp only[List.length_singleton];omega
   have hrun:=oK (P:=P) (ty:=o.type) (c:=c) ht ht2 hi hh hsrc hcv1 hroom hfit
   rw[hs1,Nat.mul_one]at hrun
   refine aT (hexec hrun) ?_
   rw[hdst]
   have hsz:=gW x.w (x.ρ r).blk (cL L ((x.ρ r).base+n) [cv]) tb
   let w':=bW x.w (x.ρ r).blk (cL L ((x.ρ r).base+n) [cv]) tb
   let l:Loc:=⟨(x.ρ r).blk,(x.ρ r).base,c,1,true,n+1⟩
   let row':Row:=.bxs (AV.clips (only r) (olds++[v]))
   let y:Cx:=bA e σ x w' r row' l
   have e1:y.ρ r=l:=by simp[y,bA,bT]
   have hρ:∀q,only r q=false→y.ρ q=x.ρ q:=tI r row' l
   have hFy:∀b,y.F b→x.F b:=fun b hy=>by
    rcases hy with h0|⟨q,rw',hq,hqo,hqb⟩
    ·exact(h.F b).2 (.inl h0)
    ·rcases List.mem_cons.1 hq with hq|hq
     ·injection hq with h1 _
      subst h1
      simp only[bT,if_true,l]at hqb
      exact(h.F b).2 (.inr ⟨q,_,hm,hok,hqb⟩)
     ·obtain⟨u,h1,_⟩:=gL hq
      obtain⟨h3,h4⟩:=bE h1
      simp only[bT,if_neg h4]at hqo hqb
      exact(h.F b).2 (.inr ⟨q,u,h3,hqo,hqb⟩)
   have kept:Kept x y:=⟨Nat.le_of_eq hsz.symm,fun b hb _=>fE fun hbe=>hb ((h.F b).2 (.inr ⟨r,_,hm,hok,hbe.symm⟩)),fun b _ hy=>hFy b hy⟩
   have hrow':row'.rel y l:=by
    refine⟨rfl,⟨rfl,by simp only[l,bV,List.length_append,List.length_singleton];omega,by simp only[l,bV,List.length_append,List.length_singleton];omega⟩,⟨_,tb,fQ hh,by simp only[l];simp[fK];omega⟩,?_⟩
    have h5:=Aa (news:=[cv]) hh hc2 (by rw[hcl,←hnl];rw[hs1]at hfit;omega)
    rw[hcl,←hnl]at h5
    exact aO.of (aD.clip kept hρ _ hall) h5
   have h6:=SRel.turn (y:=y) h r row' (only r) (Nat.le_of_eq hsz.symm) rfl rfl rfl trivial (fun b _ hb=>fE (hb _ hm hok)) hρ (fun q hq=>by simpa[only]using hq) (fun q hq=>hρ q (by simp[only,hq]))
    (fun _=>.inr ⟨⟨_,hm⟩,hok,by rw[e1]⟩) (fun b=>Iff.rfl) (by rw[e1];exact hrow') (.inl hrr)
   refine⟨_,y,h6.put hd (v:=.row r 0 (n+1)) ?_,rfl,hK⟩
   simp only[aB]
   exact .inr ⟨c,by rw[e1],by rw[e1];simp[l],hroom,by rw[e1];simp[l],by rw[e1];simp[l]⟩
  ·have hr3:=fV (P:=P) (ty:=o.type) ht ht2 hi hz hold hsrc (by omega) h63 hbytes
   refine aT (hexec hr3) ?_
   rw[hdst]
   have hge:=grownCap_ge x.w (n+1) c et
   refine Ap h hd (xs:=olds++[v]) hall ?_ (by simp;omega) hge hrr hK
   simp only[List.length_append,Array.length_toList,hzc,List.length_singleton]
   omega
end
end Go.Vc
