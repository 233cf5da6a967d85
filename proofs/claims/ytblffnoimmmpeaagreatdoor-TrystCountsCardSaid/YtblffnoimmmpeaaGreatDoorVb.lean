/- A part of the proofs of the seat YtblffnoimmmpeaaGreatDoor: the layer that turns the code of a function into what is to be shown (verification conditions), proved sound. -/
import Derived.Test.YtblffnoimmmpeaaGreatDoorVa
import Derived.OrdersHeld
import Derived.LoopN
namespace Go.Vc
open Go.RowKit
set_option linter.unusedSimpArgs false
section
variable {P:Program} {e:Env} {σ:St} {x:Cx} {a:Act} {o:Oper}
theorem nM {w:World} {len cap:Nat} {lo hi:Option Value} {l h:Int} (hlo:lo=none∧l=0∨∃k,lo=some (.int k l)) (hhi:hi=none∧h=len∨∃k,hi=some (.int k h))
  (h0:0≤l) (h1:l≤h) (h2:h≤cap):(Instr.sliceBounds true len cap lo hi none).run P w=.ok (l.toNat,h.toNat,cap) w:=by
 have a2:0≤h:=by omega
 rcases hlo with⟨rfl,rfl⟩|⟨k,rfl⟩<;>rcases hhi with⟨rfl,rfl⟩|⟨k',rfl⟩
 ·simp[Instr.sliceBounds]
 ·simp[Instr.sliceBounds,Instr.sliceBound,asIntOf,h2,a2]
 ·simp[Instr.sliceBounds,Instr.sliceBound,asIntOf,h1,h0]
 ·have a6:¬max h 0<l:=by omega
  simp[Instr.sliceBounds,Instr.sliceBound,asIntOf,h2,a2,h0,a6]
theorem NC {t et:TypeId} {y:Operand} {lo hi:Option Operand} (ho:o.op=.slice t y lo hi none) {v:AV} (hS:SRel e σ x a) {ev:Operand→Value} {l h:Int}
  (hlo:lo.map ev=none∧l=0∨∃k,lo.map ev=some (.int k l)) (hhi:hi.map ev=none∧h=dQ v∨∃k,hi.map ev=some (.int k h))
  {i:TypeInfo} (ht:P.underlying t=some (.slice et)) (hi':P.info? et=some i) (hy:aB x v (ev y)) (hp:CS σ i.size l h v):dO P x o ev (xU l h v):=by
 have go:∀{r off m:Nat} {xs:List PV},aB x (.row r off m) (ev y)→dQ v=m→xU l h v=.row r (off+l.toNat) (h.toNat-l.toNat)→Row.rel x (x.ρ r) (.sl i.size xs)→0≤l→l≤h→off+h≤xs.length→dO P x o ev (xU l h v):=by
  intro r off m xs hy hsz hsv hrel h0 h1 h2
  simp only[Row.rel]at hrel
  simp only[aB]at hy
  rw[hsz]at hhi
  rw[hsv]
  rcases hy with⟨hm,hcp,ad,e1⟩|⟨c,hok,e1,h4,h5,h6⟩
  ·have hh:h=0∧l=0:=by
    rcases hrel with⟨_,h3⟩|⟨_,h3,⟨_,h4⟩,_⟩
    ·subst h3;simp at h2;omega
    ·have:=hcp h3;omega
   obtain⟨rfl,rfl⟩:=hh
   subst hm
   have hr:∀w':World,(execOp ev o).run P w'=.ok (.value (.slice ad 0 0)) w':=fun w'=>by
    have:=nM (P:=P) (w:=w') (len:=0) (cap:=0) (l:=0) (h:=0) hlo hhi (by omega) (by omega) (by omega)
    simp[execOp,ho,e1,Instr.sliceAt,run_underlying ht,Instr.slice,this,sizeOf,typeInfo,hi']
   refine⟨_,?_,fun w' _=>hr w'⟩
   simp only[aB]
   exact .inl ⟨by simp,by simpa using hcp,ad,rfl⟩
  ·rcases hrel with⟨h3,_⟩|⟨hs,_,⟨hln,hcx⟩,_⟩
   ·rw[h3]at hok;cases hok
   have hr:∀w':World,(execOp ev o).run P w'=.ok (.value (.slice (if c=l.toNat then some ⟨(x.ρ r).blk,(x.ρ r).base+off*(x.ρ r).s,none⟩else some ⟨(x.ρ r).blk,(x.ρ r).base+off*(x.ρ r).s+l.toNat*i.size,none⟩) (h.toNat-l.toNat) (c-l.toNat))) w':=fun w'=>by
    have:=nM (P:=P) (w:=w') (len:=m) (cap:=c) hlo hhi h0 h1 (by omega)
    simp[execOp,ho,e1,Instr.sliceAt,run_underlying ht,Instr.slice,this,sizeOf,typeInfo,hi',iO]
   refine⟨_,?_,fun w' _=>hr w'⟩
   simp only[aB]
   by_cases hcl:c=l.toNat
   ·rw[if_pos hcl]
    exact .inl ⟨by omega,fun _=>by omega,_,by rw[show h.toNat-l.toNat=0 by omega,show c-l.toNat=0 by omega]⟩
   ·rw[if_neg hcl]
    refine .inr ⟨c-l.toNat,hok,?_,by omega,by omega,by omega⟩
    rw[hs,Nat.add_mul,Nat.add_assoc]
 unfold CS at hp
 split at hp
 ·rename_i r off m
  split at hp
  ·rename_i s' xs hrow
   obtain⟨rfl,h0,h1,h2⟩:=hp
   exact go hy rfl rfl (hS.st _ _ (aH hrow)) h0 h1 h2
  ·rename_i s' xs hrow
   obtain⟨rfl,h0,h1,h2⟩:=hp
   have:=hS.st _ _ (aH hrow)
   exact go hy rfl rfl (by
    simp only[Row.rel]at this ⊢
    exact this.imp id fun⟨h1,h2,h3,h4⟩=>⟨h1,h2,⟨h3.1,Nat.le_of_eq h3.2⟩,h4⟩) h0 h1 h2
  ·exact hp.elim
 ·exact hp.elim
theorem vS {w:World} {len cap:Nat} {kl kh km:IntKind} {l h m:Int} (h0:0≤l) (h1:l≤h) (h2:h≤m) (h3:m≤cap):
  (Instr.sliceBounds true len cap (some (.int kl l)) (some (.int kh h)) (some (.int km m))).run P w=.ok (l.toNat,h.toNat,m.toNat) w:=by
 have a1:0≤m:=by omega
 have a2:0≤h:=by omega
 have a3:h≤max m 0:=by omega
 have a4:l≤max h 0:=by omega
 simp[Instr.sliceBounds,Instr.sliceBound,asIntOf,h0,a1,a2,h3,a3,a4]
theorem Pt {t et:TypeId} {y lo hi mx:Operand} (ho:o.op=.slice t y (some lo) (some hi) (some mx)) {i:TypeInfo} (ht:P.underlying t=some (.slice et)) (hi':P.info? et=some i) {ev:Operand→Value} {v vl vh vm:AV}
  (hy:aB x v (ev y)) (hl:aB x vl (ev lo)) (hh:aB x vh (ev hi)) (hm:aB x vm (ev mx)) (hp:Kz v vl vh vm):dO P x o ev .un:=by
 have fin:∀(ad:Option Addr) (n c:Nat) {kl kh km:IntKind} {l h m:Int},ev y=.slice ad n c→ev lo=.int kl l→ev hi=.int kh h→ev mx=.int km m→0≤l→l≤h→h≤m→m≤c→dO P x o ev .un:=by
  intro ad n c kl kh km l h m e1 e2 e3 e4 h0 h1 h2 h3
  refine⟨.slice (if m.toNat=l.toNat then ad else ad.map (·.add (l.toNat*i.size))) (h.toNat-l.toNat) (m.toNat-l.toNat),by simp only[aB],fun w' _=>?_⟩
  have:=vS (P:=P) (w:=w') (len:=n) (cap:=c) (kl:=kl) (kh:=kh) (km:=km) h0 h1 h2 h3
  simp[execOp,ho,e1,e2,e3,e4,Instr.sliceAt,run_underlying ht,Instr.slice,this,sizeOf,typeInfo,hi']
 unfold Kz at hp
 split at hp
 ·rename_i r off n kl l kh h km m
  simp only[aB,aG]at hy hl hh hm
  rcases hy with⟨rfl,_,ad,e1⟩|⟨c,_,e1,h4,_⟩
  ·exact fin ad 0 0 e1 hl hh hm hp.1 hp.2.1 hp.2.2.1 (by omega)
  ·exact fin _ _ c e1 hl hh hm hp.1 hp.2.1 hp.2.2.1 (by omega)
 ·rename_i xs kl l kh h km m
  simp only[aB,aG]at hy hl hh hm
  obtain⟨ad,n,c,e1,e2,e3,_⟩:=hy
  exact fin ad n c e1 hl hh hm hp.1 hp.2.1 hp.2.2.1 (by omega)
 ·exact hp.elim
theorem Pn {t et:TypeId} {y hi mx:Operand} (ho:o.op=.slice t y none (some hi) (some mx)) {i:TypeInfo} (ht:P.underlying t=some (.slice et)) (hi':P.info? et=some i) {ev:Operand→Value} {v vh vm:AV}
  (hy:aB x v (ev y)) (hh:aB x vh (ev hi)) (hm:aB x vm (ev mx)) (hp:Kr v vh vm):dO P x o ev (Kq v):=by
 unfold Kr at hp
 split at hp
 ·rename_i xs kh h km m
  simp only[aB,aG]at hy hh hm
  obtain⟨ad,n,c,e1,e2,e3,e4⟩:=hy
  obtain⟨rfl,rfl⟩:=hp
  subst e2
  refine⟨.slice ad xs.length xs.length,?_,fun w' _=>?_⟩
  ·simp only[Kq,aB]
   exact⟨_,_,rfl,rfl,fun hn=>by obtain⟨b,o,ha,h⟩:=e4 hn;exact⟨b,o,ha,h⟩⟩
  ·simp[execOp,ho,e1,hh,hm,Instr.sliceAt,run_underlying ht,Instr.slice,Instr.sliceBounds,Instr.sliceBound,asIntOf,sizeOf,typeInfo,hi']
   rw[if_pos e3]
   by_cases hx:xs=[]
   ·rw[if_pos hx]
   ·rw[if_neg hx]
    obtain⟨b,o,ha,_⟩:=e4 (List.length_pos_iff.2 hx)
    subst ha
    simp[Addr.add]
 ·exact hp.elim
def cR (xs:List PV) (k:Nat) (ps:List PV):List PV:=xs.take k++(ps++xs.drop (k+ps.length))
theorem mG {xs ps:List PV} {k:Nat} (h:k+ps.length≤xs.length):(cR xs k ps).length=xs.length:=by
 simp only[cR,List.length_append,List.length_take,List.length_drop];omega
theorem Dz:∀(ps m pre:List PV),ps.length=m.length→mL (pre++m) pre.length ps=pre++ps
 | [],[],pre,_=>rfl
 | [],_::_,_,h=>by simp at h
 | _::_,[],_,h=>by simp at h
 | p::ps,c::m,pre,h=>by
  simp only[mL]
  have e1:(pre++c::m).set pre.length p=(pre++[p])++m:=by
   rw[List.set_append_right _ _ (Nat.le_refl _)]
   simp
  rw[e1]
  have:=Dz ps m (pre++[p]) (by simpa using h)
  rw[List.length_append,List.length_singleton]at this
  rw[this,List.append_assoc]
  rfl
theorem D4 {s k:Nat} {xs ps:List PV} (hx:cY s xs) (hp:cY s ps) (hk:k+ps.length≤xs.length):flat (cR xs k ps)=mL (flat xs) (k*s) (flat ps):=by
 have hs:xs=xs.take k++((xs.drop k).take ps.length++xs.drop (k+ps.length)):=by
  rw[←List.drop_drop,List.take_append_drop,List.take_append_drop]
 have e1:(flat (xs.take k)).length=k*s:=by rw[cD (hx.take (n:=k)),List.length_take,Nat.min_eq_left (by omega)]
 have e2:(flat ps).length=(flat ((xs.drop k).take ps.length)).length:=by
  rw[cD hp,cD ((hx.drop (n:=k)).take (n:=ps.length)),List.length_take,List.length_drop,Nat.min_eq_left (by omega)]
 conv=>rhs;rw[hs]
 rw[dA,dA,←e1,←List.append_assoc,jP _ _ _ _ (by rw[List.length_append];omega),Dz _ _ _ e2]
 unfold cR
 rw[dA,dA,List.append_assoc]
theorem EF {s k:Nat} {xs ps:List PV} (hx:cY s xs) (hp:cY s ps):cY s (cR xs k ps):=fun q hq=>by
 unfold cR at hq
 rcases List.mem_append.1 hq with hq|hq
 ·exact hx q (List.mem_of_mem_take hq)
 ·rcases List.mem_append.1 hq with hq|hq
  ·exact hp q hq
  ·exact hx q (List.mem_of_mem_drop hq)
theorem SRel.over (h:SRel e σ x a) {r s k:Nat} {xs ps:List PV} (hr:aL σ.st r=some (.sl s xs)) (hlok:(x.ρ r).ok=true) (hw:cY s ps) (hk:k+ps.length≤xs.length) {news:List Value} (hpr:aE x.w x.F (flat ps) news):
  ∃L tb,x.w.heap[(x.ρ r).blk]?=some (.cells ⟨L⟩ tb (0,0))∧(x.ρ r).s=s∧(x.ρ r).base+k*s+news.length≤L.length∧(∀c∈news,c.oneCell'=true)∧
   SRel e ⟨σ.fr,(r,.sl s (cR xs k ps))::aQ σ.st r⟩ ⟨bW x.w (x.ρ r).blk (cL L ((x.ρ r).base+k*s) news) tb,x.F,x.ρ⟩ a:=by
 have hm:=aH hr
 have hrow:=h.st r _ hm
 simp only[Row.rel]at hrow
 rcases hrow with⟨h0,_⟩|⟨hls,_,⟨hln,hcap⟩,hwf,⟨arr,et,hh,harr,hao⟩,hcells⟩
 ·rw[h0]at hlok;cases hlok
 obtain⟨L⟩:=arr
 have harr':(x.ρ r).base+(x.ρ r).cap*s≤L.length:=by rw[hls]at harr;simpa using harr
 have hnl:news.length=ps.length*s:=by
  have:=hpr.length
  rw[cD hw]at this
  exact this
 have hfit:(x.ρ r).base+k*s+news.length≤L.length:=by
  have h1:(k+ps.length)*s≤(x.ρ r).cap*s:=Nat.mul_le_mul_right _ (by omega)
  rw[Nat.add_mul]at h1
  omega
 refine⟨L,et,hh,hls,hfit,hpr.ones (iL hw),?_⟩
 have hsz:=gW x.w (x.ρ r).blk (cL L ((x.ρ r).base+k*s) news) et
 have hfar:∀b,b≠(x.ρ r).blk→(bW x.w (x.ρ r).blk (cL L ((x.ρ r).base+k*s) news) et).heap[b]?=x.w.heap[b]?:=fun b hb=>fE hb
 have kept:=eH h hm hlok hsz hfar
 refine h.write hm hlok hsz rfl rfl rfl trivial hfar ?_
 simp only[Row.rel]
 refine .inr ⟨hls,hlok,⟨by rw[mG hk];exact hln,by rw[mG hk];exact hcap⟩,EF hwf hw,⟨_,et,fQ hh,by rw[hls];simp[fK];simpa using harr',q9 _ _ _ hao (hpr.ones (iL hw))⟩,?_⟩
 rw[aJ.flat_iff,D4 hwf hw hk]
 rw[aJ.flat_iff]at hcells
 obtain⟨cvs,hc1,hc2⟩:=hcells.list
 have hcl:=hc1.length
 rw[cD hwf]at hcl
 have e1:(x.ρ r).base+k*s=(x.ρ r).base+(k*s):=rfl
 have k1:aE (bW x.w (x.ρ r).blk (cL L ((x.ρ r).base+k*s) news) et) x.F (flat ps) news:=aE.kept kept _ hpr
 have k2:aE (bW x.w (x.ρ r).blk (cL L ((x.ρ r).base+k*s) news) et) x.F (flat xs) cvs:=aE.kept kept _ hc1
 refine aN.of (yX k1 k2) (aV.lay hh hc2 hfit ?_)
 have h1:(k+ps.length)*s≤xs.length*s:=Nat.mul_le_mul_right _ hk
 rw[Nat.add_mul]at h1
 omega
theorem N3 (h:SRel e σ x a) (d:Nat) (hd:d<e.n) (hdst:o.dst=some d) {t t2 et et2:TypeId} {yb ys:Operand} (ho:o.op=.call { callee:=.builtin .append,args:=#[yb,ys],argTypes:=#[t,t2] })
  {i:TypeInfo} (ht:P.underlying t=some (.slice et)) (ht2:P.underlying t2=some (.slice et2)) (hi:P.info? et=some i)
  {r off n:Nat} {vs:AV} {xs ps:List PV} (hb:aB x (.row r off n) (a.eval yb)) (hs:aB x vs (a.eval ys)) (hp:mJ σ vs=some ps) (hw:cY i.size ps)
  (hrow:∀r off m,vs=.row r off m→∃xs,aL σ.st r=some (.sl i.size xs)) (hr:aL σ.st r=some (.sl i.size xs)) (hne:0<xs.length) (hk:off+n+ps.length≤xs.length) (hoff:off<xs.length)
  {K:St→Prop} (hK:K (St.put ⟨σ.fr,(r,.sl i.size (cR xs (off+n) ps))::aQ σ.st r⟩ d (.row r off (n+ps.length)))):∀Q,o.wp P a x.w (fun a' w'=>∃σ' y,SRel e σ' y a'∧y.w=w'∧K σ') Q:=by
 intro Q
 obtain⟨news,hsrc,hpr⟩:=yE (P:=P) h hs hp hw hrow
 have hexec:∀{w':World} {v:Value},(Builtin.append_ #[t,t2] o.type #[a.eval yb,a.eval ys]).run P x.w=.ok v w'→(execOp a.eval o).run P x.w=.ok (.value v) w':=fun hr=>by
  simp[execOp,ho,resolve,invoke,builtin,hr]
 simp only[aB]at hb
 have hlok:(x.ρ r).ok=true:=by
  have hrow:=h.st r _ (aH hr)
  simp only[Row.rel]at hrow
  rcases hrow with⟨_,h0⟩|⟨_,h0,_⟩
  ·rw[h0]at hne;simp at hne
  ·exact h0
 obtain⟨L,tb,hh,hls,hfit,hone,hrel⟩:=h.over hr hlok hw hk hpr
 rcases hb with⟨hn0,hcp,ad,he⟩|⟨c,_,he,hnc,hcap,hlen⟩
 ·
  have hc0:=hcp hlok
  have hrow:=h.st r _ (aH hr)
  simp only[Row.rel]at hrow
  rcases hrow with⟨h0,_⟩|⟨_,_,⟨_,h1⟩,_⟩
  ·rw[h0]at hlok;cases hlok
  ·omega
 ·rw[he]at hexec
  rw[hls]at hexec
  have hcx:xs.length≤(x.ρ r).cap:=by
   have hrow:=h.st r _ (aH hr)
   simp only[Row.rel]at hrow
   rcases hrow with⟨h0,_⟩|⟨_,_,⟨_,h1⟩,_⟩
   ·rw[h0]at hlok;cases hlok
   ·exact h1
  have hroom:n+ps.length≤c:=by omega
  have e1:(x.ρ r).base+off*i.size+n*i.size=(x.ρ r).base+(off+n)*i.size:=by rw[Nat.add_mul];omega
  have hrun:=oK (P:=P) (ty:=o.type) (c:=c) (o':=(x.ρ r).base+off*i.size) (n:=n) ht ht2 hi hh hsrc hone hroom (by rw[e1];exact hfit)
  rw[e1]at hrun
  refine aT (hexec hrun) ?_
  rw[hdst]
  refine⟨_,_,hrel.put hd (v:=.row r off (n+ps.length)) ?_,rfl,hK⟩
  simp only[aB]
  have hln:(x.ρ r).len=xs.length:=by
   have hrow:=h.st r _ (aH hr)
   simp only[Row.rel]at hrow
   rcases hrow with⟨h0,_⟩|⟨_,_,⟨h1,_⟩,_⟩
   ·rw[h0]at hlok;cases hlok
   ·exact h1
  exact .inr ⟨c,hlok,by rw[hls],hroom,hcap,by omega⟩
theorem lQ (p:PV):∀n,flat (List.replicate n p)=(List.replicate n p.cells).flatten
 | 0=>rfl
 | n+1=>by simp only[List.replicate_succ,flat,List.flatten_cons,lQ p n]
theorem lP {w:World} {F:Nat→Prop} {ps:List PV} {vs:List Value} (h:aE w F ps vs):∀n,aE w F (List.replicate n ps).flatten (List.replicate n vs).flatten
 | 0=>by simp[aE]
 | n+1=>by
  simp only[List.replicate_succ,List.flatten_cons]
  exact h.append (lP h n)
theorem PJ (h:SRel e σ x a) (hdst:o.dst=none) {t et:TypeId} {y:Operand} (ho:o.op=.call { callee:=.builtin .clear,args:=#[y],argTypes:=#[t] }) {i:TypeInfo} {zv:Value} (ht:P.underlying t=some (.slice et)) (hi:P.info? et=some i)
  (hz:i.zero=some zv) {r off n:Nat} {xs:List PV} (hy:aB x (.row r off n) (a.eval y)) (hr:aL σ.st r=some (.sl i.size xs)) (hne:0<xs.length) (hk:off+n≤xs.length)
  {p:PV} (hp:aE x.w x.F p.cells zv.cells.toList) (hp1:p.cells.length=i.size∧∀c∈p.cells,c.one=true)
  {K:St→Prop} (hK:K ⟨σ.fr,(r,.sl i.size (cR xs off (List.replicate n p)))::aQ σ.st r⟩):∀Q,o.wp P a x.w (fun a' w'=>∃σ' y,SRel e σ' y a'∧y.w=w'∧K σ') Q:=by
 intro Q
 have hlok:(x.ρ r).ok=true:=by
  have hrow:=h.st r _ (aH hr)
  simp only[Row.rel]at hrow
  rcases hrow with⟨_,h0⟩|⟨_,h0,_⟩
  ·rw[h0]at hne;simp at hne
  ·exact h0
 have hw:cY i.size (List.replicate n p):=fun q hq=>by rw[(List.mem_replicate.1 hq).2];exact hp1
 have hpr:aE x.w x.F (flat (List.replicate n p)) (Builtin.zeroCells zv.cells n).toList:=by
  rw[lQ,nC]
  exact lP hp n
 obtain⟨L,tb,hh,hls,hfit,hone,hrel⟩:=h.over hr hlok hw (by rw[List.length_replicate];exact hk) hpr
 have hexec:∀{w':World} {v:Value},(Builtin.clear_ #[t] o.type #[a.eval y]).run P x.w=.ok v w'→(execOp a.eval o).run P x.w=.ok (.value v) w':=fun hr=>by
  simp[execOp,ho,resolve,invoke,builtin,hr]
 have same:n=0→bW x.w (x.ρ r).blk (cL L ((x.ρ r).base+off*i.size) (Builtin.zeroCells zv.cells n).toList) tb=x.w:=fun hn=>by
  subst hn
  rw[nC]
  simp only[List.replicate_zero,List.flatten_nil,cL]
  exact wF hh
 simp only[aB]at hy
 rcases hy with⟨hn0,_,ad,he⟩|⟨c,_,he,hnc,hcap,hlen⟩
 ·rw[he]at hexec
  rw[same hn0]at hrel
  have hrun:(Builtin.clear_ #[t] o.type #[.slice ad 0 0]).run P x.w=.ok (.tuple #[]) x.w:=by
   cases ad<;>simp[Builtin.clear_,run_underlying ht]
  refine aT (hexec hrun) ?_
  rw[hdst]
  exact⟨_,_,hrel,rfl,hK⟩
 ·rw[he]at hexec
  rw[hls]at hexec
  rcases Nat.eq_zero_or_pos n with hn0|hn0
  ·have hs:=same hn0
   subst hn0
   rw[hs]at hrel
   have hrun:(Builtin.clear_ #[t] o.type #[.slice (some ⟨(x.ρ r).blk,(x.ρ r).base+off*i.size,none⟩) 0 c]).run P x.w=.ok (.tuple #[]) x.w:=by
    simp[Builtin.clear_,run_underlying ht]
   refine aT (hexec hrun) ?_
   rw[hdst]
   exact⟨_,_,hrel,rfl,hK⟩
  ·have hst:=fN (P:=P) (Builtin.zeroCells zv.cells n).toList x.w L ((x.ρ r).base+off*i.size) 0 hh (by omega) hone
   simp only[Nat.add_zero]at hst
   have hrun:(Builtin.clear_ #[t] o.type #[.slice (some ⟨(x.ρ r).blk,(x.ρ r).base+off*i.size,none⟩) n c]).run P x.w=.ok (.tuple #[]) (bW x.w (x.ρ r).blk (cL L ((x.ρ r).base+off*i.size) (Builtin.zeroCells zv.cells n).toList) tb):=by
    obtain⟨m,rfl⟩:∃m,n=m+1:=⟨n-1,by omega⟩
    simp[Builtin.clear_,run_underlying ht,zeroValue,typeInfo,hi,hz,hst]
   refine aT (hexec hrun) ?_
   rw[hdst]
   exact⟨_,_,hrel,rfl,hK⟩
end
end Go.Vc

namespace Go.Vc
open Go.RowKit
set_option linter.unusedSimpArgs false
set_option linter.unusedVariables false
def Wd (l l':Loc):Prop:=l'.blk=l.blk∧l'.base=l.base∧l'.cap=l.cap∧l'.s=l.s∧l'.ok=l.ok∧l.len≤l'.len
theorem Wd.refl (l:Loc):Wd l l:=⟨rfl,rfl,rfl,rfl,rfl,Nat.le_refl _⟩
section
variable {w:World} {F:Nat→Prop} {ρ ρ':Nat→Loc}
mutual
theorem aB.wide (h:∀r,Wd (ρ r) (ρ' r)):∀(a:AV) {v:Value},aB ⟨w,F,ρ⟩ a v→aB ⟨w,F,ρ'⟩ a v
 | .un,_,_=>by simp only[aB]
 | .pv p,_,hv=>by simpa only[aB]using hv
 | .agg cs,_,hv=>by
  simp only[aB]at hv ⊢
  obtain⟨vs,e,hv⟩:=hv
  exact⟨vs,e,aD.wide h cs hv⟩
 | .tup cs,_,hv=>by
  simp only[aB]at hv ⊢
  obtain⟨vs,e,hv⟩:=hv
  exact⟨vs,e,aD.wide h cs hv⟩
 | .e0,_,hv=>by simpa only[aB]using hv
 | .lit zs,_,hv=>by
  simp only[aB]at hv ⊢
  obtain⟨a,n,c,e,h1,h2,h3⟩:=hv
  refine⟨a,n,c,e,h1,h2,fun hn=>?_⟩
  obtain⟨b,o,ha,hlt,hF,he⟩:=h3 hn
  exact⟨b,o,ha,hlt,hF,aS.wide h zs he⟩
 | .row r off n,_,hv=>by
  obtain⟨a1,a2,a3,a4,a5,a6⟩:=h r
  simp only[aB,a1,a2,a3,a4,a5]at hv ⊢
  rcases hv with h1|⟨c,h1,h2,h3,h4,h5⟩
  ·exact .inl h1
  ·exact .inr ⟨c,h1,h2,h3,h4,Nat.le_trans h5 a6⟩
 | .ptr r off,_,hv=>by
  obtain⟨a1,a2,a3,a4,a5,a6⟩:=h r
  simp only[aB,a1,a2]at hv ⊢
  exact hv
 | .rptr r i off,_,hv=>by
  obtain⟨a1,a2,a3,a4,a5,a6⟩:=h r
  simp only[aB,a1,a2,a4]at hv ⊢
  exact hv
 | .eptr zs i off,_,hv=>by simpa only[aB]using hv
 | .cptr zs off,_,hv=>by simpa only[aB]using hv
 | .ful zs,_,hv=>by simpa only[aB]using hv
 | .fn _ cs,_,hv=>by
  simp only[aB]at hv ⊢
  obtain⟨vs,e,hv⟩:=hv
  exact⟨vs,e,aD.wide h cs hv⟩
 | .bnd _ cs,_,hv=>by
  simp only[aB]at hv ⊢
  obtain⟨vs,e,hv⟩:=hv
  exact⟨vs,e,aD.wide h cs hv⟩
 | .mp r,_,hv=>by
  obtain⟨a1,a2,a3,a4,a5,a6⟩:=h r
  simp only[aB,a1]at hv ⊢
  exact hv
 | .it r,_,hv=>by
  obtain⟨a1,a2,a3,a4,a5,a6⟩:=h r
  simp only[aB,a1]at hv ⊢
  exact hv
 | .whn c a,_,hv=>by
  simp only[aB]at hv ⊢
  exact⟨fun hc=>aB.wide h a (hv.1 hc),hv.2⟩
theorem aD.wide (h:∀r,Wd (ρ r) (ρ' r)):∀(as:List AV) {vs:List Value},aD ⟨w,F,ρ⟩ as vs→aD ⟨w,F,ρ'⟩ as vs
 | [],_,hv=>by simpa only[aD]using hv
 | p::ps,_,hv=>by
  simp only[aD]at hv ⊢
  obtain⟨v,r,e,h1,h2⟩:=hv
  exact⟨v,r,e,aB.wide h p h1,aD.wide h ps h2⟩
theorem aS.wide (h:∀r,Wd (ρ r) (ρ' r)):∀(zs:List AV) {b o:Nat},aS ⟨w,F,ρ⟩ zs b o→aS ⟨w,F,ρ'⟩ zs b o
 | [],_,_,_=>by simp only[aS]
 | z::xs,b,o,hv=>by
  by_cases h1:∃cs,z=.agg cs
  ·obtain⟨cs,rfl⟩:=h1
   simp only[aS]at hv ⊢
   exact⟨aO.wide h cs hv.1,aS.wide h xs hv.2⟩
  by_cases h2:∃cs,z=.pv (.agg cs)
  ·obtain⟨cs,rfl⟩:=h2
   simp only[aS]at hv ⊢
   exact⟨hv.1,aS.wide h xs hv.2⟩
  have h1':∀cs,z≠.agg cs:=fun cs e=>h1 ⟨cs,e⟩
  have h2':∀cs,z≠.pv (.agg cs):=fun cs e=>h2 ⟨cs,e⟩
  rw[gO h1' h2']at hv ⊢
  obtain⟨⟨u,h3,h4⟩,h5⟩:=hv
  exact⟨⟨u,h3,aB.wide h z h4⟩,aS.wide h xs h5⟩
theorem aO.wide (h:∀r,Wd (ρ r) (ρ' r)):∀(zs:List AV) {b o:Nat},aO ⟨w,F,ρ⟩ zs b o→aO ⟨w,F,ρ'⟩ zs b o
 | [],_,_,_=>by simp only[aO]
 | z::xs,b,o,hv=>by
  simp only[aO]at hv ⊢
  obtain⟨⟨u,h3,h4⟩,h5⟩:=hv
  exact⟨⟨u,h3,aB.wide h z h4⟩,aO.wide h xs h5⟩
end
theorem Row.wide (h:∀r,Wd (ρ r) (ρ' r)) {l:Loc}:∀{row:Row},row.rel ⟨w,F,ρ⟩ l→row.rel ⟨w,F,ρ'⟩ l
 | .box cells,hv=>by
  simp only[Row.rel]at hv ⊢
  exact⟨hv.1,hv.2.1,aO.wide h cells hv.2.2⟩
 | .sl _ xs,hv=>by simpa only[Row.rel]using hv
 | .slf _ xs,hv=>by simpa only[Row.rel]using hv
 | .bxs cells,hv=>by
  simp only[Row.rel]at hv ⊢
  exact⟨hv.1,hv.2.1,hv.2.2.1,aO.wide h cells hv.2.2.2⟩
 | .mp es,hv=>by simpa only[Row.rel,iP]using hv
 | .sit s pos,hv=>by simpa only[Row.rel]using hv
 | .mit m n rem cur,hv=>by
  simp only[Row.rel,(h m).1]at hv ⊢
  exact hv
 | .mpd es clock,hv=>by simpa only[Row.rel,iP]using hv
 | .mpx ks vs,hv=>by
  simp only[Row.rel]at hv ⊢
  obtain⟨h0,ents,clock,h1,h2,h3,h4,h5⟩:=hv
  exact⟨h0,ents,clock,h1,h2,h3,fun i k v e hk hv he=>⟨(h4 i k v e hk hv he).1,aB.wide h v (h4 i k v e hk hv he).2⟩,h5⟩
 | .mid m n bs rem cur,hv=>by
  simp only[Row.rel,(h m).1]at hv ⊢
  exact hv
 | .gone,hv=>by simpa only[Row.rel]using hv
end
section
variable {P:Program} {e:Env} {σ:St} {x:Cx} {a:Act} {o:Oper}
theorem SRel.widen (h:SRel e σ x a) {r:Nat} {row row':Row} {l':Loc} (hm:(r,row)∈σ.st) (hl:Wd (x.ρ r) l') (hrr:r<200000∨l'=x.ρ r) (hrow:row'.rel ⟨x.w,x.F,bT x.ρ r l'⟩ l'):
  SRel e ⟨σ.fr,(r,row')::aQ σ.st r⟩ ⟨x.w,x.F,bT x.ρ r l'⟩ a:=by
 have hw:∀q,Wd (x.ρ q) (bT x.ρ r l' q):=fun q=>by
  unfold bT
  by_cases hq:q=r
  ·subst hq;simpa using hl
  ·simpa[hq]using Wd.refl _
 have hat:bT x.ρ r l' r=l':=by simp[bT]
 have mem:∀q u,(q,u)∈(r,row')::aQ σ.st r→∃u',(q,u')∈σ.st∧(q≠r→u'=u):=fun q u hq=>by
  rcases List.mem_cons.1 hq with hq|hq
  ·injection hq with h1 h2;subst h1;exact⟨row,hm,fun hn=>absurd rfl hn⟩
  ·exact⟨u,(bE hq).1,fun _=>rfl⟩
 exact {
  defers:=h.defers
  size:=h.size
  fr:=fun k v hk=>let⟨cv,h1,h2⟩:=h.fr k v hk;⟨cv,h1,aB.wide hw v h2⟩
  st:=fun q u hq=>by
   rcases List.mem_cons.1 hq with hq|hq
   ·injection hq with h1 h2;subst h1;subst h2
    show u.rel _ (bT x.ρ q l' q)
    rw[hat];exact hrow
   ·have hne:=(bE hq).2
    have:=Row.wide hw (h.st q u (bE hq).1)
    have e1:bT x.ρ r l' q=x.ρ q:=by simp[bT,show q≠r from hne]
    show u.rel _ (bT x.ρ r l' q)
    rw[e1];exact this
  keys:=by
   simp only[List.map_cons,List.nodup_cons]
   refine⟨fun hk=>?_,fC h.keys⟩
   obtain⟨u,h1,h2⟩:=List.mem_map.1 hk
   exact(bE h1).2 h2
  inj:=fun q u q' u' hq hq' hne hok hok'=>by
   obtain⟨v,hv,_⟩:=mem q u hq
   obtain⟨v',hv',_⟩:=mem q' u' hq'
   simp only at hok hok' ⊢
   rw[(hw q).2.2.2.2.1]at hok
   rw[(hw q').2.2.2.2.1]at hok'
   rw[(hw q).1,(hw q').1]
   exact h.inj q v q' v' hv hv' hne hok hok'
  F:=fun b=>by
   rw[h.F b]
   refine or_congr Iff.rfl ⟨?_,?_⟩
   ·rintro⟨q,u,h1,h2,h3⟩
    by_cases hq:q=r
    ·subst hq
     exact⟨q,row',by simp,by rw[(hw q).2.2.2.2.1];exact h2,by rw[(hw q).1];exact h3⟩
    ·have:(q,u)∈aQ σ.st r:=by
      have:∀{l:List (Nat×Row)},(q,u)∈l→(q,u)∈aQ l r:=by
       intro l
       induction l with
       | nil=>intro h;cases h
       | cons z l ih=>
        intro hm
        obtain⟨k,v⟩:=z
        simp only[aQ]
        rcases List.mem_cons.1 hm with hm|hm
        ·injection hm with h4 h5;subst h4;subst h5;rw[if_neg hq];simp
        ·by_cases hk:k=r
         ·rw[if_pos hk];exact ih hm
         ·rw[if_neg hk];exact List.mem_cons_of_mem _ (ih hm)
      exact this h1
     exact⟨q,u,List.mem_cons_of_mem _ this,by rw[(hw q).2.2.2.2.1];exact h2,by rw[(hw q).1];exact h3⟩
   ·rintro⟨q,u,h1,h2,h3⟩
    obtain⟨v,hv,_⟩:=mem q u h1
    rw[(hw q).2.2.2.2.1]at h2
    rw[(hw q).1]at h3
    exact⟨q,v,hv,h2,h3⟩
  own:=fun q u hq hok=>by
   obtain⟨v,hv,_⟩:=mem q u hq
   simp only at hok ⊢
   rw[(hw q).2.2.2.2.1]at hok
   rw[(hw q).1]
   exact h.own q v hv hok
  f0:=h.f0
  tabs:=h.tabs
  below:=h.below
  fix:=fun q hq=>by
   show bT x.ρ r l' q=_
   by_cases hqr:q=r
   ·subst hqr
    rcases hrr with hrr|hrr
    ·omega
    ·rw[hat,hrr];exact h.fix q hq
   ·simp only[bT,if_neg hqr];exact h.fix q hq
  small:=h.small }
theorem SRel.weakF (h:SRel e σ x a) {r s:Nat} {xs:List PV} (hr:aL σ.st r=some (.slf s xs)):SRel e ⟨σ.fr,(r,.sl s xs)::aQ σ.st r⟩ x a:=by
 have hm:=aH hr
 have hrow:=h.st r _ hm
 have e1:bT x.ρ r (x.ρ r)=x.ρ:=by funext q;unfold bT;split<;>simp_all
 have:=h.widen (row':=.sl s xs) (l':=x.ρ r) hm (Wd.refl _) (.inr rfl) (by
  rw[e1]
  simp only[Row.rel]at hrow ⊢
  exact hrow.imp id fun⟨h1,h2,h3,h4⟩=>⟨h1,h2,⟨h3.1,Nat.le_of_eq h3.2⟩,h4⟩)
 rw[e1]at this
 exact this
theorem O4 (s:Nat):∀(k:Nat) (L:List Value),L.length=k*s→(∀c∈L,c.oneCell'=true)→∃sp:List PV,sp.length=k∧cY s sp∧flat sp=L.map .sc
 | 0,L,hl,_=>⟨[],rfl,fun _ h=>(by cases h),by
   have:L=[]:=List.eq_nil_of_length_eq_zero (by simpa using hl)
   subst this;rfl⟩
 | k+1,L,hl,h1=>by
  rw[Nat.succ_mul]at hl
  obtain⟨sp,e1,e2,e3⟩:=O4 s k (L.drop s) (by rw[List.length_drop];omega) (fun c hc=>h1 c (List.mem_of_mem_drop hc))
  obtain⟨p,hp⟩:∃p:PV,p.cells=(L.take s).map .sc:=by
   by_cases hs:s=1
   ·subst hs
    match L,hl with
    | v::L,_=>exact⟨.sc v,rfl⟩
    | [],hl=>simp at hl
   ·exact⟨.agg ((L.take s).map .sc),rfl⟩
  refine⟨p::sp,by rw[List.length_cons,e1],fun q hq=>?_,?_⟩
  ·rcases List.mem_cons.1 hq with rfl|hq
   ·rw[hp]
    refine⟨by rw[List.length_map,List.length_take];omega,fun c hc=>?_⟩
    obtain⟨v,hv,rfl⟩:=List.mem_map.1 hc
    exact h1 v (List.mem_of_mem_take hv)
   ·exact e2 q hq
  ·simp only[flat,hp,e3]
   rw[←List.map_append,List.take_append_drop]
theorem FJ {w:World} {F:Nat→Prop}:∀L:List Value,aE w F (L.map .sc) L
 | []=>by simp[aE]
 | v::L=>by
  simp only[List.map_cons,aE]
  exact⟨v,L,rfl,by simp only[aG],FJ L⟩
theorem PK (h:SRel e σ x a) (d:Nat) (hd:d<e.n) (hdst:o.dst=some d) {t et:TypeId} {y:Operand} (ho:o.op=.call { callee:=.builtin .cap,args:=#[y],argTypes:=#[t] }) (ht:P.underlying t=some (.slice et))
  {r n s:Nat} {xs:List PV} (hy:aB x (.row r 0 n) (a.eval y)) (hr:aL σ.st r=some (.sl s xs)) (hrr:r<200000) {K:St→Prop}
  (hK:∀sp,cY s sp→K (St.put ⟨σ.fr,(r,.slf s (xs++sp))::aQ σ.st r⟩ d (dZ .i64 ((xs.length+sp.length:Nat):Int)))):∀Q,o.wp P a x.w (fun a' w'=>∃σ' y,SRel e σ' y a'∧y.w=w'∧K σ') Q:=by
 intro Q
 have hm:=aH hr
 have hrow:=h.st r _ hm
 simp only[Row.rel]at hrow
 simp only[aB]at hy
 have hexec:∀{ad:Option Addr} {m c:Nat},a.eval y=.slice ad m c→(execOp a.eval o).run P x.w=.ok (.value (goInt c)) x.w:=fun he=>by
  simp[execOp,ho,resolve,invoke,builtin,he,Builtin.cap_,run_underlying ht]
 have e1:bT x.ρ r (x.ρ r)=x.ρ:=by funext q;unfold bT;split<;>simp_all
 have fin0:∀{ad:Option Addr},a.eval y=.slice ad 0 0→xs=[]→Row.rel x (x.ρ r) (.slf s [])→o.wp P a x.w (fun a' w'=>∃σ' y,SRel e σ' y a'∧y.w=w'∧K σ') Q:=by
  intro ad he hx hrel
  subst hx
  refine aT (hexec he) ?_
  rw[hdst]
  have h1:=h.widen (row':=.slf s []) (l':=x.ρ r) hm (Wd.refl _) (.inr rfl) (by rw[e1];exact hrel)
  rw[e1]at h1
  have h2:=hK [] (fun _ h=>by cases h)
  exact⟨_,_,h1.put hd (v:=dZ .i64 ((([]:List PV).length+([]:List PV).length:Nat):Int)) (by simp only[dZ,aB,aG];rfl),rfl,h2⟩
 rcases hy with⟨hn,hcp,ad,he⟩|⟨c,hok,he,hnc,hcap,hlen⟩
 ·rcases hrow with⟨h0,hx⟩|⟨h1,h0,⟨h2,h3⟩,h4,h5,h6⟩
  ·exact fin0 he hx (by simp only[Row.rel];exact .inl ⟨h0,trivial⟩)
  ·have:=hcp h0
   have hx:xs=[]:=List.eq_nil_of_length_eq_zero (by omega)
   subst hx
   exact fin0 he rfl (by simp only[Row.rel];exact .inr ⟨h1,h0,⟨h2,by simp at h3 ⊢;omega⟩,h4,h5,h6⟩)
 ·rcases hrow with⟨h0,hx⟩|⟨h1,h0,⟨h2,h3⟩,h4,⟨⟨L⟩,tb,hh,harr,hao⟩,h6⟩
  ·rw[h0]at hok;cases hok
  have harr':(x.ρ r).base+(x.ρ r).cap*s≤L.length:=by rw[h1]at harr;simpa using harr
  have hmul:xs.length*s≤(x.ρ r).cap*s:=Nat.mul_le_mul_right _ h3
  obtain⟨sp,k1,k2,k3⟩:=O4 s ((x.ρ r).cap-xs.length) ((L.drop ((x.ρ r).base+xs.length*s)).take (((x.ρ r).cap-xs.length)*s)) (by
    rw[List.length_take,List.length_drop,Nat.sub_mul];omega) (fun c hc=>hao c (List.mem_of_mem_drop (List.mem_of_mem_take hc)))
  have hcl:xs.length+sp.length=c:=by omega
  refine aT (hexec he) ?_
  rw[hdst]
  have hrel:Row.rel ⟨x.w,x.F,bT x.ρ r { x.ρ r with len:=c }⟩ { x.ρ r with len:=c } (.slf s (xs++sp)):=by
   simp only[Row.rel]
   refine .inr ⟨h1,h0,⟨by rw[List.length_append];omega,by rw[List.length_append];omega⟩,h4.append k2,⟨_,tb,hh,harr,hao⟩,?_⟩
   rw[aJ.flat_iff,dA,k3,aN.append_iff,cD h4]
   refine⟨aJ.flat_iff.1 h6,aN.of (FJ _) fun j v hj=>?_⟩
   rw[List.getElem?_take]at hj
   split at hj
   ·rw[List.getElem?_drop]at hj
    simp only[World.cell?,hh]
    simpa using hj
   ·cases hj
  have h7:=h.widen (row':=.slf s (xs++sp)) (l':={ x.ρ r with len:=c }) hm ⟨rfl,rfl,rfl,rfl,rfl,by show(x.ρ r).len≤c;omega⟩ (.inl hrr) hrel
  have h8:=hK sp k2
  rw[hcl]at h8
  exact⟨_,_,h7.put hd (v:=dZ .i64 ((c:Nat):Int)) (by simp only[dZ,aB,aG];rfl),rfl,h8⟩
def C5 (σ:St):AV→Option (List PV)
 | .pv (.lst ps)=>some ps
 | .row r off m=>match aL σ.st r with
  | some (.sl _ xs)=>some ((xs.drop off).take m)
  | some (.slf _ xs)=>some ((xs.drop off).take m)
  | _=>none
 | _=>none
theorem wS {w w':World} {ad:Option Addr} {m c k s:Nat} {news:List Value} (hl:news.length=k*s) (h:∃b o',ad=some ⟨b,o',none⟩∧aV w b o' news) (hw:w'.heap=w.heap):
  (Builtin.firstCells s k (.slice ad m c)).run P w'=.ok news.toArray w':=by
 obtain⟨b,o',rfl,hc⟩:=h
 simp only[Builtin.firstCells,←hl]
 exact jT b o' news fun j c hj=>by
  have:=hc j c hj
  simpa[World.cell?,hw]using this
theorem SRel.told (h:SRel e σ x a) {r s:Nat} {xs:List PV} (hr:aL σ.st r=some (.sl s xs)∨aL σ.st r=some (.slf s xs)):Row.rel x (x.ρ r) (.sl s xs):=by
 rcases hr with hr|hr
 ·exact h.st r _ (aH hr)
 ·have:=h.st r _ (aH hr)
  simp only[Row.rel]at this ⊢
  exact this.imp id fun⟨h1,h2,h3,h4⟩=>⟨h1,h2,⟨h3.1,Nat.le_of_eq h3.2⟩,h4⟩
theorem Oo (h:SRel e σ x a) {v:AV} {cv:Value} (hv:aB x v cv) {ps:List PV} {s:Nat} (hp:C5 σ v=some ps) (hw:cY s ps) (hrow:∀r off m,v=.row r off m→CI (aL σ.st r)=some s) {k:Nat} (hk:k≤ps.length) (hk0:0<k):
  ∃news,(∀w',w'.heap=x.w.heap→(Builtin.firstCells s k cv).run P w'=.ok news.toArray w')∧(∀w',(Builtin.lenOf cv).run P w'=.ok ps.length w')∧aE x.w x.F (flat (ps.take k)) news:=by
 unfold C5 at hp
 have row:∀{r off m:Nat} {xs:List PV},(aL σ.st r=some (.sl s xs)∨aL σ.st r=some (.slf s xs))→aB x (.row r off m) cv→ps=(xs.drop off).take m→
   ∃news,(∀w',w'.heap=x.w.heap→(Builtin.firstCells s k cv).run P w'=.ok news.toArray w')∧(∀w',(Builtin.lenOf cv).run P w'=.ok ps.length w')∧aE x.w x.F (flat (ps.take k)) news:=by
  intro r off m xs hr hv he
  have h1:=h.told hr
  simp only[Row.rel]at h1
  simp only[aB]at hv
  subst he
  rcases hv with⟨rfl,_⟩|⟨c,hok,rfl,_,_,hl⟩
  ·simp at hk;omega
  ·rcases h1 with⟨h1,_⟩|⟨hs,_,⟨hln,_⟩,hwf,_,hE⟩
   ·rw[h1]at hok;cases hok
   ·rw[hln]at hl
    have hlen:((xs.drop off).take m).length=m:=by rw[List.length_take,List.length_drop];omega
    rw[hlen]at hk ⊢
    obtain⟨vs,h2,h3,h4⟩:=nE (m:=k) hwf hE (show off+k≤xs.length by omega)
    rw[hs]
    exact⟨vs,fun w' hw'=>wS h4 ⟨_,_,rfl,h3⟩ hw',fun w'=>by simp[Builtin.lenOf],by rw[List.take_take,Nat.min_eq_left hk];exact h2⟩
 split at hp
 ·rename_i qs
  injection hp with hp;subst hp
  simp only[aB,aG]at hv
  obtain⟨ad,n,c,rfl,rfl,_,h3⟩:=hv
  obtain⟨b,o',rfl,_,_,h4⟩:=h3 (by omega)
  have h4':=h4.take k
  rw[aJ.flat_iff]at h4'
  obtain⟨vs,h5,h6⟩:=h4'.list
  exact⟨vs,fun w' hw'=>wS (by rw[h5.length,cD hw.take,List.length_take,Nat.min_eq_left hk]) ⟨b,o',rfl,h6⟩ hw',fun w'=>by simp[Builtin.lenOf],h5⟩
 ·rename_i r off m
  have h0:=hrow r off m rfl
  split at hp
  ·rename_i s' xs hr
   injection hp with hp
   rw[hr]at h0
   injection h0 with h0;subst h0
   exact row (.inl hr) hv hp.symm
  ·rename_i s' xs hr
   injection hp with hp
   rw[hr]at h0
   injection h0 with h0;subst h0
   exact row (.inr hr) hv hp.symm
  ·cases hp
 ·cases hp
theorem Mf (h:SRel e σ x a) (d:Nat) (hd:d<e.n) (hdst:o.dst=some d) {t t2 et:TypeId} {yd ys:Operand} (ho:o.op=.call { callee:=.builtin .copy,args:=#[yd,ys],argTypes:=#[t,t2] })
  {i:TypeInfo} (ht:P.underlying t=some (.slice et)) (hi:P.info? et=some i) {r off n m N:Nat} (hN:Nat.min m n=N) {xs ps:List PV} (hv:aB x (.row r off n) (a.eval yd)) {news:List Value}
  (hfirst:∀w',w'.heap=x.w.heap→(Builtin.firstCells i.size N (a.eval ys)).run P w'=.ok news.toArray w') (hlen:∀w',(Builtin.lenOf (a.eval ys)).run P w'=.ok m w') (hpl:ps.length=N) (hpr:aE x.w x.F (flat ps) news)
  (hw:cY i.size ps) (hr:aL σ.st r=some (.sl i.size xs)) (hn:0<n)
  {K:St→Prop} (hK:K (St.put ⟨σ.fr,(r,.sl i.size (cR xs off ps))::aQ σ.st r⟩ d (dZ .i64 ((N:Nat):Int)))):∀Q,o.wp P a x.w (fun a' w'=>∃σ' y,SRel e σ' y a'∧y.w=w'∧K σ') Q:=by
 intro Q
 have hrow:=h.st r _ (aH hr)
 simp only[Row.rel]at hrow
 simp only[aB]at hv
 rcases hv with⟨hn0,_⟩|⟨c,hlok,he,hnc,hcap,hlen'⟩
 ·omega
 have hk:off+ps.length≤xs.length:=by
  rcases hrow with⟨h0,_⟩|⟨_,_,⟨h1,_⟩,_⟩
  ·rw[h0]at hlok;cases hlok
  ·rw[h1]at hlen';rw[hpl];have:N≤n:=hN▸Nat.min_le_right m n;omega
 obtain⟨L,tb,hh,hls,hfit,hone,hrel⟩:=h.over hr hlok hw hk hpr
 have hst:=fN (P:=P) news x.w L ((x.ρ r).base+off*i.size) 0 hh (by omega) hone
 simp only[Nat.add_zero]at hst
 have hf:=hfirst x.w rfl
 have hexec:(execOp a.eval o).run P x.w=.ok (.value (goInt N)) (bW x.w (x.ρ r).blk (cL L ((x.ρ r).base+off*i.size) news) tb):=by
  simp[execOp,ho,resolve,invoke,builtin,Builtin.copy_,run_underlying ht,sizeOf,typeInfo,hi,he,hlen,hN,hf,hls,hst]
 refine aT hexec ?_
 rw[hdst]
 exact⟨_,_,hrel.put hd (v:=dZ .i64 ((N:Nat):Int)) (by simp only[dZ,aB,aG];rfl),rfl,hK⟩
theorem N4 (h:SRel e σ x a) (d:Nat) (hd:d<e.n) (hdst:o.dst=some d) {t t2 et et2:TypeId} {yb ys:Operand} (ho:o.op=.call { callee:=.builtin .append,args:=#[yb,ys],argTypes:=#[t,t2] })
  {i:TypeInfo} {zv:Value} (ht:P.underlying t=some (.slice et)) (ht2:P.underlying t2=some (.slice et2)) (hi:P.info? et=some i) (hz:i.zero=some zv) (hzs:zv.cells.size=i.size) (hzo:∀c∈zv.cells.toList,c.oneCell'=true)
  {r off n:Nat} {vs:AV} {xs ps:List PV} (hb:aB x (.row r off n) (a.eval yb)) (hs:aB x vs (a.eval ys)) (hp:mJ σ vs=some ps) (hw:cY i.size ps)
  (hrow:∀r off m,vs=.row r off m→∃xs,aL σ.st r=some (.sl i.size xs)) (hr:aL σ.st r=some (.slf i.size xs)) (hoff:off<xs.length) (hg:xs.length<off+n+ps.length)
  (hbytes:(n+ps.length)*i.bytes≤140737488355328) (h63:n+ps.length≤9223372036854775807)
  {K:St→Prop} (hK:K ((St.newRow ⟨σ.fr,(r,.sl i.size xs)::aQ σ.st r⟩ d (.sl i.size ((xs.drop off).take n++ps))).put d (.row d 0 (n+ps.length)))):∀Q,o.wp P a x.w (fun a' w'=>∃σ' y,SRel e σ' y a'∧y.w=w'∧K σ') Q:=by
 intro Q
 obtain⟨news,hsrc,hpr⟩:=yE (P:=P) h hs hp hw hrow
 have hexec:∀{w':World} {v:Value},(Builtin.append_ #[t,t2] o.type #[a.eval yb,a.eval ys]).run P x.w=.ok v w'→(execOp a.eval o).run P x.w=.ok (.value v) w':=fun hr=>by
  simp[execOp,ho,resolve,invoke,builtin,hr]
 have hrel:=h.st r _ (aH hr)
 simp only[Row.rel]at hrel
 simp only[aB]at hb
 rcases hrel with⟨_,h1⟩|⟨hls,hok,⟨hln,hxc⟩,hwf,_,hE⟩
 ·subst h1;simp at hoff
 rcases hb with⟨hn0,hcp,ad,he⟩|⟨c,_,he,hnc,hcap,hlen⟩
 ·have:=hcp hok;omega
 rw[hln]at hlen
 obtain⟨olds,ho1,ho2,ho3⟩:=nE hwf hE hlen
 have hxl:((xs.drop off).take n).length=n:=by rw[List.length_take,List.length_drop];omega
 have hwo:=(hwf.drop (n:=off)).take (n:=n)
 rw[he]at hexec
 rw[hls]at hexec
 have hold:Src P x.w i.size (.slice (some ⟨(x.ρ r).blk,(x.ρ r).base+off*i.size,none⟩) n c) n olds:=Src.slice ho3 (fun _=>⟨_,_,rfl,ho2⟩)
 have hpr2:=ho1.append hpr
 rw[←dA]at hpr2
 have hsum:olds.length+news.length=(n+ps.length)*i.size:=by rw[ho3,hsrc.size,Nat.add_mul]
 have hr3:=fV (P:=P) (ty:=o.type) ht ht2 hi hz hold hsrc (by omega) h63 hbytes
 refine aT (hexec hr3) ?_
 rw[hdst]
 have hge:=grownCap_ge x.w (n+ps.length) c et
 have htk:(olds++news++(Builtin.zeroCells zv.cells (grownCap x.w (n+ps.length) c et-(n+ps.length))).toList).take (((xs.drop off).take n++ps).length*i.size)=olds++news:=by
  rw[List.length_append,hxl,←hsum,←List.length_append];exact List.take_left
 refine rC (h.weakF hr) hd (hwo.append hw) (by rw[htk];exact hpr2) ?_ (fun c hc=>(List.mem_append.1 hc).elim (hpr2.ones (iL (hwo.append hw)) c) (qS _ hzo c)) (by rw[List.length_append,hxl];exact hge) (by rw[List.length_append,hxl])
  (Nat.lt_of_lt_of_le hd (Nat.le_trans h.small (by omega))) hK
 have hzc:=size_zeroCells zv.cells (grownCap x.w (n+ps.length) c et-(n+ps.length))
 simp only[List.length_append,Array.length_toList,hzc,hzs]
 rw[hsum,←Nat.add_mul]
 congr 1;omega
theorem AC {w:World} {t t2 ty et:TypeId} {i:TypeInfo} {zv:Value} {kn k2:IntKind} (ht:P.underlying t=some (.slice et)) (ht2:P.underlying t2=some (.int k2)) (hi:P.info? et=some i) (hz:i.zero=some zv)
  {ba:Option Addr} {n c m:Nat} {olds:List Value} (hold:Src P w i.size (.slice ba n c) n olds) (hm:0<m) (hs:0<i.size)
  (hg:c<n+m) (h63:n+m≤9223372036854775807) (hfit:(n+m)*i.bytes≤140737488355328):
  (Builtin.append_ #[t,t2] ty #[.slice ba n c,.int kn (m:Int)]).run P w=.ok (.slice (some ⟨w.heap.size,0,none⟩) (n+m) (grownCap w (n+m) c et))
   (w.drew.alloc (.cells ⟨olds++(Builtin.zeroCells zv.cells m).toList++(Builtin.zeroCells zv.cells (grownCap w (n+m) c et-(n+m))).toList⟩ et)):=by
 have hn:¬(n+m≤c):=by omega
 have h63':¬(9223372036854775807<((n:Int)+(m:Int))):=by omega
 have h48':¬(281474976710656<Builtin.nextslicecap (n+m) c*i.bytes):=by
  have:=growslice_fits (need:=n+m) (old:=c) (bytes:=i.bytes) hg hfit;omega
 have hw:IntKind.i64.wrap (m:Int)=m:=by rw[IntKind.wrap_i64];omega
 have h48i:¬(281474976710656<(m:Int)*(i.bytes:Int)):=by
  rw[←Int.natCast_mul]
  have:m*i.bytes≤(n+m)*i.bytes:=Nat.mul_le_mul_right _ (by omega)
  omega
 have hneg:¬((m:Int)<0):=by omega
 have hns:¬(m*i.size=0):=Nat.mul_ne_zero (by omega) (by omega)
 have hm0:¬(m=0):=by omega
 have hs0:¬(i.size=0):=by omega
 have hfo:=hold.here w.drew rfl
 simp[Builtin.append_,run_underlying ht,run_underlying ht2,sizeOf,typeInfo,zeroValue,hi,hz,asInt,asIntOf,hw,hn,hneg,hns,hm0,hs0,h63',h48',h48i,Question.forced,hfo,newRow,grownCap]
 congr 2
 apply Array.ext'
 simp
theorem N1 (h:SRel e σ x a) (d:Nat) (hd:d<e.n) (hdst:o.dst=some d) {t t2 et:TypeId} {yb ys:Operand} {k2 kn:IntKind} (ho:o.op=.call { callee:=.builtin .append,args:=#[yb,ys],argTypes:=#[t,t2] })
  {i:TypeInfo} {zv:Value} (ht:P.underlying t=some (.slice et)) (ht2:P.underlying t2=some (.int k2)) (hi:P.info? et=some i) (hz:i.zero=some zv) (hzs:zv.cells.size=i.size) (hzo:∀c∈zv.cells.toList,c.oneCell'=true) (hs0:0<i.size)
  {p:PV} (hp:∀(w:World) (F:Nat→Prop),aE w F p.cells zv.cells.toList) (hp1:∀c∈p.cells,c.one=true)
  {r off n:Nat} {m:Int} {xs:List PV} (hb:aB x (.row r off n) (a.eval yb)) (hs:a.eval ys=.int kn m) (hm:0<m)
  (hr:aL σ.st r=some (.slf i.size xs)) (hoff:off<xs.length) (hg:xs.length<off+n+m.toNat)
  (hbytes:(n+m.toNat)*i.bytes≤140737488355328) (h63:n+m.toNat≤9223372036854775807)
  {K:St→Prop} (hK:K ((St.newRow ⟨σ.fr,(r,.sl i.size xs)::aQ σ.st r⟩ d (.sl i.size ((xs.drop off).take n++List.replicate m.toNat p))).put d (.row d 0 (n+m.toNat)))):∀Q,o.wp P a x.w (fun a' w'=>∃σ' y,SRel e σ' y a'∧y.w=w'∧K σ') Q:=by
 intro Q
 obtain⟨k,rfl⟩:∃k:Nat,m=(k:Int):=⟨m.toNat,by omega⟩
 simp only[Int.toNat_natCast]at*
 have hexec:∀{w':World} {v:Value},(Builtin.append_ #[t,t2] o.type #[a.eval yb,a.eval ys]).run P x.w=.ok v w'→(execOp a.eval o).run P x.w=.ok (.value v) w':=fun hr=>by
  simp[execOp,ho,resolve,invoke,builtin,hr]
 have hrel:=h.st r _ (aH hr)
 simp only[Row.rel]at hrel
 simp only[aB]at hb
 rcases hrel with⟨_,h1⟩|⟨hls,hok,⟨hln,hxc⟩,hwf,_,hE⟩
 ·subst h1;simp at hoff
 rcases hb with⟨hn0,hcp,ad,he⟩|⟨c,_,he,hnc,hcap,hlen⟩
 ·have:=hcp hok;omega
 rw[hln]at hlen
 obtain⟨olds,ho1,ho2,ho3⟩:=nE hwf hE hlen
 have hxl:((xs.drop off).take n).length=n:=by rw[List.length_take,List.length_drop];omega
 have hwo:=(hwf.drop (n:=off)).take (n:=n)
 have hpl:p.cells.length=i.size:=by have:=(hp x.w x.F).length;rw[←this];simpa using hzs
 have hw:cY i.size (List.replicate k p):=fun q hq=>by rw[(List.mem_replicate.1 hq).2];exact⟨hpl,hp1⟩
 have hpr:aE x.w x.F (flat (List.replicate k p)) (Builtin.zeroCells zv.cells k).toList:=by
  rw[lQ,nC]
  exact lP (hp x.w x.F) k
 rw[he,hs]at hexec
 rw[hls]at hexec
 have hold:Src P x.w i.size (.slice (some ⟨(x.ρ r).blk,(x.ρ r).base+off*i.size,none⟩) n c) n olds:=Src.slice ho3 (fun _=>⟨_,_,rfl,ho2⟩)
 have hpr2:=ho1.append hpr
 rw[←dA]at hpr2
 have hnl:(Builtin.zeroCells zv.cells k).toList.length=k*i.size:=by rw[Array.length_toList,size_zeroCells,hzs]
 have hsum:olds.length+(Builtin.zeroCells zv.cells k).toList.length=(n+k)*i.size:=by rw[ho3,hnl,Nat.add_mul]
 have hr3:=AC (P:=P) (ty:=o.type) (kn:=kn) ht ht2 hi hz hold (by omega) hs0 (by omega) h63 hbytes
 refine aT (hexec hr3) ?_
 rw[hdst]
 have hge:=grownCap_ge x.w (n+k) c et
 have hl2:((xs.drop off).take n++List.replicate k p).length=n+k:=by rw[List.length_append,hxl,List.length_replicate]
 have htk:(olds++(Builtin.zeroCells zv.cells k).toList++(Builtin.zeroCells zv.cells (grownCap x.w (n+k) c et-(n+k))).toList).take (((xs.drop off).take n++List.replicate k p).length*i.size)=olds++(Builtin.zeroCells zv.cells k).toList:=by
  rw[hl2,←hsum,←List.length_append];exact List.take_left
 refine rC (h.weakF hr) hd (hwo.append hw) (by rw[htk];exact hpr2) ?_ (fun c hc=>(List.mem_append.1 hc).elim (hpr2.ones (iL (hwo.append hw)) c) (qS _ hzo c)) (by rw[hl2];exact hge) hl2.symm
  (Nat.lt_of_lt_of_le hd (Nat.le_trans h.small (by omega))) hK
 have hzc:=size_zeroCells zv.cells (grownCap x.w (n+k) c et-(n+k))
 simp only[List.length_append,Array.length_toList,hzc,hzs]
 simp only[Array.length_toList]at hsum
 rw[hsum,←Nat.add_mul]
 congr 1;omega
end
end Go.Vc

namespace Go.Vc
open Go.RowKit
def Cc (P:Program) (f:FuncId):Prop:=∀(args:Array Value) (w:World),(callFunc f args).run P w=.ok (.enter f args) w
theorem fT {P:Program} {f:FuncId} {fn:Func} {c:Code} (hf:P.funcs[f]?=some fn) (hn:(fn.name == "runtime.NumGoroutine")=false) (hb:fn.body=some c):Cc P f:=fun args w=>by
 simp[callFunc,hf,hb]
 intro h
 simp[h]at hn
structure Res (w:World) (F:Nat→Prop) (y:Cx) (v:AV) (rs:List (Nat×List PV)) (cv:Value):Prop where
 below:Below w.heap.size w y.w
 val:aB y v cv
 rows:∀i s xs,rs[i]?=some (s,xs)→(Row.sl s xs).rel y (y.ρ i)
 inj:∀i j,i<rs.length→j<rs.length→i≠j→(y.ρ i).ok=true→(y.ρ j).ok=true→(y.ρ i).blk≠(y.ρ j).blk
 fresh:∀i,i<rs.length→(y.ρ i).ok=true→w.heap.size≤(y.ρ i).blk
 F:∀b,y.F b↔F b∨∃i,i<rs.length∧(y.ρ i).ok=true∧(y.ρ i).blk=b
def Fn (P:Program) (f:FuncId) (args:List PV) (v:AV) (rs:List (Nat×List PV)):Prop:=
 Cc P f∧∀(w:World) (F:Nat→Prop) (vs:List Value),(∀b,F b→b<w.heap.size)→o8 P w F→aE w F args vs→
  Calls P f ⟨vs⟩ w fun en w'=>∃cv y,en=.returned cv∧y.w=w'∧Res w F y v rs cv
def dK (g:AV→Option PV):List AV→Option (List PV)
 | []=>some []
 | v::vs=>match g v,dK g vs with
  | some p,some ps=>some (p::ps)
  | _,_=>none
def cV (st:List (Nat×Row)):Nat→AV→Option PV
 | 0,_=>none
 | k+1,v=>match v with
  | .pv p=>some p
  | .e0=>some (.lst [])
  | .agg cs=>match dK (cV st k) cs with
   | some ps=>some (.agg ps)
   | none=>none
  | .tup cs=>match dK (cV st k) cs with
   | some ps=>some (.tup ps)
   | none=>none
  | .fn f cs=>match dK (cV st k) cs with
   | some ps=>some (.fn f ps)
   | none=>none
  | .row r off n=>match aL st r with
   | some (.sl _ xs)=>some (.lst ((xs.drop off).take n))
   | _=>none
  | .ptr r 0=>match aL st r with
   | some (.box cs)=>match dK (cV st k) cs with
    | some ps=>some (.pt ps)
    | none=>none
   | _=>none
  | .cptr cs 0=>some (.pt cs)
  | _=>none
def AV.pure:AV→Bool
 | .pv _|.e0=>true
 | _=>false
def n6:List AV→Bool
 | []=>true
 | v::vs=>v.pure&&n6 vs
section
variable {P:Program} {e:Env} {σ:St} {x:Cx} {a:Act} {o:Oper}
theorem aG.weak {w:World} {F:Nat→Prop} {p:PV} {v:Value} (h:aG w F p v):aG w (fun _=>False) p v:=
 aG.kept (x:=⟨w,F,fun _=>default⟩) (y:=⟨w,fun _=>False,fun _=>default⟩) ⟨Nat.le_refl _,fun _ _ _=>rfl,fun _ _ h=>h.elim⟩ p h
theorem aJ.weak {w:World} {F:Nat→Prop} {ps:List PV} {b o':Nat} (h:aJ w F ps b o'):aJ w (fun _=>False) ps b o':=
 aJ.kept (x:=⟨w,F,fun _=>default⟩) (y:=⟨w,fun _=>False,fun _=>default⟩) ⟨Nat.le_refl _,fun _ _ _=>rfl,fun _ _ h=>h.elim⟩ ps (fun h=>h) h
theorem aN.weak {w:World} {F:Nat→Prop} {ps:List PV} {b o':Nat} (h:aN w F ps b o'):aN w (fun _=>False) ps b o':=
 aN.kept (x:=⟨w,F,fun _=>default⟩) (y:=⟨w,fun _=>False,fun _=>default⟩) ⟨Nat.le_refl _,fun _ _ _=>rfl,fun _ _ h=>h.elim⟩ ps (fun h=>h) h
theorem qT {g:AV→Option PV} (hg:∀v p cv,g v=some p→aB x v cv→aG x.w (fun _=>False) p cv):∀{vs:List AV} {ps:List PV} {cvs:List Value},dK g vs=some ps→aD x vs cvs→aE x.w (fun _=>False) ps cvs
 | [],_,_,h,hv=>by simp only[dK,Option.some.injEq]at h;subst h;simpa only[aD,aE]using hv
 | v::vs,ps,cvs,h,hv=>by
  simp only[dK]at h
  split at h
  ·rename_i p qs h1 h2
   injection h with h;subst h
   simp only[aD]at hv
   obtain⟨c,r,rfl,h3,h4⟩:=hv
   simp only[aE]
   exact⟨c,r,rfl,hg _ _ _ h1 h3,qT hg h2 h4⟩
  ·cases h
theorem yP (h:SRel e σ x a):∀(k:Nat) (v:AV) (p:PV) (cv:Value),cV σ.st k v=some p→aB x v cv→aG x.w (fun _=>False) p cv
 | 0,v,p,cv,hs,_=>by simp[cV]at hs
 | k+1,v,p,cv,hs,hv=>by
  have ih:∀{vs:List AV} {ps:List PV} {cvs:List Value},dK (cV σ.st k) vs=some ps→aD x vs cvs→aE x.w (fun _=>False) ps cvs:=fun h1 h2=>qT (x:=x) (g:=cV σ.st k) (fun v p cv h1 h2=>yP h k v p cv h1 h2) h1 h2
  unfold cV at hs
  split at hs
  ·injection hs with hs;subst hs;simp only[aB]at hv;exact hv.weak
  ·injection hs with hs;subst hs
   simp only[aB]at hv
   obtain⟨ad,rfl⟩:=hv
   simp only[aG]
   exact⟨ad,0,0,rfl,rfl,Nat.le_refl _,fun hn=>absurd hn (by omega)⟩
  ·split at hs
   ·rename_i ps hps
    injection hs with hs;subst hs
    simp only[aB]at hv
    obtain⟨vs,rfl,hv⟩:=hv
    simp only[aG]
    exact⟨vs,rfl,ih hps hv⟩
   ·cases hs
  ·split at hs
   ·rename_i ps hps
    injection hs with hs;subst hs
    simp only[aB]at hv
    obtain⟨vs,rfl,hv⟩:=hv
    simp only[aG]
    exact⟨vs,rfl,ih hps hv⟩
   ·cases hs
  ·split at hs
   ·rename_i ps hps
    injection hs with hs;subst hs
    simp only[aB]at hv
    obtain⟨vs,rfl,hv⟩:=hv
    simp only[aG]
    exact⟨vs,rfl,ih hps hv⟩
   ·cases hs
  ·rename_i r off n
   split at hs
   ·rename_i s xs hr
    injection hs with hs;subst hs
    have h1:=h.st r _ (aH hr)
    simp only[Row.rel]at h1
    simp only[aB]at hv
    simp only[aG]
    rcases hv with⟨rfl,_,ad,rfl⟩|⟨c,hok,rfl,h2,h3,h4⟩
    ·exact⟨ad,0,0,rfl,by simp,Nat.le_refl _,fun hn=>absurd hn (by omega)⟩
    ·rcases h1 with⟨h1,_⟩|⟨hs,_,⟨hln,_⟩,hwf,⟨arr,et,hh,_⟩,hE⟩
     ·rw[h1]at hok;cases hok
     ·rw[hln]at h4
      refine⟨_,n,c,rfl,by rw[List.length_take,List.length_drop];omega,h2,fun _=>⟨_,_,rfl,(Array.getElem?_eq_some_iff.1 hh).1,fun h=>h,?_⟩⟩
      rw[hs]
      exact((hE.drop off (fun p hp=>(hwf p hp).1) (by omega)).take n).weak
   ·cases hs
  ·rename_i r
   split at hs
   ·rename_i cs hr
    split at hs
    ·rename_i ps hps
     injection hs with hs;subst hs
     have h1:=h.st r _ (aH hr)
     simp only[Row.rel]at h1
     obtain⟨hok,⟨arr,et,hh,_⟩,hc⟩:=h1
     simp only[aB]at hv
     subst hv
     simp only[aG]
     obtain⟨vs,h2,h3⟩:=hc.list
     exact⟨_,_,rfl,(Array.getElem?_eq_some_iff.1 hh).1,fun h=>h,aN.of (ih hps h2) h3⟩
    ·cases hs
   ·cases hs
  ·injection hs with hs;subst hs
   simp only[aB]at hv
   obtain⟨b,o',rfl,h1,h2,h3⟩:=hv
   simp only[aG]
   exact⟨b,o',rfl,h1,fun h=>h,h3.weak⟩
  ·cases hs
theorem uY:∀{vs:List AV} {ps:List PV} {cvs:List Value} {st:List (Nat×Row)} {k:Nat},n6 vs=true→dK (cV st k) vs=some ps→aD x vs cvs→aE x.w x.F ps cvs
 | [],_,_,_,_,_,h,hv=>by simp only[dK,Option.some.injEq]at h;subst h;simpa only[aD,aE]using hv
 | v::vs,ps,cvs,st,k,hp,h,hv=>by
  simp only[dK]at h
  split at h
  ·rename_i p qs h1 h2
   injection h with h;subst h
   simp only[aD]at hv
   obtain⟨c,r,rfl,h3,h4⟩:=hv
   simp only[n6,Bool.and_eq_true]at hp
   simp only[aE]
   refine⟨c,r,rfl,?_,uY hp.2 h2 h4⟩
   cases k with
   | zero=>simp[cV]at h1
   | succ k=>
    cases v with
    | pv q=>simp only[cV,Option.some.injEq]at h1;subst h1;simpa only[aB]using h3
    | e0=>
     simp only[cV,Option.some.injEq]at h1;subst h1
     simp only[aB]at h3
     obtain⟨ad,rfl⟩:=h3
     simp only[aG]
     exact⟨ad,0,0,rfl,rfl,Nat.le_refl _,fun hn=>absurd hn (by omega)⟩
    | _=>simp[AV.pure]at hp
  ·cases h
mutual
def PV.flat:PV→Bool
 | .sc _=>true
 | .agg cs=>PV.flats cs
 | .tup cs=>PV.flats cs
 | .lst []=>true
 | .lst (_::_)=>false
 | .fn _ cs=>PV.flats cs
 | .pt _=>false
def PV.flats:List PV→Bool
 | []=>true
 | p::ps=>p.flat&&PV.flats ps
end
mutual
def AV.flat:AV→Bool
 | .pv p=>p.flat
 | .e0=>true
 | .row _ _ _=>true
 | .agg cs=>AV.flats cs
 | .tup cs=>AV.flats cs
 | _=>false
def AV.flats:List AV→Bool
 | []=>true
 | p::ps=>p.flat&&AV.flats ps
end
def d9:List (Nat×List PV)→Prop
 | []=>True
 | (_,xs)::r=>(∀p∈xs,p.flat=true)∧d9 r
mutual
theorem aG.flat {w:World} {F G:Nat→Prop}:∀(p:PV) {v:Value},p.flat=true→aG w F p v→aG w G p v
 | .sc _,_,_,h=>by simpa only[aG]using h
 | .agg cs,_,hf,h=>by
  simp only[aG,PV.flat]at h hf ⊢
  obtain⟨vs,e,h⟩:=h;exact⟨vs,e,aE.flat cs hf h⟩
 | .tup cs,_,hf,h=>by
  simp only[aG,PV.flat]at h hf ⊢
  obtain⟨vs,e,h⟩:=h;exact⟨vs,e,aE.flat cs hf h⟩
 | .lst [],_,_,h=>by
  simp only[aG]at h ⊢
  obtain⟨a,n,c,e,h1,h2,_⟩:=h
  exact⟨a,n,c,e,h1,h2,fun hn=>absurd hn (by simp at h1;omega)⟩
 | .lst (_::_),_,hf,_=>by simp[PV.flat]at hf
 | .fn _ cs,_,hf,h=>by
  simp only[aG,PV.flat]at h hf ⊢
  obtain⟨vs,e,h⟩:=h;exact⟨vs,e,aE.flat cs hf h⟩
 | .pt _,_,hf,_=>by simp[PV.flat]at hf
theorem aE.flat {w:World} {F G:Nat→Prop}:∀(ps:List PV) {vs:List Value},PV.flats ps=true→aE w F ps vs→aE w G ps vs
 | [],_,_,h=>by simpa only[aE]using h
 | p::ps,_,hf,h=>by
  simp only[aE,PV.flats,Bool.and_eq_true]at h hf ⊢
  obtain⟨v,r,e,h1,h2⟩:=h
  exact⟨v,r,e,aG.flat p hf.1 h1,aE.flat ps hf.2 h2⟩
end
mutual
theorem aB.flat {x y:Cx} (hw:y.w=x.w) (hρ:y.ρ=x.ρ):∀(p:AV) {v:Value},p.flat=true→aB x p v→aB y p v
 | .pv p,_,hf,h=>by
  simp only[aB,AV.flat]at h hf ⊢
  rw[hw];exact aG.flat p hf h
 | .e0,_,_,h=>by simpa only[aB]using h
 | .row _ _ _,_,_,h=>by simp only[aB,hρ]at h ⊢;exact h
 | .agg cs,_,hf,h=>by
  simp only[aB,AV.flat]at h hf ⊢
  obtain⟨vs,e,h⟩:=h;exact⟨vs,e,aD.flat hw hρ cs hf h⟩
 | .tup cs,_,hf,h=>by
  simp only[aB,AV.flat]at h hf ⊢
  obtain⟨vs,e,h⟩:=h;exact⟨vs,e,aD.flat hw hρ cs hf h⟩
 | .un,_,hf,_|.lit _,_,hf,_|.ptr _ _,_,hf,_|.rptr _ _ _,_,hf,_|.eptr _ _ _,_,hf,_|.cptr _ _,_,hf,_|.ful _,_,hf,_|.fn _ _,_,hf,_|.bnd _ _,_,hf,_|.mp _,_,hf,_|.it _,_,hf,_|.whn _ _,_,hf,_=>by simp[AV.flat]at hf
theorem aD.flat {x y:Cx} (hw:y.w=x.w) (hρ:y.ρ=x.ρ):∀(ps:List AV) {vs:List Value},AV.flats ps=true→aD x ps vs→aD y ps vs
 | [],_,_,h=>by simpa only[aD]using h
 | p::ps,_,hf,h=>by
  simp only[aD,AV.flats,Bool.and_eq_true]at h hf ⊢
  obtain⟨v,r,e,h1,h2⟩:=h
  exact⟨v,r,e,aB.flat hw hρ p hf.1 h1,aD.flat hw hρ ps hf.2 h2⟩
end
theorem aN.flat {w:World} {F G:Nat→Prop}:∀{ps:List PV} {b o':Nat},PV.flats ps=true→aN w F ps b o'→aN w G ps b o'
 | [],_,_,_,_=>by simp only[aN]
 | p::ps,b,o',hf,h=>by
  simp only[aN,PV.flats,Bool.and_eq_true]at h hf ⊢
  obtain⟨⟨v,h1,h2⟩,h3⟩:=h
  exact⟨⟨v,h1,aG.flat p hf.1 h2⟩,h3.flat hf.2⟩
theorem Fh (p:PV) (h:p.flat=true):PV.flats p.cells=true:=by
 have one:∀q:PV,q.flat=true→PV.flats [q]=true:=fun q hq=>by simp only[PV.flats,hq,Bool.and_true]
 match p,h with
 | .agg cs,h=>simpa only[PV.flat,PV.cells]using h
 | .sc v,h=>exact one _ h
 | .tup cs,h=>exact one _ h
 | .lst xs,h=>exact one _ h
 | .fn f cs,h=>exact one _ h
 | .pt cs,h=>exact one _ h
theorem aJ.flat {w:World} {F G:Nat→Prop} {ps:List PV} {b o':Nat} (hf:∀p∈ps,p.flat=true) (h:aJ w F ps b o'):aJ w G ps b o':=by
 induction ps generalizing o' with
 | nil=>simp only[aJ]
 | cons p ps ih=>
  rw[aJ.cons_iff]at h ⊢
  exact⟨aN.flat (Fh p (hf p (by simp))) h.1,ih (fun q hq=>hf q (List.mem_cons_of_mem _ hq)) h.2⟩
theorem wR:∀{rs:List (Nat×List PV)} {i s:Nat} {xs:List PV},d9 rs→rs[i]?=some (s,xs)→∀p∈xs,p.flat=true
 | [],_,_,_,_,h=>by simp at h
 | (s',xs')::r,0,s,xs,hf,h=>by
  simp only[List.getElem?_cons_zero,Option.some.injEq,Prod.mk.injEq]at h
  simp only[d9]at hf
  rw[←h.2];exact hf.1
 | (s',xs')::r,i+1,s,xs,hf,h=>by
  simp only[d9]at hf
  exact wR hf.2 (by simpa using h)
theorem Res.flat {w:World} {F G:Nat→Prop} {y:Cx} {v:AV} {rs:List (Nat×List PV)} {cv:Value} (h:Res w F y v rs cv) (hv:v.flat=true) (hr:d9 rs):
  Res w G ⟨y.w,fun b=>G b∨∃i,i<rs.length∧(y.ρ i).ok=true∧(y.ρ i).blk=b,y.ρ⟩ v rs cv where
 below:=h.below
 val:=aB.flat (x:=y) (y:=⟨y.w,fun b=>G b∨∃i,i<rs.length∧(y.ρ i).ok=true∧(y.ρ i).blk=b,y.ρ⟩) rfl rfl v hv h.val
 rows:=fun i s xs hi=>by
  have:=h.rows i s xs hi
  simp only[Row.rel]at this ⊢
  exact this.imp id fun⟨h1,h2,h3,h4,h5,h6⟩=>⟨h1,h2,h3,h4,h5,h6.flat (wR hr hi)⟩
 inj:=h.inj
 fresh:=h.fresh
 F:=fun b=>Iff.rfl
end
end Go.Vc

namespace Go.Vc
open Go.RowKit
mutual
def AV.ren (r:Nat):AV→AV
 | .pv p=>.pv p
 | .e0=>.e0
 | .agg cs=>.agg (AV.rens r cs)
 | .tup cs=>.tup (AV.rens r cs)
 | .row q off n=>if q=0 then .row r off n else .un
 | _=>.un
def AV.rens (r:Nat):List AV→List AV
 | []=>[]
 | v::vs=>v.ren r::AV.rens r vs
end
def eX (d:Nat):Nat:=1000+d
def St.after (σ:St) (d:Nat) (v:AV):List (Nat×List PV)→St
 | []=>σ.put d (v.ren 0)
 | (s,xs)::_=>(σ.newRow (eX d) (.sl s xs)).put d (v.ren (eX d))
def AV.isPv:AV→Prop
 | .pv _=>True
 | _=>False
def j7 (v:AV):List (Nat×List PV)→Prop
 | []=>v.isPv
 | [_]=>True
 | _=>False
def cA:AV→Option (FuncId×List AV)
 | .fn g caps=>some (g,caps)
 | .pv (.fn g ps)=>some (g,ps.map .pv)
 | _=>none
def lW:AV→Option (FuncId×List AV)
 | .bnd g first=>some (g,first)
 | _=>none
section
variable {P:Program} {e:Env} {σ:St} {x:Cx} {a:Act} {o:Oper}
mutual
theorem aB.ren {y z:Cx} (hw:z.w=y.w) (hF:∀b,z.F b→y.F b) {r:Nat} (hρ:z.ρ r=y.ρ 0):∀(v:AV) {cv:Value},aB y v cv→aB z (v.ren r) cv
 | .pv p,_,h=>by
  simp only[aB,AV.ren]at h ⊢
  exact aG.kept (x:=y) (y:=z) ⟨by rw[hw];exact Nat.le_refl _,fun b _ _=>by rw[hw],fun b _ hb=>hF b hb⟩ p h
 | .e0,_,h=>by simpa only[aB,AV.ren]using h
 | .agg cs,_,h=>by
  simp only[aB,AV.ren]at h ⊢
  obtain⟨vs,e,h⟩:=h;exact⟨vs,e,aD.ren hw hF hρ cs h⟩
 | .tup cs,_,h=>by
  simp only[aB,AV.ren]at h ⊢
  obtain⟨vs,e,h⟩:=h;exact⟨vs,e,aD.ren hw hF hρ cs h⟩
 | .row q off n,_,h=>by
  simp only[AV.ren]
  split
  ·rename_i hq;subst hq;simp only[aB,hρ]at h ⊢;exact h
  ·simp only[aB]
 | .un,_,_|.lit _,_,_|.ptr _ _,_,_|.rptr _ _ _,_,_|.eptr _ _ _,_,_|.cptr _ _,_,_|.ful _,_,_|.fn _ _,_,_|.bnd _ _,_,_|.mp _,_,_|.it _,_,_|.whn _ _,_,_=>by simp only[AV.ren,aB]
theorem aD.ren {y z:Cx} (hw:z.w=y.w) (hF:∀b,z.F b→y.F b) {r:Nat} (hρ:z.ρ r=y.ρ 0):∀(vs:List AV) {cvs:List Value},aD y vs cvs→aD z (AV.rens r vs) cvs
 | [],_,h=>by simpa only[aD,AV.rens]using h
 | v::vs,_,h=>by
  simp only[aD,AV.rens]at h ⊢
  obtain⟨c,q,e,h1,h2⟩:=h
  exact⟨c,q,e,aB.ren hw hF hρ v h1,aD.ren hw hF hρ vs h2⟩
end
theorem rE (h:SRel e σ x a) {d:Nat} (hd:d<e.n) {y:Cx} {v:AV} {rs:List (Nat×List PV)} {cv:Value} (hr:Res x.w x.F y v rs cv) (hok:j7 v rs):
  ∃z,SRel e (σ.after d v rs) z (a.put (some d) cv)∧z.w=y.w:=by
 match rs,hok with
 | _::_::_,hok=>exact(show False by simp only[j7]at hok).elim
 | [],hok=>
  have hp:∃p,v=.pv p:=by
   simp only[j7]at hok
   cases v<;>simp only[AV.isPv]at hok
   exact⟨_,rfl⟩
  obtain⟨p,rfl⟩:=hp
  refine⟨⟨y.w,x.F,x.ρ⟩,h.value_ext hr.below hd ?_,rfl⟩
  have hv:=hr.val
  simp only[aB,AV.ren]at hv ⊢
  exact aG.kept (x:=y) (y:=⟨y.w,x.F,x.ρ⟩) ⟨Nat.le_refl _,fun _ _ _=>rfl,fun b _ hb=>(hr.F b).2 (.inl hb)⟩ p hv
 | [(s,xs)],_=>
  have hrow:=hr.rows 0 s xs rfl
  have hfr:(y.ρ 0).ok=true→x.w.heap.size≤(y.ρ 0).blk:=hr.fresh 0 (by simp)
  have hFy:∀b,(bA e σ x y.w (eX d) (.sl s xs) (y.ρ 0)).F b→y.F b:=fun b hb=>by
   rcases hb with h0|⟨q,rw',hm,hqo,hqb⟩
   ·exact(hr.F b).2 (.inl ((h.F b).2 (.inl h0)))
   ·rcases List.mem_cons.1 hm with hm|hm
    ·injection hm with h1 _
     subst h1
     simp only[bT,if_true]at hqo hqb
     exact(hr.F b).2 (.inr ⟨0,by simp,hqo,hqb⟩)
    ·obtain⟨u,h1,_⟩:=gL hm
     obtain⟨h3,h4⟩:=bE h1
     simp only[bT,if_neg h4]at hqo hqb
     exact(hr.F b).2 (.inl ((h.F b).2 (.inr ⟨q,u,h3,hqo,hqb⟩)))
  have h1:=SRel.fresh h hr.below (eX d) (.sl s xs) (y.ρ 0) hfr (by
   simp only[Row.rel]at hrow ⊢
   refine hrow.imp id fun⟨g1,g2,g3,g4,g5,g6⟩=>⟨g1,g2,g3,g4,g5,?_⟩
   exact aJ.kept (x:=y) (y:=bA e σ x y.w (eX d) (.sl s xs) (y.ρ 0)) ⟨Nat.le_refl _,fun _ _ _=>rfl,fun b _ hb=>hFy b hb⟩ xs (fun hc=>hc) g6) (by have:=h.small;simp only[eX];omega)
  refine⟨bA e σ x y.w (eX d) (.sl s xs) (y.ρ 0),h1.put hd (v:=v.ren (eX d)) ?_,rfl⟩
  exact aB.ren (y:=y) (z:=bA e σ x y.w (eX d) (.sl s xs) (y.ρ 0)) rfl hFy (by simp[bA,bT]) v hr.val
theorem aD.append:∀{us vs:List AV} {as bs:List Value},aD x us as→aD x vs bs→aD x (us++vs) (as++bs)
 | [],_,_,_,h,k=>by simp only[aD]at h;subst h;simpa using k
 | u::us,vs,_,bs,h,k=>by
  simp only[aD]at h
  obtain⟨v,r,rfl,h1,h2⟩:=h
  simp only[List.cons_append,aD]
  exact⟨v,r++bs,rfl,h1,h2.append k⟩
theorem N0 [EP e P] (h:SRel e σ x a) (d:Nat) (hd:d<e.n) (hdst:o.dst=some d) {yf:Operand} {ys:Array Operand} {ts:Array TypeId} (ho:o.op=.call { callee:=.value yf,args:=ys,argTypes:=ts })
  {vf:AV} (hf:aB x vf (a.eval yf)) {g:FuncId} {caps:List AV} (hg:cA vf=some (g,caps)) {zs:List Opd} (hz:fA ys.toList=some zs) (hc:e8 σ zs=true)
  {ps:List PV} (hs:dK (cV σ.st 4) (eD σ zs++caps)=some ps) {v:AV} {rs:List (Nat×List PV)} (hF:Fn P g ps v rs) (hfl:n6 (eD σ zs++caps)=true∨(v.flat=true∧d9 rs)) (hok:j7 v rs)
  {K:St→Prop} (hK:K (σ.after d v rs)):iB P e o a x.w K:=by
 intro Q
 have hargs:=iK h hz hc
 have hcaps:∃cvs:List Value,a.eval yf=.func (.func g) #[] ⟨cvs⟩∧aD x caps cvs:=by
  unfold cA at hg
  split at hg
  ·injection hg with hg;injection hg with h1 h2;subst h1;subst h2
   simp only[aB]at hf
   exact hf
  ·injection hg with hg;injection hg with h1 h2;subst h1;subst h2
   simp only[aB,aG]at hf
   obtain⟨vs,e1,h1⟩:=hf
   exact⟨vs,e1,h1.vrels⟩
  ·cases hg
 obtain⟨cvs,he,hcv⟩:=hcaps
 have hall:=hargs.append hcv
 have hrun:(execOp a.eval o).run P x.w=.ok (.enter g ⟨ys.toList.map a.eval++cvs⟩) x.w:=by
  have e1:ys.map a.eval++(⟨cvs⟩:Array Value)=⟨ys.toList.map a.eval++cvs⟩:=Array.toList_inj.1 (by simp)
  have hE:(callFunc g ⟨ys.toList.map a.eval++cvs⟩).run P x.w=.ok (.enter g ⟨ys.toList.map a.eval++cvs⟩) x.w:=hF.1 _ _
  simp[execOp,ho,resolve,Deferred.ofValue,he,invoke,e1,hE]
 have hlt:∀b,x.F b→b<x.w.heap.size:=fun b hb=>Ek h hb
 unfold Oper.wp
 rw[hrun,Oper.upon_enter,hdst]
 rcases hfl with hp|⟨h1,h2⟩
 ·refine(hF.2 x.w x.F _ hlt h.now (uY hp hs hall)).mono fun en w' ⟨cv,y,e1,e2,hr⟩=>?_
  subst e1
  obtain⟨z,g1,g2⟩:=rE h hd hr hok
  exact⟨_,z,g1,g2.trans e2,hK,by rw[←e2];exact cP hr.below⟩
 ·refine(hF.2 x.w (fun _=>False) _ (fun b hb=>hb.elim) (h.now.sub fun b hb=>hb.elim) (qT (fun v p cv g1 g2=>yP h 4 v p cv g1 g2) hs hall)).mono fun en w' ⟨cv,y,e1,e2,hr⟩=>?_
  subst e1
  obtain⟨z,g1,g2⟩:=rE h hd (hr.flat (G:=x.F) h1 h2) hok
  exact⟨_,z,g1,g2.trans e2,hK,by rw[←e2];exact cP hr.below⟩
theorem Ls (h:SRel e σ x a) (d:Nat) (hd:d<e.n) (hdst:o.dst=some d) {t t' et:TypeId} {y z:Operand} {neg:Bool} (ho:o.op=.binOp (if neg then .neq else .eql) t y z t') (ht:P.underlying t=some (.slice et))
  {v:AV} (hv:aB x v (a.eval y)) (hz:a.eval z=.slice none 0 0) {n:Nat} (hn:(∃ps,v=.pv (.lst ps)∧ps.length=n)∨(∃r off,v=.row r off n)∨(v=.e0∧n=0))
  {K:St→Prop} (hK:∀b:Bool,(b=true→n=0)→K (σ.put d (aY (if neg then !b else b)))):iB P e o a x.w K:=by
 intro Q
 have hshape:∃ad m c,a.eval y=.slice ad m c∧m=n∧(ad=none→n=0):=by
  rcases hn with⟨ps,rfl,hl⟩|⟨r,off,rfl⟩|⟨rfl,hl⟩
  ·simp only[aB,aG]at hv
   obtain⟨ad,m,c,e1,e2,_,e3⟩:=hv
   refine⟨ad,m,c,e1,by omega,fun hne=>?_⟩
   rcases Nat.eq_zero_or_pos m with h0|h0
   ·omega
   ·obtain⟨b,o',h1,_⟩:=e3 h0;rw[hne]at h1;cases h1
  ·simp only[aB]at hv
   rcases hv with⟨rfl,_,ad,e1⟩|⟨c,_,e1,_⟩
   ·exact⟨ad,0,0,e1,rfl,fun _=>rfl⟩
   ·exact⟨_,n,c,e1,rfl,fun h=>by cases h⟩
  ·simp only[aB]at hv
   obtain⟨ad,e1⟩:=hv
   exact⟨ad,0,0,e1,hl.symm,fun _=>hl⟩
 obtain⟨ad,m,c,e1,rfl,hnil⟩:=hshape
 have heq:∀w:World,(Op.equal t (.slice ad m c) (.slice none 0 0)).run P w=.ok ad.isNone w:=fun w=>by
  have h1:∀k:Nat,(Op.equalIn (k+1) t (.slice ad m c) (.slice none 0 0)).run P w=.ok ad.isNone w:=fun k=>by
   cases ad<;>simp[Op.equalIn,run_underlying ht]
  exact h1 9999
 have hb:(ad.isNone=true→m=0):=fun h1=>hnil (by simpa using h1)
 refine aT (v:=.bool (if neg then !ad.isNone else ad.isNone)) (w':=x.w) ?_ ?_
 ·cases neg
  ·simp[execOp,ho,e1,hz,eqGuard,binOp,heq]
  ·simp[execOp,ho,e1,hz,eqGuard,binOp,heq]
 ·rw[hdst]
  exact⟨_,x,h.put hd (v:=aY (if neg then !ad.isNone else ad.isNone)) (by simp[aY,aB,aG]),rfl,hK _ hb,Agr.refl _⟩
end
end Go.Vc

namespace Go.Vc
open Go.RowKit
set_option linter.constructorNameAsVariable false
set_option linter.unusedSimpArgs false
set_option linter.unusedVariables false
mutual
def AV.rn (m:Nat→Nat):AV→AV
 | .un=>.un
 | .pv p=>.pv p
 | .agg cs=>.agg (AV.rns m cs)
 | .tup cs=>.tup (AV.rns m cs)
 | .e0=>.e0
 | .lit xs=>.lit (AV.rns m xs)
 | .row r off n=>.row (m r) off n
 | .ptr r off=>.ptr (m r) off
 | .rptr r i off=>.rptr (m r) i off
 | .eptr xs i off=>.eptr xs i off
 | .cptr cs off=>.cptr cs off
 | .ful xs=>.ful xs
 | .fn f caps=>.fn f (AV.rns m caps)
 | .bnd f caps=>.bnd f (AV.rns m caps)
 | .mp r=>.mp (m r)
 | .it r=>.it (m r)
 | .whn c v=>.whn c (AV.rn m v)
def AV.rns (m:Nat→Nat):List AV→List AV
 | []=>[]
 | v::vs=>AV.rn m v::AV.rns m vs
end
def Row.rn (m:Nat→Nat):Row→Row
 | .box cells=>.box (AV.rns m cells)
 | .sl s xs=>.sl s xs
 | .slf s xs=>.slf s xs
 | .bxs cells=>.bxs (AV.rns m cells)
 | .mp es=>.mp es
 | .sit s pos=>.sit s pos
 | .mit q n rem cur=>.mit (m q) n rem cur
 | .mpd es clock=>.mpd es clock
 | .mpx ks vs=>.mpx ks (AV.rns m vs)
 | .mid q n bs rem cur=>.mid (m q) n bs rem cur
 | .gone=>.gone
def Cx.pull (z:Cx) (m:Nat→Nat):Cx:=⟨z.w,z.F,fun r=>z.ρ (m r)⟩
theorem jK (m:Nat→Nat):∀l:List AV,(AV.rns m l).length=l.length
 | []=>rfl
 | _::l=>by simp only[AV.rns,List.length_cons,jK m l]
theorem GN {m:Nat→Nat} {y:AV} (h1:∀cs,y≠.agg cs):∀cs,y.rn m≠.agg cs:=by
 intro cs
 cases y<;>simp only[AV.rn]<;>first|(intro h;cases h;done)|skip
 rename_i l;exact(h1 l rfl).elim
theorem I9 {m:Nat→Nat} {y:AV} (h1:∀cs,y≠.pv (.agg cs)):∀cs,y.rn m≠.pv (.agg cs):=by
 intro cs
 cases y<;>simp only[AV.rn]<;>first|(intro h;cases h;done)|skip
 rename_i l;exact fun e=>h1 cs (by rw[e])
mutual
theorem kJ (z:Cx) (m:Nat→Nat):∀(u:AV) {cv:Value},aB z (u.rn m) cv↔aB (z.pull m) u cv
 | .un,_=>by simp only[AV.rn,aB]
 | .pv p,_=>by simp only[AV.rn,aB,Cx.pull]
 | .agg cs,_=>by
  simp only[AV.rn,aB]
  exact exists_congr fun vs=>and_congr Iff.rfl (lF z m cs)
 | .tup cs,_=>by
  simp only[AV.rn,aB]
  exact exists_congr fun vs=>and_congr Iff.rfl (lF z m cs)
 | .e0,_=>by simp only[AV.rn,aB]
 | .lit xs,_=>by
  simp only[AV.rn,aB,jK,rF z m xs]
  simp only[Cx.pull]
 | .row r off n,_=>by simp only[AV.rn,aB,Cx.pull]
 | .ptr r off,_=>by simp only[AV.rn,aB,Cx.pull]
 | .rptr r i off,_=>by simp only[AV.rn,aB,Cx.pull]
 | .eptr xs i off,_=>by simp only[AV.rn,aB,Cx.pull]
 | .cptr cs off,_=>by simp only[AV.rn,aB,Cx.pull]
 | .ful xs,_=>by simp only[AV.rn,aB,Cx.pull]
 | .fn f cs,_=>by
  simp only[AV.rn,aB]
  exact exists_congr fun vs=>and_congr Iff.rfl (lF z m cs)
 | .bnd f cs,_=>by
  simp only[AV.rn,aB]
  exact exists_congr fun vs=>and_congr Iff.rfl (lF z m cs)
 | .mp r,_=>by simp only[AV.rn,aB,Cx.pull]
 | .it r,_=>by simp only[AV.rn,aB,Cx.pull]
 | .whn c v,_=>by
  simp only[AV.rn,aB]
  exact and_congr (imp_congr Iff.rfl (kJ z m v)) Iff.rfl
theorem lF (z:Cx) (m:Nat→Nat):∀(us:List AV) {cvs:List Value},aD z (AV.rns m us) cvs↔aD (z.pull m) us cvs
 | [],_=>by simp only[AV.rns,aD]
 | u::us,_=>by
  simp only[AV.rns,aD]
  exact exists_congr fun v=>exists_congr fun r=>and_congr Iff.rfl (and_congr (kJ z m u) (lF z m us))
theorem rF (z:Cx) (m:Nat→Nat):∀(xs:List AV) {b o:Nat},aS z (AV.rns m xs) b o↔aS (z.pull m) xs b o
 | [],_,_=>by simp only[AV.rns,aS]
 | y::xs,b,o=>by
  by_cases h1:∃cs,y=.agg cs
  ·obtain⟨cs,rfl⟩:=h1
   simp only[AV.rns,AV.rn,aS,jK]
   exact and_congr (rG z m cs) (rF z m xs)
  by_cases h2:∃cs,y=.pv (.agg cs)
  ·obtain⟨cs,rfl⟩:=h2
   simp only[AV.rns,AV.rn,aS]
   exact and_congr (by simp only[Cx.pull]) (rF z m xs)
  have h1':∀cs,y≠.agg cs:=fun cs e=>h1 ⟨cs,e⟩
  have h2':∀cs,y≠.pv (.agg cs):=fun cs e=>h2 ⟨cs,e⟩
  simp only[AV.rns]
  rw[gO (GN h1') (I9 h2'),gO h1' h2']
  exact and_congr (exists_congr fun v=>and_congr Iff.rfl (kJ z m y)) (rF z m xs)
theorem rG (z:Cx) (m:Nat→Nat):∀(xs:List AV) {b o:Nat},aO z (AV.rns m xs) b o↔aO (z.pull m) xs b o
 | [],_,_=>by simp only[AV.rns,aO]
 | y::xs,b,o=>by
  simp only[AV.rns,aO]
  exact and_congr (exists_congr fun v=>and_congr Iff.rfl (kJ z m y)) (rG z m xs)
end
theorem En {m:Nat→Nat}:∀{l:List AV} {i:Nat},(AV.rns m l)[i]?=(l[i]?).map (AV.rn m)
 | [],i=>by simp[AV.rns]
 | u::l,0=>by simp[AV.rns]
 | u::l,i+1=>by simp only[AV.rns,List.getElem?_cons_succ,En (l:=l)]
theorem yK (z:Cx) (m:Nat→Nat) (l:Loc):∀row:Row,(row.rn m).rel z l↔row.rel (z.pull m) l
 | .box cs=>by
  simp only[Row.rn,Row.rel,jK]
  exact and_congr Iff.rfl (and_congr Iff.rfl (rG z m cs))
 | .sl _ _=>by simp only[Row.rn,Row.rel,Cx.pull]
 | .slf _ _=>by simp only[Row.rn,Row.rel,Cx.pull]
 | .bxs cs=>by
  simp only[Row.rn,Row.rel,jK]
  exact and_congr Iff.rfl (and_congr Iff.rfl (and_congr Iff.rfl (rG z m cs)))
 | .mp _=>by simp only[Row.rn,Row.rel,iP,Cx.pull]
 | .sit _ _=>by simp only[Row.rn,Row.rel,Cx.pull]
 | .mit _ _ _ _=>by simp only[Row.rn,Row.rel,Cx.pull]
 | .mpd _ _=>by simp only[Row.rn,Row.rel,iP,Cx.pull]
 | .mpx ks vs=>by
  simp only[Row.rn,Row.rel,jK]
  refine and_congr Iff.rfl (exists_congr fun ents=>exists_congr fun clock=>and_congr Iff.rfl (and_congr Iff.rfl (and_congr Iff.rfl (and_congr ⟨fun h i k v e hk hv he=>?_,fun h i k v e hk hv he=>?_⟩ Iff.rfl))))
  ·obtain⟨h1,h2⟩:=h i k (v.rn m) e hk (by rw[En,hv];rfl) he
   exact⟨h1,(kJ z m v).1 h2⟩
  ·rw[En]at hv
   cases hu:vs[i]? with
   | none=>rw[hu]at hv;cases hv
   | some u=>
    rw[hu]at hv
    simp only[Option.map_some,Option.some.injEq]at hv
    subst hv
    obtain⟨h1,h2⟩:=h i k u e hk hu he
    exact⟨h1,(kJ z m u).2 h2⟩
 | .mid _ _ _ _ _=>by simp only[Row.rn,Row.rel,Cx.pull]
 | .gone=>by simp only[Row.rn,Row.rel,Cx.pull]
theorem oL {m:Nat→Nat}:∀{l:List Nat} {a b:Nat},(l.map m).Nodup→a∈l→b∈l→m a=m b→a=b
 | [],_,_,_,h,_,_=>by cases h
 | c::l,a,b,hn,ha,hb,he=>by
  simp only[List.map_cons,List.nodup_cons]at hn
  rcases List.mem_cons.1 ha with ha'|ha'<;>rcases List.mem_cons.1 hb with hb'|hb'
  ·rw[ha',hb']
  ·exact absurd (by rw[←ha',he];exact List.mem_map_of_mem hb') hn.1
  ·exact absurd (by rw[←hb',←he];exact List.mem_map_of_mem ha') hn.1
  ·exact oL hn.2 ha' hb' he
structure Lent (x:Cx) (s0:List (Nat×Row)):Prop where
 st:∀r row,(r,row)∈s0→row.rel x (x.ρ r)
 keys:(s0.map (·.1)).Nodup
 inj:∀r row r' row',(r,row)∈s0→(r',row')∈s0→r≠r'→(x.ρ r).ok=true→(x.ρ r').ok=true→(x.ρ r).blk≠(x.ρ r').blk
 F:∀r row,(r,row)∈s0→(x.ρ r).ok=true→x.F (x.ρ r).blk
structure ResS (x:Cx) (s0:List (Nat×Row)) (y:Cx) (v:AV) (s1:List (Nat×Row)) (cv:Value):Prop where
 below:BelowL (d6 s0 x.ρ) x.w y.w
 val:aB y v cv
 st:∀r row,(r,row)∈s1→row.rel y (y.ρ r)
 keys:(s1.map (·.1)).Nodup
 inj:∀r row r' row',(r,row)∈s1→(r',row')∈s1→r≠r'→(y.ρ r).ok=true→(y.ρ r').ok=true→(y.ρ r).blk≠(y.ρ r').blk
 own:∀r row,(r,row)∈s1→(y.ρ r).ok=true→x.w.heap.size≤(y.ρ r).blk∨d6 s0 x.ρ (y.ρ r).blk
 F:∀b,y.F b↔(x.F b∧¬d6 s0 x.ρ b)∨d6 s1 y.ρ b
 stay:∀r,200000≤r→y.ρ r=x.ρ r
def j4 (P:Program) (f:FuncId) (args:List AV) (st:List (Nat×Row)) (v:AV) (st':List (Nat×Row)):Prop:=
 Cc P f∧∀(x:Cx) (vs:List Value),(∀b,x.F b→b<x.w.heap.size)→o8 P x.w x.F→Lent x st→aD x args vs→
  Calls P f ⟨vs⟩ x.w fun en w'=>∃cv y,en=.returned cv∧y.w=w'∧ResS x st y v st' cv
def mY (yρ xρ:Nat→Loc) (m:Nat→Nat):List Nat→Nat→Loc
 | [],q=>xρ q
 | k::ks,q=>if m k=q then yρ k else mY yρ xρ m ks q
theorem wI {yρ xρ:Nat→Loc} {m:Nat→Nat}:∀{ks:List Nat},(ks.map m).Nodup→∀k∈ks,mY yρ xρ m ks (m k)=yρ k
 | [],_,k,hk=>by cases hk
 | k'::ks,hn,k,hk=>by
  simp only[List.map_cons,List.nodup_cons]at hn
  simp only[mY]
  rcases List.mem_cons.1 hk with rfl|hk
  ·rw[if_pos rfl]
  ·rw[if_neg fun he=>hn.1 (by rw[he];exact List.mem_map_of_mem hk)]
   exact wI hn.2 k hk
theorem uB {yρ xρ:Nat→Loc} {m:Nat→Nat}:∀{ks:List Nat} {q:Nat},q∉ks.map m→mY yρ xρ m ks q=xρ q
 | [],_,_=>rfl
 | k'::ks,q,hq=>by
  simp only[List.map_cons,List.mem_cons,not_or]at hq
  simp only[mY]
  rw[if_neg fun he=>hq.1 he.symm]
  exact uB hq.2
def qR (st:List (Nat×Row)) (r:Nat):Bool := !(st.map (·.1)).contains r
def pL (m:Nat→Nat) (st:List (Nat×Row)) (q:Nat):Bool:=st.any fun e=>decide (e.1<200000)&&(m e.1==q)
def pH (m:Nat→Nat) (ks:List (Nat×Row)):List (Nat×Row)→List (Nat×Row)
 | []=>[]
 | (r,row)::st=>(m r,(row.clip (qR ks)).rn m)::pH m ks st
def j0 (l:List (Nat×Row)):List Nat→List (Nat×Row)
 | []=>l
 | r::rs=>aQ (j0 l rs) r
theorem oG {st:List (Nat×Row)}:∀{ids:List Nat} {r:Nat} {row:Row},(r,row)∈j0 st ids→(r,row)∈st∧r∉ids
 | [],_,_,h=>⟨h,by simp⟩
 | i::ids,r,row,h=>by
  simp only[j0]at h
  obtain⟨h1,h2⟩:=bE h
  obtain⟨h3,h4⟩:=oG h1
  exact⟨h3,by simp only[List.mem_cons,not_or];exact⟨h2,h4⟩⟩
theorem r7 {st:List (Nat×Row)} (h:(st.map (·.1)).Nodup):∀ids:List Nat,((j0 st ids).map (·.1)).Nodup
 | []=>h
 | i::ids=>fC (r7 h ids)
theorem fD {m:Nat→Nat} {ks:List (Nat×Row)}:∀{st:List (Nat×Row)} {q:Nat} {row:Row},(q,row)∈pH m ks st→∃r u,(r,u)∈st∧q=m r∧row=(u.clip (qR ks)).rn m
 | [],_,_,h=>by cases h
 | (r,u)::st,q,row,h=>by
  simp only[pH]at h
  rcases List.mem_cons.1 h with h|h
  ·injection h with h1 h2;exact⟨r,u,by simp,h1,h2⟩
  ·obtain⟨r',u',h1,h2,h3⟩:=fD h
   exact⟨r',u',List.mem_cons_of_mem _ h1,h2,h3⟩
theorem wE {m:Nat→Nat} {ks:List (Nat×Row)}:∀{st:List (Nat×Row)},(pH m ks st).map (·.1)=(st.map (·.1)).map m
 | []=>rfl
 | (r,u)::st=>by simp only[pH,List.map_cons,wE]
def St.afterS (σ:St) (d:Nat) (m:Nat→Nat) (st:List (Nat×Row)) (v:AV) (st':List (Nat×Row)):St:=
 St.put ⟨iH (pL m st') σ.fr,pH m st' st'++eG (pL m st') (j0 σ.st ((st'.map (·.1)).map m++(st.map (·.1)).map m))⟩ d ((v.clip (qR st')).rn m)
section
variable {P:Program} {e:Env} {σ:St} {x:Cx} {a:Act} {o:Oper}
theorem SRel.lent (h:SRel e σ x a) {d:Nat} (hd:d<e.n) {st st':List (Nat×Row)} {m:Nat→Nat} {y:Cx} {v:AV} {cv:Value}
  (hl:∀r row,(r,row)∈st→(m r,row.rn m)∈σ.st) (hr:ResS (x.pull m) st y v st' cv) (hK:((st'.map (·.1)).map m).Nodup) (hfx:∀r row,(r,row)∈st'→r<200000→m r<200000):
  ∃z,SRel e (σ.afterS d m st v st') z (a.put (some d) cv)∧z.w=y.w:=by
 let A:=(st'.map (·.1)).map m++(st.map (·.1)).map m
 let D:=pL m st'
 let ρ':=mY y.ρ x.ρ m (st'.map (·.1))
 let rows:=pH m st' st'++eG D (j0 σ.st A)
 let z:Cx:=⟨y.w,fun b=>e.F0 b∨d6 rows ρ' b,ρ'⟩
 have hlt:=h.blk_lt
 have hat:∀r row,(r,row)∈st'→ρ' (m r)=y.ρ r:=fun r row hm=>wI hK r (List.mem_map.2 ⟨_,hm,rfl⟩)
 have hout:∀q,q∉(st'.map (·.1)).map m→ρ' q=x.ρ q:=fun q hq=>uB hq
 have hDρ:∀q,D q=false→ρ' q=x.ρ q:=by
  intro q hq
  by_cases hin:q∈(st'.map (·.1)).map m
  ·obtain⟨r,hr1,rfl⟩:=List.mem_map.1 hin
   obtain⟨⟨r',row⟩,hr2,rfl⟩:=List.mem_map.1 hr1
   rw[hat r' row hr2]
   have:200000≤r':=by
    rcases Nat.lt_or_ge r' 200000 with hlt'|hge
    ·have:D (m r')=true:=by
      show pL m st' (m r')=true
      simp only[pL,List.any_eq_true]
      exact⟨_,hr2,by simp[hlt']⟩
     rw[this]at hq;cases hq
    ·exact hge
   exact hr.stay r' this
  ·exact hout q hin
 have lentOwn:∀b,d6 st (x.pull m).ρ b→∃q row,(q,row)∈σ.st∧(x.ρ q).ok=true∧(x.ρ q).blk=b∧q∈A:=by
  rintro b ⟨r,row,h1,h2,h3⟩
  exact⟨m r,_,hl r row h1,h2,h3,List.mem_append_right _ (List.mem_map_of_mem (List.mem_map.2 ⟨_,h1,rfl⟩))⟩
 have lentF:∀b,d6 st (x.pull m).ρ b→x.F b:=fun b hb=>by
  obtain⟨q,row,h1,h2,h3,_⟩:=lentOwn b hb
  exact(h.F b).2 (.inr ⟨q,row,h1,h2,h3⟩)
 have F0not:∀b,e.F0 b→¬d6 st (x.pull m).ρ b:=fun b hb ho=>by
  obtain⟨q,row,h1,h2,h3,_⟩:=lentOwn b ho
  have h4:=h.f0 b hb
  rcases h.own q row h1 h2 with h5|h5
  ·rw[h3]at h5;omega
  ·rw[h3]at h5;exact h4.2 h5
 have old:∀q row,(q,row)∈eG D (j0 σ.st A)→q∉A∧∃u,(q,u)∈σ.st∧row=u.clip D:=fun q row hm=>by
  obtain⟨u,h1,h2⟩:=gL hm
  obtain⟨h3,h4⟩:=oG h1
  exact⟨h4,u,h3,h2⟩
 have oldρ:∀q,q∉A→ρ' q=x.ρ q:=fun q hq=>hout q fun hin=>hq (List.mem_append_left _ hin)
 have oldNot:∀q u,(q,u)∈σ.st→q∉A→(x.ρ q).ok=true→¬d6 st (x.pull m).ρ (x.ρ q).blk:=fun q u hu hq hok ho=>by
  obtain⟨q',row,h1,h2,h3,h4⟩:=lentOwn _ ho
  exact h.inj q u q' row hu h1 (fun he=>hq (he▸h4)) hok h2 h3.symm
 have ownRow:∀b,d6 rows ρ' b→d6 st' y.ρ b∨∃q u,(q,u)∈σ.st∧q∉A∧(x.ρ q).ok=true∧(x.ρ q).blk=b:=by
  rintro b ⟨q,row,hm,hok,hb⟩
  rcases List.mem_append.1 hm with hm|hm
  ·obtain⟨r,u,h1,rfl,_⟩:=fD hm
   rw[hat r u h1]at hok hb
   exact .inl ⟨r,u,h1,hok,hb⟩
  ·obtain⟨hq,u,hu,_⟩:=old q row hm
   rw[oldρ q hq]at hok hb
   exact .inr ⟨q,u,hu,hq,hok,hb⟩
 have zy:∀b,z.F b→y.F b:=fun b hb=>(hr.F b).2 (by
  rcases hb with hb|hb
  ·exact .inl ⟨(h.F b).2 (.inl hb),F0not b hb⟩
  ·rcases ownRow b hb with hb|⟨q,u,hu,hq,hok,rfl⟩
   ·exact .inr hb
   ·exact .inl ⟨(h.F _).2 (.inr ⟨q,u,hu,hok,rfl⟩),oldNot q u hu hq hok⟩)
 have yx:∀b,b<x.w.heap.size→y.F b→x.F b:=fun b hlt' hb=>by
  rcases(hr.F b).1 hb with hb|⟨r,row,h1,h2,rfl⟩
  ·exact hb.1
  ·rcases hr.own r row h1 h2 with h3|h3
   ·have:x.w.heap.size≤(y.ρ r).blk:=h3
    omega
   ·exact lentF _ h3
 have heap:∀b,¬d6 st (x.pull m).ρ b→b<x.w.heap.size→y.w.heap[b]?=x.w.heap[b]?:=fun b hb hlt'=>hr.below.block b hlt' hb
 have kept:Kept x z:={
  size:=hr.below.size
  heap:=fun b hb hlt'=>heap b (fun ho=>hb (lentF b ho)) hlt'
  F:=fun b hlt' hb=>yx b hlt' (zy b hb) }
 have kyz:Kept y (z.pull m):={
  size:=Nat.le_refl _
  heap:=fun _ _ _=>rfl
  F:=fun b _ hb=>zy b hb }
 have kρ:∀r,qR st' r=false→(z.pull m).ρ r=y.ρ r:=fun r hr'=>by
  simp only[qR,Bool.not_eq_false',List.contains_eq_mem,decide_eq_true_eq]at hr'
  obtain⟨⟨r',row⟩,h1,rfl⟩:=List.mem_map.1 hr'
  exact hat r' row h1
 have hS:SRel e ⟨iH D σ.fr,rows⟩ z a:={
  defers:=h.defers
  size:=h.size
  fr:=fun k u hm=>by
   obtain⟨u',hu,rfl⟩:=lM hm
   obtain⟨cv',h1,h2⟩:=h.fr k u' hu
   exact⟨cv',h1,aB.clip kept hDρ u' h2⟩
  st:=fun q row hm=>by
   rcases List.mem_append.1 hm with hm|hm
   ·obtain⟨r,u,h1,rfl,rfl⟩:=fD hm
    show(Row.rn m _).rel z (ρ' (m r))
    rw[hat r u h1,yK]
    exact Row.clip_rel kyz kρ (fun _=>rfl) (hr.st r u h1)
   ·obtain⟨hq,u,hu,rfl⟩:=old q row hm
    show(Row.clip D u).rel z (ρ' q)
    rw[oldρ q hq]
    exact Row.clip_rel kept hDρ (fun hok=>heap _ (oldNot q u hu hq hok) (hlt q u hu hok)) (h.st q u hu)
  keys:=by
   rw[List.map_append,List.nodup_append,wE,qA]
   refine⟨hK,r7 h.keys _,fun b hb c hc=>?_⟩
   obtain⟨⟨q,u⟩,h1,rfl⟩:=List.mem_map.1 hc
   intro he
   subst he
   exact(oG h1).2 (List.mem_append_left _ hb)
  inj:=fun q row q' row' hm hm' hqq hok hok'=>by
   have cross:∀r u q1 u1,(r,u)∈st'→(q1,u1)∈σ.st→q1∉A→(y.ρ r).ok=true→(x.ρ q1).ok=true→(y.ρ r).blk≠(x.ρ q1).blk:=fun r u q1 u1 h1 h2 h3 h4 h5 he=>by
    rcases hr.own r u h1 h4 with h6|h6
    ·have h7:=hlt q1 u1 h2 h5
     have:x.w.heap.size≤(y.ρ r).blk:=h6
     omega
    ·exact oldNot q1 u1 h2 h3 h5 (he▸h6)
   rcases List.mem_append.1 hm with hm|hm<;>rcases List.mem_append.1 hm' with hm'|hm'
   ·obtain⟨r,u,h1,rfl,_⟩:=fD hm
    obtain⟨r',u',h2,rfl,_⟩:=fD hm'
    show(ρ' (m r)).blk≠(ρ' (m r')).blk
    have hok1:(ρ' (m r)).ok=true:=hok
    have hok2:(ρ' (m r')).ok=true:=hok'
    rw[hat r u h1]at hok1 ⊢
    rw[hat r' u' h2]at hok2 ⊢
    exact hr.inj r u r' u' h1 h2 (fun he=>hqq (by rw[he])) hok1 hok2
   ·obtain⟨r,u,h1,rfl,_⟩:=fD hm
    obtain⟨hq,u',hu,_⟩:=old q' row' hm'
    have hok1:(ρ' (m r)).ok=true:=hok
    have hok2:(ρ' q').ok=true:=hok'
    show(ρ' (m r)).blk≠(ρ' q').blk
    rw[hat r u h1]at hok1 ⊢
    rw[oldρ q' hq]at hok2 ⊢
    exact cross r u q' u' h1 hu hq hok1 hok2
   ·obtain⟨r,u,h1,rfl,_⟩:=fD hm'
    obtain⟨hq,u',hu,_⟩:=old q row hm
    have hok1:(ρ' (m r)).ok=true:=hok'
    have hok2:(ρ' q).ok=true:=hok
    show(ρ' q).blk≠(ρ' (m r)).blk
    rw[hat r u h1]at hok1 ⊢
    rw[oldρ q hq]at hok2 ⊢
    exact(cross r u q u' h1 hu hq hok1 hok2).symm
   ·obtain⟨hq,u,hu,_⟩:=old q row hm
    obtain⟨hq',u',hu',_⟩:=old q' row' hm'
    have hok1:(ρ' q).ok=true:=hok
    have hok2:(ρ' q').ok=true:=hok'
    show(ρ' q).blk≠(ρ' q').blk
    rw[oldρ q hq]at hok1 ⊢
    rw[oldρ q' hq']at hok2 ⊢
    exact h.inj q u q' u' hu hu' hqq hok1 hok2
  F:=fun b=>Iff.rfl
  own:=fun q row hm hok=>by
   have hok1:(ρ' q).ok=true:=hok
   show e.w0.heap.size≤(ρ' q).blk∨e.L (ρ' q).blk
   rcases List.mem_append.1 hm with hm|hm
   ·obtain⟨r,u,h1,rfl,_⟩:=fD hm
    rw[hat r u h1]at hok1 ⊢
    rcases hr.own r u h1 hok1 with h2|h2
    ·have:x.w.heap.size≤(y.ρ r).blk:=h2
     exact .inl (Nat.le_trans h.below.size this)
    ·obtain⟨q',row',h3,h4,h5,_⟩:=lentOwn _ h2
     rw[←h5];exact h.own q' row' h3 h4
   ·obtain⟨hq,u,hu,_⟩:=old q row hm
    rw[oldρ q hq]at hok1 ⊢
    exact h.own q u hu hok1
  f0:=h.f0
  tabs:=h.tabs
  below:=⟨hr.below.os.trans h.below.os,hr.below.tape.trans h.below.tape,hr.below.output.trans h.below.output,Nat.le_trans h.below.size hr.below.size,fun k hk hl'=>
   (heap k (fun ho=>by
    obtain⟨q,row,h1,h2,h3,_⟩:=lentOwn k ho
    rcases h.own q row h1 h2 with h4|h4
    ·rw[h3]at h4;omega
    ·rw[h3]at h4;exact hl' h4) (Nat.lt_of_lt_of_le hk h.below.size)).trans (h.below.block k hk hl'),trivial⟩
  fix:=fun q hq=>by
   show ρ' q=e.ρ0 q
   rw[hDρ q ?_]
   ·exact h.fix q hq
   ·cases hDq:D q with
    | false=>rfl
    | true=>
     have:pL m st' q=true:=hDq
     simp only[pL,List.any_eq_true,Bool.and_eq_true,decide_eq_true_eq,beq_iff_eq]at this
     obtain⟨⟨r,row⟩,h1,h2,rfl⟩:=this
     have h3:=hfx r row h1 h2
     have h4:200000≤m r:=hq
     omega
  small:=h.small }
 refine⟨z,hS.put hd ?_,rfl⟩
 rw[kJ]
 exact aB.clip kyz kρ v hr.val
theorem Lv [EP e P] (h:SRel e σ x a) (d:Nat) (hd:d<e.n) (hdst:o.dst=some d) {yf:Operand} {ys:Array Operand} {ts:Array TypeId} (ho:o.op=.call { callee:=.value yf,args:=ys,argTypes:=ts })
  {vf:AV} (hf:aB x vf (a.eval yf)) {g:FuncId} {caps:List AV} (hg:cA vf=some (g,caps)) {zs:List Opd} (hz:fA ys.toList=some zs) (hc:e8 σ zs=true)
  {m:Nat→Nat} {args:List AV} {st st':List (Nat×Row)} {v:AV} (hs:AV.rns m args=eD σ zs++caps) (hl:∀r row,(r,row)∈st→(m r,row.rn m)∈σ.st) (hks:(st.map (·.1)).Nodup) (hms:((st.map (·.1)).map m).Nodup)
  (hK:((st'.map (·.1)).map m).Nodup) (hfx:∀r row,(r,row)∈st'→r<200000→m r<200000) (hF:j4 P g args st v st')
  {K:St→Prop} (hk:K (σ.afterS d m st v st')):∀Q,o.wp P a x.w (fun a' w'=>∃σ' y,SRel e σ' y a'∧y.w=w'∧K σ') Q:=by
 intro Q
 have hargs:=iK h hz hc
 have hcaps:∃cvs:List Value,a.eval yf=.func (.func g) #[] ⟨cvs⟩∧aD x caps cvs:=by
  unfold cA at hg
  split at hg
  ·injection hg with hg;injection hg with h1 h2;subst h1;subst h2
   simp only[aB]at hf
   exact hf
  ·injection hg with hg;injection hg with h1 h2;subst h1;subst h2
   simp only[aB,aG]at hf
   obtain⟨vs,e1,h1⟩:=hf
   exact⟨vs,e1,h1.vrels⟩
  ·cases hg
 obtain⟨cvs,he,hcv⟩:=hcaps
 have hall:=hargs.append hcv
 rw[←hs]at hall
 have hall':=(lF x m args).1 hall
 have hrun:(execOp a.eval o).run P x.w=.ok (.enter g ⟨ys.toList.map a.eval++cvs⟩) x.w:=by
  have e1:ys.map a.eval++(⟨cvs⟩:Array Value)=⟨ys.toList.map a.eval++cvs⟩:=Array.toList_inj.1 (by simp)
  have hE:(callFunc g ⟨ys.toList.map a.eval++cvs⟩).run P x.w=.ok (.enter g ⟨ys.toList.map a.eval++cvs⟩) x.w:=hF.1 _ _
  simp[execOp,ho,resolve,Deferred.ofValue,he,invoke,e1,hE]
 have hlt:∀b,x.F b→b<x.w.heap.size:=fun b hb=>Ek h hb
 have hlent:Lent (x.pull m) st:={
  st:=fun r row hm=>(yK x m _ row).1 (h.st _ _ (hl r row hm))
  keys:=hks
  inj:=fun r row r' row' h1 h2 hne hok hok'=>by
   have hne':m r≠m r':=fun he=>hne (by
    have i1:r∈st.map (·.1):=List.mem_map.2 ⟨_,h1,rfl⟩
    have i2:r'∈st.map (·.1):=List.mem_map.2 ⟨_,h2,rfl⟩
    exact oL hms i1 i2 he)
   exact h.inj _ _ _ _ (hl r row h1) (hl r' row' h2) hne' hok hok'
  F:=fun r row hm hok=>(h.F _).2 (.inr ⟨m r,_,hl r row hm,hok,rfl⟩) }
 unfold Oper.wp
 rw[hrun,Oper.upon_enter,hdst]
 refine(hF.2 (x.pull m) _ hlt h.now hlent hall').mono fun en w' ⟨cv,y,e1,e2,hr⟩=>?_
 subst e1
 obtain⟨z,g1,g2⟩:=h.lent hd hl hr hK hfx
 exact⟨_,z,g1,g2.trans e2,hk⟩
theorem Jt [EP e P] (h:SRel e σ x a) (d:Nat) (hd:d<e.n) (hdst:o.dst=some d) {yf:Operand} {ys:Array Operand} {ts:Array TypeId} (ho:o.op=.call { callee:=.value yf,args:=ys,argTypes:=ts })
  {vf:AV} (hf:aB x vf (a.eval yf)) {g:FuncId} {caps:List AV} (hg:lW vf=some (g,caps)) {zs:List Opd} (hz:fA ys.toList=some zs) (hc:e8 σ zs=true)
  {m:Nat→Nat} {args:List AV} {st st':List (Nat×Row)} {v:AV} (hs:AV.rns m args=caps++eD σ zs) (hl:∀r row,(r,row)∈st→(m r,row.rn m)∈σ.st) (hks:(st.map (·.1)).Nodup) (hms:((st.map (·.1)).map m).Nodup)
  (hK:((st'.map (·.1)).map m).Nodup) (hfx:∀r row,(r,row)∈st'→r<200000→m r<200000) (hF:j4 P g args st v st')
  {K:St→Prop} (hk:K (σ.afterS d m st v st')):∀Q,o.wp P a x.w (fun a' w'=>∃σ' y,SRel e σ' y a'∧y.w=w'∧K σ') Q:=by
 intro Q
 have hargs:=iK h hz hc
 have hcaps:∃cvs:List Value,a.eval yf=.func (.func g) ⟨cvs⟩ #[]∧aD x caps cvs:=by
  unfold lW at hg
  split at hg
  ·injection hg with hg;injection hg with h1 h2;subst h1;subst h2
   simp only[aB]at hf
   exact hf
  ·cases hg
 obtain⟨cvs,he,hcv⟩:=hcaps
 have hall:=hcv.append hargs
 rw[←hs]at hall
 have hall':=(lF x m args).1 hall
 have hrun:(execOp a.eval o).run P x.w=.ok (.enter g ⟨cvs++ys.toList.map a.eval⟩) x.w:=by
  have e1:(⟨cvs⟩:Array Value)++ys.map a.eval=⟨cvs++ys.toList.map a.eval⟩:=Array.toList_inj.1 (by simp)
  have hE:(callFunc g ⟨cvs++ys.toList.map a.eval⟩).run P x.w=.ok (.enter g ⟨cvs++ys.toList.map a.eval⟩) x.w:=hF.1 _ _
  simp[execOp,ho,resolve,Deferred.ofValue,he,invoke,e1,hE]
 have hlt:∀b,x.F b→b<x.w.heap.size:=fun b hb=>Ek h hb
 have hlent:Lent (x.pull m) st:={
  st:=fun r row hm=>(yK x m _ row).1 (h.st _ _ (hl r row hm))
  keys:=hks
  inj:=fun r row r' row' h1 h2 hne hok hok'=>by
   have hne':m r≠m r':=fun he=>hne (by
    have i1:r∈st.map (·.1):=List.mem_map.2 ⟨_,h1,rfl⟩
    have i2:r'∈st.map (·.1):=List.mem_map.2 ⟨_,h2,rfl⟩
    exact oL hms i1 i2 he)
   exact h.inj _ _ _ _ (hl r row h1) (hl r' row' h2) hne' hok hok'
  F:=fun r row hm hok=>(h.F _).2 (.inr ⟨m r,_,hl r row hm,hok,rfl⟩) }
 unfold Oper.wp
 rw[hrun,Oper.upon_enter,hdst]
 refine(hF.2 (x.pull m) _ hlt h.now hlent hall').mono fun en w' ⟨cv,y,e1,e2,hr⟩=>?_
 subst e1
 obtain⟨z,g1,g2⟩:=h.lent hd hl hr hK hfx
 exact⟨_,z,g1,g2.trans e2,hk⟩
end
end Go.Vc

namespace Go.Vc
open Go.RowKit
set_option linter.unusedSimpArgs false
set_option linter.unusedVariables false
section
variable {P:Program} {e:Env} {σ:St} {x:Cx} {a:Act} {o:Oper}
def J2 (P:Program) (g:FuncId) (args:List AV) (st:List (Nat×Row)) (v:AV):Prop:=
 ∀(x:Cx) (vs:List Value),(∀r row,(r,row)∈st→row.rel x (x.ρ r))→(∀b,d6 st x.ρ b→x.F b)→aD x args vs→∃cv,(callFunc g ⟨vs⟩).run P x.w=.ok (.value cv) x.w∧aB x v cv
theorem Lu (h:SRel e σ x a) (d:Nat) (hd:d<e.n) (hdst:o.dst=some d) {yf:Operand} {ys:Array Operand} {ts:Array TypeId} (ho:o.op=.call { callee:=.value yf,args:=ys,argTypes:=ts })
  {vf:AV} (hf:aB x vf (a.eval yf)) {g:FuncId} {caps:List AV} (hg:cA vf=some (g,caps)) {zs:List Opd} (hz:fA ys.toList=some zs) (hc:e8 σ zs=true) {v:AV} (hF:J2 P g (eD σ zs++caps) σ.st v)
  {K:St→Prop} (hk:K (σ.put d v)):∀Q,o.wp P a x.w (fun a' w'=>∃σ' y,SRel e σ' y a'∧y.w=w'∧K σ') Q:=by
 intro Q
 have hargs:=iK h hz hc
 have hcaps:∃cvs:List Value,a.eval yf=.func (.func g) #[] ⟨cvs⟩∧aD x caps cvs:=by
  unfold cA at hg
  split at hg
  ·injection hg with hg;injection hg with h1 h2;subst h1;subst h2
   simp only[aB]at hf
   exact hf
  ·injection hg with hg;injection hg with h1 h2;subst h1;subst h2
   simp only[aB,aG]at hf
   obtain⟨vs,e1,h1⟩:=hf
   exact⟨vs,e1,h1.vrels⟩
  ·cases hg
 obtain⟨cvs,he,hcv⟩:=hcaps
 have hall:=hargs.append hcv
 obtain⟨cv,hr,hv⟩:=hF x _ h.st (fun b hb=>(h.F b).2 (.inr hb)) hall
 have hrun:(execOp a.eval o).run P x.w=.ok (.value cv) x.w:=by
  have e1:ys.map a.eval++(⟨cvs⟩:Array Value)=⟨ys.toList.map a.eval++cvs⟩:=Array.toList_inj.1 (by simp)
  simp[execOp,ho,resolve,Deferred.ofValue,he,invoke,e1,hr]
 refine aT hrun ?_
 rw[hdst]
 exact⟨_,_,h.put hd hv,rfl,hk⟩
theorem iR {g:FuncId} {fn:Func} (e1 et tr:TypeId) (hf:P.funcs[g]?=some fn) (hname:(fn.name == "runtime.NumGoroutine")=false) (hb:fn.body.isNone=true) (hn:Extern.findNext fn=none)
  (he:Extern.find fn=some (Extern.SlicesOverlaps.overlaps #[e1,e1] #[tr])) (ht:P.underlying e1=some (.slice et)) (hi:(P.info? et).isSome=true) {ps:List PV} {st:List (Nat×Row)} {r off n s:Nat} {xs:List PV} (hst:(r,.slf s xs)∈st) (hw:cY s ps) (hs0:0<s):
  J2 P g [.pv (.lst ps),.row r off n] st (aY false):=by
 obtain⟨i,hi⟩:=Option.isSome_iff_exists.1 hi
 intro x vs hrel hF hv
 simp only[aD,aB,aG]at hv
 obtain⟨u,_,rfl,⟨a,m,c,rfl,hm,_,h3⟩,u',_,rfl,hrow,rfl⟩:=hv
 refine⟨.bool false,?_,by simp only[aY,aB,aG]⟩
 rw[run_callFunc_extern hf hname hb hn he]
 suffices h:(Extern.SlicesOverlaps.overlaps #[e1,e1] #[tr] #[.slice a m c,u']).run P x.w=.ok (.bool false) x.w by rw[h];rfl
 have hz:∀w,(Go.sizeOf et).run P w=.ok i.size w:=fun w=>by simp[Go.sizeOf,typeInfo,hi]
 obtain⟨b2,lb,cb,rfl⟩:∃b2 lb cb,u'=.slice b2 lb cb:=by
  rcases hrow with⟨_,_,a,rfl⟩|⟨c,_,rfl,_⟩<;>exact⟨_,_,_,rfl⟩
 change Sem.run P (α:=Value) (do
  let some t:=(#[e1,e1]:Array TypeId)[0]?|stuck "slices.overlaps: no parameter types"
  let .slice elem ←underlying t|stuck "slices.overlaps: slice type expected"
  let size ←sizeOf elem
  match a,b2 with
  | some a,some b=>
   if m=0∨lb=0∨size=0 then pure (Value.bool false)
   else if a.block != b.block&&(←frozen a)&&(←frozen b)then unsupported .addressObserved
   else do
    if a.block != b.block then do
     noView a;noView b
     if ←mayBeOne a b then return Value.bool ((←choose (.extern "sameAddr.stringBytes" 2))==1)
    pure (Value.bool (a.block==b.block&&a.off<b.off+lb*size&&b.off<a.off+m*size))
  | _,_=>pure (Value.bool false)) x.w=_
 cases a with
 | none=>cases b2<;>simp[run_underlying ht,hz]
 | some a=>
  cases b2 with
  | none=>simp[run_underlying ht,hz]
  | some b=>
   by_cases h0:m=0∨lb=0∨i.size=0
   ·simp[run_underlying ht,hz,h0]
   ·have hm0:0<m:=by omega
    obtain⟨bb,o',hab,hlt,hnF,hE⟩:=h3 hm0
    injection hab with hab;subst hab
    have hrr:=hrel _ _ hst
    simp only[Row.rel]at hrr
    rcases hrow with⟨h1,_,ad,h2⟩|⟨c',hok,h2,_⟩
    ·injection h2 with _ h2 _;omega
    ·injection h2 with h2 _ _
     injection h2 with h2;subst h2
     rcases hrr with⟨k1,_⟩|⟨k1,k2,k3,k4,⟨arr,tb,hh,harr,_⟩,_⟩
     ·rw[k1]at hok;cases hok
     have hne:bb≠(x.ρ r).blk:=fun hbe=>hnF (by rw[hbe];exact hF _ ⟨r,_,hst,hok,rfl⟩)
     have hnb:(bb != (x.ρ r).blk)=true:=by simpa using hne
     have hnb':(bb==(x.ρ r).blk)=false:=by simpa using hne
     have hsb:x.w.shape? (x.ρ r).blk=some (tb,arr.size):=by simp[World.shape?,hh]
     have hfb:∀o,x.w.frozen? ⟨(x.ρ r).blk,o,none⟩=false:=fun o=>by simp[World.frozen?,hh]
     obtain⟨tA,kA,hsa⟩:∃tA kA,x.w.shape? bb=some (tA,kA+1):=by
      obtain⟨p,hp⟩:∃p,p∈flat ps:=by
       have:=cD hw
       have:0<(flat ps).length:=by rw[this];exact Nat.mul_pos (by omega) hs0
       exact⟨(flat ps)[0],List.getElem_mem this⟩
      rw[aJ.flat_iff]at hE
      cases hfl:flat ps with
      | nil=>rw[hfl]at hp;cases hp
      | cons q qs=>
       rw[hfl]at hE
       simp only[aN]at hE
       obtain⟨⟨v,hc,_⟩,_⟩:=hE
       unfold World.cell? at hc
       simp only[Option.isSome_none,Bool.false_eq_true,if_false]at hc
       split at hc
       ·rename_i cs tA fz hh2
        have:=(Array.getElem?_eq_some_iff.1 hc).1
        exact⟨tA,cs.size-1,by simp only[World.shape?,hh2];rw[Nat.sub_add_cancel (by omega)]⟩
       ·cases hc
     cases hfa:x.w.frozen? ⟨bb,o',none⟩<;>cases hfe:x.w.frozen? ⟨bb,kA+1,none⟩<;>
      simp[run_underlying ht,hz,h0,hnb,hnb',frozen,noView,viewAt,mayBeOne,stringish,shape,Sem.run,hsa,hsb,hfa,hfb,hfe]
end
end Go.Vc

namespace Go.Vc
open Go.RowKit
def x8:List PV→Bool
 | []=>true
 | p::ps=>p.one&&x8 ps
theorem Do:∀{ps:List PV},x8 ps=true→cY 1 ps
 | [],_,p,hp=>by cases hp
 | q::ps,h,p,hp=>by
  simp only[x8,Bool.and_eq_true]at h
  rcases List.mem_cons.1 hp with rfl|hp
  ·have h1:=h.1
   cases p with
   | agg cs=>cases h1
   | tup cs=>cases h1
   | _=>exact⟨rfl,fun c hc=>by simp only[PV.cells,List.mem_singleton]at hc;subst hc;exact h1⟩
  ·exact Do h.2 p hp
theorem wJ {w:World} {F:Nat→Prop}:∀{ps:List PV} {b o:Nat},x8 ps=true→aN w F ps b o→aJ w F ps b o
 | [],_,_,_,_=>by simp only[aJ]
 | q::ps,b,o,h,hc=>by
  simp only[x8,Bool.and_eq_true]at h
  simp only[aN]at hc
  have ih:=wJ (w:=w) (F:=F) (ps:=ps) (b:=b) (o:=o+1) h.2 hc.2
  have h1:=h.1
  cases q with
  | agg cs=>cases h1
  | tup cs=>cases h1
  | _=>simp only[aJ];exact⟨hc.1,ih⟩
def uQ (off n:Nat):Row→AV
 | .sl _ xs=>.pv (.lst ((xs.drop off).take n))
 | .bxs cs=>match cH cs with
  | some ps=>if x8 ps=true then .pv (.lst ((ps.drop off).take n))else .un
  | none=>.un
 | _=>.un
def yH (off:Nat):Row→AV
 | .box cs=>match cH cs with
  | some ps=>if off=0 then .pv (.pt ps)else .cptr ps off
  | none=>.un
 | _=>.un
mutual
def AV.frz (r:Nat) (row:Row):AV→AV
 | .un=>.un
 | .pv p=>.pv p
 | .agg cs=>yA (AV.frzs r row cs)
 | .tup cs=>.tup (AV.frzs r row cs)
 | .e0=>.e0
 | .lit _=>.un
 | .row q off n=>if q=r then uQ off n row else .row q off n
 | .ptr q off=>if q=r then yH off row else .ptr q off
 | .rptr q i off=>if q=r then .un else .rptr q i off
 | .eptr xs i off=>.eptr xs i off
 | .cptr cs off=>.cptr cs off
 | .ful xs=>.ful xs
 | .fn f caps=>uS (AV.frzs r row caps) f
 | .bnd f caps=>.bnd f (AV.frzs r row caps)
 | .mp q=>if q=r then .un else .mp q
 | .it q=>if q=r then .un else .it q
 | .whn c v=>.whn c (AV.frz r row v)
def AV.frzs (r:Nat) (row:Row):List AV→List AV
 | []=>[]
 | v::vs=>AV.frz r row v::AV.frzs r row vs
end
def Row.frz:Row→Nat→Row→Row
 | .box cs,r,row=>.box (AV.frzs r row cs)
 | .bxs cs,r,row=>.bxs (AV.frzs r row cs)
 | .mpx ks vs,r,row=>.mpx ks (AV.frzs r row vs)
 | u,_,_=>u
def AM (r:Nat) (row:Row):List (Nat×AV)→List (Nat×AV)
 | []=>[]
 | (k,v)::l=>(k,v.frz r row)::AM r row l
def rR (r:Nat) (row:Row):List (Nat×Row)→List (Nat×Row)
 | []=>[]
 | (k,v)::l=>(k,v.frz r row)::rR r row l
def St.frz1 (σ:St) (r:Nat):St:=match aL σ.st r with
 | some row=>⟨AM r row σ.fr,rR r row (aQ σ.st r)⟩
 | none=>σ
def St.frzs (σ:St):List Nat→St
 | []=>σ
 | r::rs=>(σ.frz1 r).frzs rs
theorem Bj {r:Nat} {row:Row}:∀{l:List (Nat×AV)} {k:Nat} {v:AV},(k,v)∈AM r row l→∃u,(k,u)∈l∧v=u.frz r row
 | [],_,_,h=>by simp[AM]at h
 | (k',u)::l,k,v,h=>by
  simp only[AM]at h
  rcases List.mem_cons.1 h with h|h
  ·injection h with h1 h2;subst h1;subst h2;exact⟨u,by simp,rfl⟩
  ·obtain⟨u',h1,h2⟩:=Bj h;exact⟨u',List.mem_cons_of_mem _ h1,h2⟩
theorem AW {r:Nat} {row:Row}:∀{l:List (Nat×Row)} {k:Nat} {v:Row},(k,v)∈rR r row l→∃u,(k,u)∈l∧v=u.frz r row
 | [],_,_,h=>by simp[rR]at h
 | (k',u)::l,k,v,h=>by
  simp only[rR]at h
  rcases List.mem_cons.1 h with h|h
  ·injection h with h1 h2;subst h1;subst h2;exact⟨u,by simp,rfl⟩
  ·obtain⟨u',h1,h2⟩:=AW h;exact⟨u',List.mem_cons_of_mem _ h1,h2⟩
theorem zI {r:Nat} {row:Row}:∀l:List (Nat×Row),(rR r row l).map (·.1)=l.map (·.1)
 | []=>rfl
 | (k,v)::l=>by simp only[rR,List.map_cons,zI l]
theorem F3 {r:Nat} {row:Row}:∀{l:List AV} {i:Nat} {v:AV},(AV.frzs r row l)[i]?=some v→∃u,l[i]?=some u∧v=u.frz r row
 | [],i,v,h=>by simp[AV.frzs]at h
 | u::l,0,v,h=>by
  simp only[AV.frzs,List.getElem?_cons_zero,Option.some.injEq]at h
  exact⟨u,rfl,h.symm⟩
 | u::l,i+1,v,h=>by
  simp only[AV.frzs,List.getElem?_cons_succ]at h
  obtain⟨u',h1,h2⟩:=F3 h
  exact⟨u',by simpa using h1,h2⟩
theorem l6 {r:Nat} {row:Row}:∀l:List AV,(AV.frzs r row l).length=l.length
 | []=>rfl
 | _::l=>by simp only[AV.frzs,List.length_cons,l6 l]
section
variable {e:Env} {σ:St} {x y:Cx} {a:Act}
structure Frz (e:Env) (σ:St) (x y:Cx) (a:Act) (r:Nat) (row:Row):Prop where
 s:SRel e σ x a
 m:(r,row)∈σ.st
 w:y.w=x.w
 ρ:y.ρ=x.ρ
 F:∀b,y.F b→x.F b
 out:(x.ρ r).ok=true→¬y.F (x.ρ r).blk
theorem Frz.kept {r:Nat} {row:Row} (h:Frz e σ x y a r row):Kept x y:=⟨by rw[h.w];exact Nat.le_refl _,fun b _ _=>by rw[h.w],fun b _ hb=>h.F b hb⟩
theorem E1 {r off n:Nat} {row:Row} {cv:Value} (h:Frz e σ x y a r row) (hv:aB x (.row r off n) cv):aB y (uQ off n row) cv:=by
 have h1:=h.s.st r _ h.m
 cases row with
 | sl s xs=>
  simp only[Row.rel]at h1
  simp only[aB]at hv
  simp only[uQ,aB,aG,h.w]
  rcases hv with⟨rfl,_,ad,rfl⟩|⟨c,hok,rfl,h2,h3,h4⟩
  ·exact⟨ad,0,0,rfl,by simp,Nat.le_refl _,fun hn=>absurd hn (by omega)⟩
  ·rcases h1 with⟨h1,_⟩|⟨hs,_,⟨hln,_⟩,hwf,⟨arr,et,hh,_⟩,hE⟩
   ·rw[h1]at hok;cases hok
   ·rw[hln]at h4
    refine⟨_,n,c,rfl,by rw[List.length_take,List.length_drop];omega,h2,fun _=>⟨_,_,rfl,(Array.getElem?_eq_some_iff.1 hh).1,h.out hok,?_⟩⟩
    rw[hs]
    have:=((hE.drop off (fun p hp=>(hwf p hp).1) (by omega)).take n)
    have:=aJ.kept h.kept _ (fun {o v} hc=>by rw[h.w];exact hc) this
    rw[h.w]at this
    exact this
 | bxs cs=>
  simp only[uQ]
  cases hps:cH cs with
  | none=>simp only[aB]
  | some ps=>
   simp only
   split
   ·rename_i h1p
    simp only[Row.rel]at h1
    simp only[aB]at hv
    simp only[aB,aG,h.w]
    have hwf:=Do h1p
    obtain⟨hok0,⟨hs,hln,hcap⟩,⟨arr,et,hh,_⟩,hc⟩:=h1
    obtain⟨vs,h2v,h3v⟩:=hc.list
    have hrels:=dN hps h2v
    have hlen:ps.length=cs.length:=by
     have e1:=hrels.length
     have e2:=h2v.length
     omega
    rcases hv with⟨rfl,_,ad,rfl⟩|⟨c,hok,rfl,h2,h3,h4⟩
    ·exact⟨ad,0,0,rfl,by simp,Nat.le_refl _,fun hn=>absurd hn (by omega)⟩
    ·have hE:=wJ h1p (aN.of hrels h3v)
     refine⟨_,n,c,rfl,by rw[List.length_take,List.length_drop];omega,h2,fun _=>⟨_,_,rfl,(Array.getElem?_eq_some_iff.1 hh).1,h.out hok,?_⟩⟩
     rw[hs]
     have:=((hE.drop off (fun p hp=>(hwf p hp).1) (by omega)).take n)
     have:=aJ.kept h.kept _ (fun {o v} hc=>by rw[h.w];exact hc) this
     rw[h.w]at this
     exact this
   ·simp only[aB]
 | _=>simp only[uQ,aB]
theorem E2 {r off:Nat} {row:Row} {cv:Value} (h:Frz e σ x y a r row) (hv:aB x (.ptr r off) cv):aB y (yH off row) cv:=by
 have h1:=h.s.st r _ h.m
 cases row with
 | box cs=>
  simp only[Row.rel]at h1
  obtain⟨hok,⟨arr,et,hh,_⟩,hc⟩:=h1
  simp only[aB]at hv
  subst hv
  simp only[yH]
  split
  ·rename_i ps hps
   obtain⟨vs,h2,h3⟩:=hc.list
   have hp:=aN.of (dN hps h2) h3
   have hp':=aN.kept h.kept _ (fun {o v} hc=>by rw[h.w];exact hc) hp
   have hlt:=(Array.getElem?_eq_some_iff.1 hh).1
   split
   ·rename_i h0
    subst h0
    simp only[aB,aG,Nat.add_zero]
    exact⟨_,_,rfl,by rw[h.w];exact hlt,h.out hok,hp'⟩
   ·simp only[aB]
    exact⟨_,_,rfl,by rw[h.w];exact hlt,h.out hok,hp'⟩
  ·simp only[aB]
 | _=>simp only[yH,aB]
mutual
theorem aB.frz {r:Nat} {row:Row} (h:Frz e σ x y a r row):∀(v:AV) {cv:Value},aB x v cv→aB y (v.frz r row) cv
 | .un,_,_=>by simp only[AV.frz,aB]
 | .pv p,_,hv=>by simp only[AV.frz,aB]at hv ⊢;exact aG.kept h.kept p hv
 | .agg cs,_,hv=>by
  simp only[aB]at hv
  simp only[AV.frz]
  obtain⟨vs,rfl,hv⟩:=hv
  exact kP (aD.frz h cs hv)
 | .tup cs,_,hv=>by
  simp only[AV.frz,aB]at hv ⊢
  obtain⟨vs,e1,hv⟩:=hv
  exact⟨vs,e1,aD.frz h cs hv⟩
 | .e0,_,hv=>by simpa only[AV.frz,aB]using hv
 | .lit _,_,_=>by simp only[AV.frz,aB]
 | .row q off n,_,hv=>by
  simp only[AV.frz]
  split
  ·rename_i hq;subst hq;exact E1 h hv
  ·simp only[aB,h.ρ]at hv ⊢;exact hv
 | .ptr q off,_,hv=>by
  simp only[AV.frz]
  split
  ·rename_i hq;subst hq;exact E2 h hv
  ·simp only[aB,h.ρ]at hv ⊢;exact hv
 | .rptr q i off,_,hv=>by
  simp only[AV.frz]
  split
  ·simp only[aB]
  ·simp only[aB,h.ρ]at hv ⊢;exact hv
 | .eptr xs i off,cv,hv=>by
  have:=aB.kept h.kept h.ρ (a:=.eptr xs i off) hv
  simpa only[AV.frz]using this
 | .ful xs,cv,hv=>by
  have:=aB.kept h.kept h.ρ (a:=.ful xs) hv
  simpa only[AV.frz]using this
 | .cptr cs off,cv,hv=>by
  have:=aB.kept h.kept h.ρ (a:=.cptr cs off) hv
  simpa only[AV.frz]using this
 | .bnd f caps,_,hv=>by
  simp only[aB]at hv
  simp only[AV.frz,aB]
  obtain⟨vs,e,hv⟩:=hv
  exact⟨vs,e,aD.frz h caps hv⟩
 | .fn f caps,_,hv=>by
  simp only[aB]at hv
  simp only[AV.frz]
  obtain⟨vs,rfl,hv⟩:=hv
  have:=aD.frz h caps hv
  unfold uS
  split
  ·rename_i ps hps
   simp only[aB,aG]
   exact⟨vs,rfl,dN hps this⟩
  ·simp only[aB]
   exact⟨vs,rfl,this⟩
 | .mp q,_,hv=>by
  simp only[AV.frz]
  split
  ·simp only[aB]
  ·simp only[aB,h.ρ]at hv ⊢;exact hv
 | .it q,_,hv=>by
  simp only[AV.frz]
  split
  ·simp only[aB]
  ·simp only[aB,h.ρ]at hv ⊢;exact hv
 | .whn c v,_,hv=>by
  simp only[AV.frz,aB]at hv ⊢
  exact⟨fun hc=>aB.frz h v (hv.1 hc),hv.2⟩
theorem aD.frz {r:Nat} {row:Row} (h:Frz e σ x y a r row):∀(vs:List AV) {cvs:List Value},aD x vs cvs→aD y (AV.frzs r row vs) cvs
 | [],_,hv=>by simpa only[AV.frzs,aD]using hv
 | v::vs,_,hv=>by
  simp only[AV.frzs,aD]at hv ⊢
  obtain⟨c,l,e1,h1,h2⟩:=hv
  exact⟨c,l,e1,aB.frz h v h1,aD.frz h vs h2⟩
end
theorem aO.frz {r:Nat} {row:Row} (h:Frz e σ x y a r row):∀(vs:List AV) {b o':Nat},aO x vs b o'→aO y (AV.frzs r row vs) b o'
 | [],_,_,_=>by simp only[AV.frzs,aO]
 | v::vs,b,o',hv=>by
  simp only[AV.frzs,aO]at hv ⊢
  obtain⟨⟨u,h1,h2⟩,h3⟩:=hv
  exact⟨⟨u,by rw[h.w];exact h1,aB.frz h v h2⟩,aO.frz h vs h3⟩
theorem SRel.frz1 (h:SRel e σ x a) (r:Nat):∃y,y.w=x.w∧SRel e (σ.frz1 r) y a:=by
 unfold St.frz1
 split
 ·rename_i row hr
  have hm:=aH hr
  let y:Cx:=⟨x.w,fun b=>e.F0 b∨d6 (rR r row (aQ σ.st r)) x.ρ b,x.ρ⟩
  have old:∀q u,(q,u)∈rR r row (aQ σ.st r)→q≠r∧∃u',(q,u')∈σ.st∧u=u'.frz r row:=fun q u hq=>by
   obtain⟨u',h1,h2⟩:=AW hq
   obtain⟨h3,h4⟩:=bE h1
   exact⟨h4,u',h3,h2⟩
  have hz:Frz e σ x y a r row:={
   s:=h
   m:=hm
   w:=rfl
   ρ:=rfl
   F:=fun b hb=>(h.F b).2 (hb.imp id fun⟨q,u,h1,h2⟩=>by
    obtain⟨_,u',h3,_⟩:=old q u h1
    exact⟨q,u',h3,h2⟩)
   out:=fun hok hb=>by
    rcases hb with hb|⟨q,u,h1,h2,h3⟩
    ·have h8:=h.f0 _ hb
     rcases h.own r row hm hok with h9|h9
     ·omega
     ·exact h8.2 h9
    ·obtain⟨hq,u',h4,_⟩:=old q u h1
     exact h.inj q u' r row h4 hm hq h2 hok h3 }
  refine⟨y,rfl,{
   defers:=h.defers
   size:=h.size
   fr:=fun k v hk=>by
    obtain⟨u,h1,rfl⟩:=Bj hk
    obtain⟨cv,h2,h3⟩:=h.fr k u h1
    exact⟨cv,h2,aB.frz hz u h3⟩
   st:=fun q u hq=>by
    obtain⟨hne,u',h1,rfl⟩:=old q u hq
    have h2:=h.st q u' h1
    cases u' with
    | box cs=>
     simp only[Row.rel,Row.frz,l6]at h2 ⊢
     exact⟨h2.1,h2.2.1,aO.frz hz cs h2.2.2⟩
    | bxs cs=>
     simp only[Row.rel,Row.frz,l6]at h2 ⊢
     exact⟨h2.1,h2.2.1,h2.2.2.1,aO.frz hz cs h2.2.2.2⟩
    | slf s xs=>exact Row.clip_rel hz.kept (D:=only r) (fun _ _=>rfl) (fun _=>rfl) h2
    | sl s xs=>exact Row.clip_rel hz.kept (D:=only r) (fun _ _=>rfl) (fun _=>rfl) h2
    | mp es=>exact Row.clip_rel hz.kept (D:=only r) (fun _ _=>rfl) (fun _=>rfl) h2
    | sit s pos=>exact Row.clip_rel hz.kept (D:=only r) (fun _ _=>rfl) (fun _=>rfl) h2
    | mit m n rem cur=>
     have:=Row.clip_rel hz.kept (D:=fun _=>false) (fun _ _=>rfl) (fun _=>rfl) h2
     simp only[Row.clip,Bool.false_eq_true,if_false]at this
     exact this
    | mpd es clock=>exact Row.clip_rel hz.kept (D:=only r) (fun _ _=>rfl) (fun _=>rfl) h2
    | mpx ks vs=>
     simp only[Row.rel,Row.frz,l6]at h2 ⊢
     obtain⟨g0,ents,clock,g1,g2,g3,g4,g5⟩:=h2
     refine⟨g0,ents,clock,g1,g2,g3,fun i q v e hq hv he=>?_,g5⟩
     obtain⟨u,hu,rfl⟩:=F3 hv
     exact⟨aG.kept hz.kept _ (g4 i q u e hq hu he).1,aB.frz hz u (g4 i q u e hq hu he).2⟩
    | mid m n bs rem cur=>
     have:=Row.clip_rel hz.kept (D:=fun _=>false) (fun _ _=>rfl) (fun _=>rfl) h2
     simp only[Row.clip,Bool.false_eq_true,if_false]at this
     exact this
    | gone=>exact Row.clip_rel hz.kept (D:=only r) (fun _ _=>rfl) (fun _=>rfl) h2
   keys:=by rw[zI];exact fC h.keys
   inj:=fun q u q' u' hq hq'=>by
    obtain⟨_,u1,h1,_⟩:=old q u hq
    obtain⟨_,u2,h2,_⟩:=old q' u' hq'
    exact h.inj q u1 q' u2 h1 h2
   F:=fun b=>Iff.rfl
   own:=fun q u hq=>by
    obtain⟨_,u1,h1,_⟩:=old q u hq
    exact h.own q u1 h1
   f0:=h.f0
   tabs:=h.tabs
   below:=h.below
   fix:=h.fix
   small:=h.small }⟩
 ·exact⟨x,rfl,h⟩
theorem SRel.frzs {e:Env} {a:Act}:∀(rs:List Nat) {σ:St} {x:Cx},SRel e σ x a→∃y,y.w=x.w∧SRel e (σ.frzs rs) y a
 | [],_,x,h=>⟨x,rfl,h⟩
 | r::rs,σ,x,h=>by
  obtain⟨y,h1,h2⟩:=h.frz1 r
  obtain⟨z,h3,h4⟩:=SRel.frzs rs h2
  exact⟨z,h3.trans h1,h4⟩
end
section
variable {P:Program} {e:Env} {σ:St} {x:Cx} {a:Act} {o:Oper}
theorem Lt [EP e P] (h:SRel e σ x a) (d:Nat) (hd:d<e.n) (hdst:o.dst=some d) {yf:Operand} {ys:Array Operand} {ts:Array TypeId} (ho:o.op=.call { callee:=.value yf,args:=ys,argTypes:=ts })
  {vf:AV} (hf:aB x vf (a.eval yf)) {g:FuncId} {caps:List AV} (hg:cA vf=some (g,caps)) {zs:List Opd} (hz:fA ys.toList=some zs) (hc:e8 σ zs=true)
  {ps:List PV} (hs:dK (cV σ.st 4) (eD σ zs++caps)=some ps) {v:AV} {rs:List (Nat×List PV)} (hF:Fn P g ps v rs) (hfl:n6 (eD σ zs++caps)=true∨(v.flat=true∧d9 rs)) (hok:j7 v rs)
  {K:St→Prop} (r:Nat) (hK:K ((σ.after d v rs).frz1 r)):iB P e o a x.w K:=by
 intro Q
 have hargs:=iK h hz hc
 have hcaps:∃cvs:List Value,a.eval yf=.func (.func g) #[] ⟨cvs⟩∧aD x caps cvs:=by
  unfold cA at hg
  split at hg
  ·injection hg with hg;injection hg with h1 h2;subst h1;subst h2
   simp only[aB]at hf
   exact hf
  ·injection hg with hg;injection hg with h1 h2;subst h1;subst h2
   simp only[aB,aG]at hf
   obtain⟨vs,e1,h1⟩:=hf
   exact⟨vs,e1,h1.vrels⟩
  ·cases hg
 obtain⟨cvs,he,hcv⟩:=hcaps
 have hall:=hargs.append hcv
 have hrun:(execOp a.eval o).run P x.w=.ok (.enter g ⟨ys.toList.map a.eval++cvs⟩) x.w:=by
  have e1:ys.map a.eval++(⟨cvs⟩:Array Value)=⟨ys.toList.map a.eval++cvs⟩:=Array.toList_inj.1 (by simp)
  have hE:(callFunc g ⟨ys.toList.map a.eval++cvs⟩).run P x.w=.ok (.enter g ⟨ys.toList.map a.eval++cvs⟩) x.w:=hF.1 _ _
  simp[execOp,ho,resolve,Deferred.ofValue,he,invoke,e1,hE]
 have hlt:∀b,x.F b→b<x.w.heap.size:=fun b hb=>Ek h hb
 unfold Oper.wp
 rw[hrun,Oper.upon_enter,hdst]
 rcases hfl with hp|⟨h1,h2⟩
 ·refine(hF.2 x.w x.F _ hlt h.now (uY hp hs hall)).mono fun en w' ⟨cv,y,e1,e2,hr⟩=>?_
  subst e1
  obtain⟨z,g1,g2⟩:=rE h hd hr hok
  obtain⟨z',q1,q2⟩:=g1.frz1 r
  exact⟨_,z',q2,(q1.trans g2).trans e2,hK,by rw[←e2];exact cP hr.below⟩
 ·refine(hF.2 x.w (fun _=>False) _ (fun b hb=>hb.elim) (h.now.sub fun b hb=>hb.elim) (qT (fun v p cv g1 g2=>yP h 4 v p cv g1 g2) hs hall)).mono fun en w' ⟨cv,y,e1,e2,hr⟩=>?_
  subst e1
  obtain⟨z,g1,g2⟩:=rE h hd (hr.flat (G:=x.F) h1 h2) hok
  obtain⟨z',q1,q2⟩:=g1.frz1 r
  exact⟨_,z',q2,(q1.trans g2).trans e2,hK,by rw[←e2];exact cP hr.below⟩
end
end Go.Vc

namespace Go.Vc
open Go.RowKit
set_option linter.constructorNameAsVariable false
def JX:Value→AV
 | .slice none 0 0=>.e0
 | v=>.pv (.sc v)
def HE:Value→PV
 | .slice none 0 0=>.lst []
 | v=>.sc v
def o9:Value→PV
 | .agg cs=>.agg (cs.toList.map HE)
 | v=>HE v
def s7:List PV→Bool
 | []=>true
 | p::ps=>p.one&&s7 ps
def qO (bP:List (Nat×Nat)):List (Nat×Operand)→Option (List (Nat×Nat×Opd))
 | []=>some []
 | (i,y)::ps=>match bP[i]?,Opd.of y,qO bP ps with
  | some (off,n),some z,some r=>some ((off,n,z)::r)
  | _,_,_=>none
def CW:Option Operand→Option (Option Opd)
 | none=>some none
 | some y=>match Opd.of y with
  | some z=>some (some z)
  | none=>none
def xN (owns:List Nat):Option Nat→Bool
 | some d=>owns.contains (d+1000000)
 | none=>false
def Cl (owns:List Nat):Option Nat→Bool
 | some d=>owns.contains (d+2000000)
 | none=>false
def hO (owns:List Nat):Option Nat→Bool
 | some d=>owns.contains d
 | none=>false
def Et:Value→Bool
 | .slice none 0 0=>true
 | _=>false
theorem G8 {v:Value} (h:Et v=true):v=.slice none 0 0:=by
 unfold Et at h
 split at h
 ·rfl
 ·cases h
def Nd (P:Program) (t:TypeId):Option Kk:=match P.underlying t with
 | some (.int _)=>some .int
 | some .string=>some .str
 | some (.struct fs)=>match cT P 0 fs.toList with
  | some ks=>if P.stoodInHeld t=false then some (.st ks)else none
  | none=>none
 | some (.array n e)=>match P.underlying e,P.info? e with
  | some (.int _),some i=>if i.size=1 then some (.st (List.replicate n 0))else none
  | _,_=>none
 | _=>none
def MR:Value→AV
 | .agg cs=>yA (cs.toList.map JX)
 | v=>JX v
def mapOf? (P:Program) (t:TypeId):Option (Kk×TypeId):=match P.underlying t with
 | some (.map kt et)=>match Nd P kt with
  | some str=>some (str,et)
  | none=>none
 | _=>none
def IOp.of (P:Program) (owns:List Nat) (o:Oper):Option IOp:=
 match o.op with
 | .move x=>match Opd.of x with
  | some z=>some (.q (.mv z))
  | none=>none
 | .assign x=>match Opd.of x with
  | some z=>some (.q (.mv z))
  | none=>none
 | .binOp op t x y _=>match Opd.of x,Opd.of y with
  | some a,some b=>match P.underlying t with
   | some .bool=>match op with
    | .eql=>some (.q (.beq false a b))
    | .neq=>some (.q (.beq true a b))
    | _=>none
   | some (.int _)=>match op with
    | .shl=>some (.q (if hO owns o.dst then .shw a b else .shf true a b))
    | .shr=>some (.q (.shf false a b))
    | _=>some (.q (.bin op a b))
   | some .string=>some (.q (.bin op a b))
   | some (.slice _)=>match op,b with
    | .eql,.nil=>some (.isnil a false)
    | .neq,.nil=>some (.isnil a true)
    | _,_=>none
   | some (.struct fields)=>match cT P 0 fields.toList with
    | some ks=>if P.stoodInHeld t=false∧P.eqGuardType P.depth t=false then(match op with
      | .eql=>some (.q (.seq false ks a b))
      | .neq=>some (.q (.seq true ks a b))
      | _=>none)else none
    | none=>none
   | some (.array n e)=>match P.underlying e,P.info? e with
    | some (.int _),some i=>if i.size=1∧P.eqGuardType P.depth t=false then(match op with
      | .eql=>some (.q (.seq false (List.replicate n 0) a b))
      | .neq=>some (.q (.seq true (List.replicate n 0) a b))
      | _=>none)else none
    | _,_=>none
   | _=>none
  | _,_=>none
 | .unOp .not _ x=>match Opd.of x with
  | some z=>some (.q (.not z))
  | none=>none
 | .unOp .neg t x=>match Opd.of x,P.underlying t with
  | some z,some (.int k)=>some (.q (.bin .sub (.c (.int k 0)) z))
  | _,_=>none
 | .pick c x y=>match Opd.of c,Opd.of x,Opd.of y with
  | some c,some a,some b=>some (.q (.pick c a b))
  | _,_,_=>none
 | .extract x i=>match Opd.of x with
  | some z=>some (.q (.ext z i))
  | none=>none
 | .fieldAddr s x f=>match Opd.of x,P.underlying s with
  | some z,some (.struct fields)=>match fields[f]? with
   | some fl=>match P.info? fl.type with
    | some i=>if i.size=0 then none else some (.q (.fa z fl.offset))
    | none=>none
   | none=>none
  | _,_=>none
 | .indexAddr t x i=>match Opd.of x,Opd.of i with
  | some a,some b=>match P.underlying t with
   | some (.slice et)=>match P.info? et with
    | some i=>some (.q (.ia a b i.size))
    | none=>none
   | some (.array len et)=>match P.info? et with
    | some i=>some (.q (.iaa a b len i.size))
    | none=>none
   | _=>none
  | _,_=>none
 | .load t x=>match Opd.of x,P.underlying t,P.info? t with
  | some z,some _,some i=>some (.q (.ld z i.size (bG P t)))
  | _,_,_=>none
 | .field s x f=>match Opd.of x,P.underlying s with
  | some z,some (.struct fields)=>match fields[f]? with
   | some fl=>match P.underlying fl.type,P.info? fl.type with
    | some _,some i=>some (.q (.fld z fl.offset i.size (bG P fl.type)))
    | _,_=>none
   | none=>none
  | _,_=>none
 | .slice t x lo hi none=>match Opd.of x,CW lo,CW hi with
  | some z,some l,some h=>match P.underlying t with
   | some .string=>some (.q (.slc z l h 0 true))
   | some (.slice et)=>match P.info? et with
    | some i=>some (.q (if hO owns o.dst then .slcx z l h i.size else .slc z l h i.size false))
    | none=>none
   | _=>none
  | _,_,_=>none
 | .slice t x none (some hi) (some mx)=>match Opd.of x,Opd.of hi,Opd.of mx,P.underlying t with
  | some z,some h,some m,some (.slice et)=>match P.info? et with
   | some _=>some (.q (.ful z h m))
   | none=>none
  | _,_,_,_=>none
 | .slice t x (some lo) (some hi) (some mx)=>match Opd.of x,Opd.of lo,Opd.of hi,Opd.of mx,P.underlying t with
  | some z,some l,some h,some m,some (.slice et)=>match P.info? et with
   | some _=>some (.q (.chk z l h m))
   | none=>none
  | _,_,_,_,_=>none
 | .convert s t x=>match Opd.of x,P.underlying s,P.underlying t with
  | some z,some _,some (.int k)=>some (.q (if hO owns o.dst then .cvw k z else .conv k z))
  | some z,some (.slice et),some .string=>match P.underlying et with
   | some (.int .u8)=>some (.q (.sob z))
   | _=>none
  | _,_,_=>none
 | .build t parts=>match P.underlying t,P.info? t with
  | some (.struct fields),some i=>match i.zero,m6 P fields.toList with
   | some zv,some bP=>match qO bP parts.toList with
    | some qs=>some (.q (.mk (zv.cells.toList.map JX) qs))
    | none=>none
   | _,_=>none
  | some (.array n e),some i=>match i.zero,P.info? e with
   | some zv,some ie=>match qO ((List.range n).map fun j=>(j*ie.size,ie.size)) parts.toList with
    | some qs=>some (.q (.mk (zv.cells.toList.map JX) qs))
    | none=>none
   | _,_=>none
  | _,_=>none
 | .makeFunc (.func f) first captured=>if first.size=0 then match fA captured.toList with
   | some zs=>some (.q (.clo f zs))
   | none=>none
  else if captured.size=0 then match fA first.toList with
   | some zs=>some (.q (.bnd f zs))
   | none=>none
  else none
 | .nilCheck x=>match Opd.of x with
  | some z=>some (.q (.nch z))
  | none=>none
 | .index t x i=>match Opd.of x,Opd.of i,P.underlying t with
  | some a,some b,some .string=>some (.q (.idx a b))
  | some a,some b,some (.array n e)=>match P.underlying e,P.info? e with
   | some _,some i=>if bG P e=false∧i.size=1 then some (.q (.idxa a b n))else none
   | _,_=>none
  | _,_,_=>none
 | .lookup t x i comma=>match Opd.of x,Opd.of i,mapOf? P t with
  | some a,some b,some (str,et)=>match P.info? et with
   | some i=>match i.zero with
    | some zv=>some (.q (.mget a b comma str (MR zv)))
    | none=>none
   | none=>none
  | _,_,_=>none
 | .makeMap _ none=>some .mkm
 | .makeMap t (some y)=>match Opd.of y,P.underlying t with
  | some z,some (.map _ _)=>some (.mkmr z)
  | _,_=>none
 | .mapUpdate t m k v=>match Opd.of m,Opd.of k,Opd.of v,mapOf? P t with
  | some a,some b,some c,some (str,_)=>some (.mset a b c str)
  | _,_,_,_=>none
 | .insert t m k v=>match Opd.of m,Opd.of k,Opd.of v,mapOf? P t with
  | some a,some b,some c,some (str,_)=>some (.mset a b c str)
  | _,_,_,_=>none
 | .range t y=>match Opd.of y,P.underlying t with
  | some z,some (.map _ _)=>some (.rngm z)
  | some z,some .string=>some (.rngs z)
  | _,_=>none
 | .next y str=>match Opd.of y with
  | some z=>some (if str then .nxts z else .nxtm z)
  | none=>none
 | .entry y=>match Opd.of y with
  | some z=>some (.q (.ent z))
  | none=>none
 | .alloc t=>match P.info? t with
  | some i=>match i.zero with
   | some zv=>some (.alloc (zv.cells.toList.map JX))
   | none=>none
  | none=>none
 | .box _ x=>match Opd.of x with
  | some z=>some (.box z)
  | none=>none
 | .buildSlice t n parts=>match P.underlying t with
  | some (.slice et)=>match P.info? et with
   | some i=>match i.zero,fA (parts.toList.map (·.2))with
    | some _,some zs=>if parts.toList.map (·.1)=List.range n∧0<i.size then
      some (if hO owns o.dst then .own zs i.size else .lits zs i.size)else none
    | _,_=>none
   | none=>none
  | _=>none
 | .makeSlice t l c=>match Opd.of l,Opd.of c,P.underlying t with
  | some a,some b,some (.slice et)=>match P.info? et with
   | some i=>match i.zero with
    | some zv=>if zv.cells.size=i.size∧0<i.size∧s7 (o9 zv).cells=true then some (if(hO owns o.dst&&(Et zv&&i.size==1))=true then .mkx a b i.bytes .e0 else .mks a b i.size i.bytes (o9 zv))else none
    | none=>none
   | none=>none
  | _,_,_=>none
 | .store t p v=>match Opd.of p,Opd.of v,P.info? t with
  | some a,some b,some i=>some (.st a b i.size)
  | _,_,_=>none
 | .call c=>match c.callee with
  | .builtin .len=>match c.args.toList,c.argTypes.toList with
   | [x],[t]=>match Opd.of x,P.underlying t with
    | some z,some .string=>some (.q (.len z true))
    | some z,some (.slice _)=>some (.q (.len z false))
    | some z,some (.map _ _)=>some (.q (.mlen z))
    | _,_=>none
   | _,_=>none
  | .builtin .min=>match c.args.toList with
   | [x,y]=>match Opd.of x,Opd.of y with
    | some a,some b=>some (.q (.mm false a b))
    | _,_=>none
   | _=>none
  | .builtin .max=>match c.args.toList with
   | [x,y]=>match Opd.of x,Opd.of y with
    | some a,some b=>some (.q (.mm true a b))
    | _,_=>none
   | _=>none
  | .builtin .append=>match c.args.toList,c.argTypes.toList with
   | [x,y],[t,t2]=>match Opd.of x,Opd.of y,P.underlying t,P.underlying t2 with
    | some a,some b,some (.slice et),some (.slice _)=>match P.info? et with
     | some i=>match i.zero with
      | some zv=>if zv.cells.size=i.size∧s7 (o9 zv).cells=true then some (if(Cl owns o.dst&&i.size==1)=true then .appx a b i.bytes else if xN owns o.dst then .appn a b i.size i.bytes else if hO owns o.dst then .appi a b i.size i.bytes else .app a b i.size i.bytes)else none
      | none=>none
     | none=>none
    | some a,some b,some (.slice et),some (.int _)=>match P.info? et with
     | some i=>match i.zero with
      | some zv=>if zv.cells.size=i.size∧0<i.size∧s7 (o9 zv).cells=true then some (.appz a b i.size i.bytes (o9 zv))else none
      | none=>none
     | none=>none
    | _,_,_,_=>none
   | _,_=>none
  | .builtin .delete=>match c.args.toList,c.argTypes.toList with
   | [x,y],[t,_]=>match Opd.of x,Opd.of y,mapOf? P t with
    | some a,some b,some (kk,_)=>some (.mdel a b kk)
    | _,_,_=>none
   | _,_=>none
  | .builtin .clear=>match c.args.toList,c.argTypes.toList with
   | [x],[t]=>match Opd.of x,P.underlying t with
    | some a,some (.slice et)=>match P.info? et with
     | some i=>match i.zero with
      | some zv=>if zv.cells.size=i.size∧0<i.size∧s7 (o9 zv).cells=true then some (.clr a i.size (o9 zv))else none
      | none=>none
     | none=>none
    | _,_=>none
   | _,_=>none
  | .builtin .cap=>match c.args.toList,c.argTypes.toList with
   | [x],[t]=>match Opd.of x,P.underlying t with
    | some a,some (.slice _)=>some (.capr a)
    | _,_=>none
   | _,_=>none
  | .builtin .copy=>match c.args.toList,c.argTypes.toList with
   | [x,y],[t,_]=>match Opd.of x,Opd.of y,P.underlying t with
    | some a,some b,some (.slice et)=>match P.info? et with
     | some i=>some (.cpy a b i.size)
     | none=>none
    | _,_,_=>none
   | _,_=>none
  | .value f=>match Opd.of f,fA c.args.toList with
   | some z,some zs=>some (if hO owns o.dst then .calls z zs else .call z zs)
   | _,_=>none
  | _=>none
 | _=>none
def AV.isB:AV→Prop
 | .pv (.sc (.bool _))=>True
 | _=>False
def AV.gvB (b:Bool):AV→Bool
 | .pv (.sc (.bool c))=>c==b
 | _=>false
def AV.gok:AV→Prop
 | .pv (.sc (.bool _))=>True
 | .whn c v=>c=false∨v.isB
 | _=>False
def AV.gv (b:Bool):AV→Bool
 | .pv (.sc (.bool c))=>c==b
 | .whn c' v=>c'&&v.gvB b
 | _=>false
def ID (P:Program) (g:FuncId) (ps:List PV) (pure:Bool) (k:AV→List (Nat×List PV)→Prop):Prop:=
 ∃v rs,Fn P g ps v rs∧(pure=true∨(v.flat=true∧d9 rs))∧j7 v rs∧k v rs
def IE (P:Program) (b:Bool) (g:FuncId) (ps:List PV) (pure:Bool) (k:PV→Prop):Prop:=
 ∃p,(b=true→Fn P g ps (.pv p) []∧(pure=true∨p.flat=true))∧k p
def cB (σ:St) (f:Opd) (args:List Opd):Option (FuncId×List PV×Bool):=
 match cA (f.sv σ)with
 | some (g,caps)=>match dK (cV σ.st 4) (eD σ args++caps)with
  | some ps=>some (g,ps,n6 (eD σ args++caps))
  | none=>none
 | none=>none
def cQ:AV→Int
 | .pv (.sc (.int _ n))=>n
 | _=>0
def HZ:Option Row→List PV
 | some (.sl _ xs)=>xs
 | _=>[]
def rS (s:Nat):Option Row→Prop
 | some (.sl s' _)=>s'=s
 | _=>False
def Kb (σ:St) (n:Nat) (v:AV):AV→Prop
 | .ptr r off=>match aL σ.st r with
  | some (.box cs)=>Av v=true∧v.cells.length=n∧AV.allOne v.cells=true∧off+n≤cs.length
  | _=>False
 | .rptr r k off=>match aL σ.st r with
  | some (.sl s xs)=>0<n∧Av v=true∧v.cells.length=n∧(∃ps,cH v.cells=some ps∧s7 ps=true)∧k<xs.length∧off+n≤s
  | some (.bxs cs)=>Av v=true∧v.cells.length=n∧n=1∧AV.allOne v.cells=true∧off=0∧k<cs.length
  | _=>False
 | _=>False
def vU (l:List AV):List PV:=match cH l with
 | some ps=>ps
 | none=>[]
def Ka (σ:St) (v:AV):AV→St
 | .ptr r off=>match aL σ.st r with
  | some (.box cs)=>⟨σ.fr,(r,.box (lay cs off v.cells))::aQ σ.st r⟩
  | _=>σ
 | .rptr r k off=>match aL σ.st r with
  | some (.sl s xs)=>⟨σ.fr,(r,.sl s (xs.set k (lV (xs.getD k default) off (vU v.cells))))::aQ σ.st r⟩
  | some (.bxs cs)=>⟨σ.fr,(r,.bxs (lay cs k v.cells))::aQ σ.st r⟩
  | _=>σ
 | _=>σ
def mF (d:Nat):AV→Nat
 | .row r _ _=>r
 | _=>d
def Ca (σ:St):AV→List PV
 | .row r off n=>((HZ (aL σ.st r)).drop off).take n
 | _=>[]
def lD:AV→Nat
 | .row _ _ n=>n
 | _=>0
def tD (σ:St) (s bytes:Nat) (vb vs:AV):Prop:=
 (match vb with
  | .e0=>True
  | .row r _ _=>rS s (aL σ.st r)∧r<200000
  | _=>False)∧
 (match vs with
  | .row r _ _=>rS s (aL σ.st r)
  | _=>True)∧
 ∃ps,mJ σ vs=some ps∧cY s ps∧(lD vb+ps.length)*bytes≤140737488355328∧lD vb+ps.length≤9223372036854775807
def v8 (σ:St) (d s:Nat) (vb vs:AV):St:=
 (σ.newRow (mF d vb) (.sl s (Ca σ vb++(mJ σ vs).getD []))).put d (.row (mF d vb) 0 (lD vb+((mJ σ vs).getD []).length))
def Fl:AV→List AV
 | .lit xs=>xs
 | _=>[]
def t7 (σ:St):AV→List AV
 | .row r _ _=>match aL σ.st r with
  | some (.bxs cs)=>cs
  | _=>[]
 | _=>[]
def ED (σ:St) (bytes:Nat) (vb vs:AV):Prop:=
 (match vs with
  | .lit [v]=>v.one=true
  | _=>False)∧
 (match vb with
  | .e0=>True
  | .row r off n=>(match aL σ.st r with
   | some (.bxs cs)=>off=0∧n=cs.length∧0<n
   | _=>False)∧r<200000
  | _=>False)∧(lD vb+1)*bytes≤140737488355328∧lD vb+1≤9223372036854775807
def B8 (σ:St) (d:Nat) (vb vs:AV):St:=
 (σ.newRow (mF d vb) (.bxs (AV.clips (only (mF d vb)) (t7 σ vb++Fl vs)))).put d (.row (mF d vb) 0 (lD vb+1))
def B9 (σ:St) (d s bytes:Nat) (K:St→Prop) (vb vs:AV):Prop:=match vb with
 | .row r off n=>match aL σ.st r with
  | some (.sl s' xs)=>if off+n<xs.length then s'=s∧off<xs.length∧(match vs with
    | .row q _ _=>rS s (aL σ.st q)
    | _=>True)∧∃ps,mJ σ vs=some ps∧cY s ps∧off+n+ps.length≤xs.length∧K (St.put ⟨σ.fr,(r,.sl s (cR xs (off+n) ps))::aQ σ.st r⟩ d (.row r off (n+ps.length)))
   else tD σ s bytes (.row r off n) vs∧K ((v8 σ d s (.row r off n) vs).frz1 r)
  | some (.slf s' xs)=>s'=s∧off<xs.length∧(match vs with
    | .row q _ _=>rS s (aL σ.st q)
    | _=>True)∧∃ps,mJ σ vs=some ps∧cY s ps∧xs.length<off+n+ps.length∧(n+ps.length)*bytes≤140737488355328∧n+ps.length≤9223372036854775807∧
     K ((St.newRow ⟨σ.fr,(r,.sl s xs)::aQ σ.st r⟩ d (.sl s ((xs.drop off).take n++ps))).put d (.row d 0 (n+ps.length)))
  | _=>False
 | .e0=>tD σ s bytes .e0 vs∧K ((v8 σ d s .e0 vs).frz1 d)
 | _=>False
def B6 (σ:St) (d:Nat) (K:St→Prop):AV→Prop
 | .row r off _=>match aL σ.st r with
  | some (.sl s xs)=>off=0∧r<200000∧∀sp,cY s sp→K (St.put ⟨σ.fr,(r,.slf s (xs++sp))::aQ σ.st r⟩ d (dZ .i64 ((xs.length+sp.length:Nat):Int)))
  | _=>False
 | _=>False
def B7 (σ:St) (d s bytes:Nat) (z:PV) (K:St→Prop) (vb vn:AV):Prop:=match vb,vn with
 | .row r off n,.pv (.sc (.int _ m))=>match aL σ.st r with
  | some (.slf s' xs)=>s'=s∧0<m∧off<xs.length∧xs.length<off+n+m.toNat∧(n+m.toNat)*bytes≤140737488355328∧n+m.toNat≤9223372036854775807∧
    K ((St.newRow ⟨σ.fr,(r,.sl s xs)::aQ σ.st r⟩ d (.sl s ((xs.drop off).take n++List.replicate m.toNat z))).put d (.row d 0 (n+m.toNat)))
  | _=>False
 | _,_=>False
def Ig (σ:St) (d s:Nat) (K:St→Prop) (r off n:Nat) (xs:List PV) (vs:AV):Prop:=
 0<n∧(match vs with
  | .row q _ _=>CI (aL σ.st q)=some s
  | _=>True)∧∃ps N,C5 σ vs=some ps∧cY s ps∧0<N∧Nat.min ps.length n=N∧K (St.put ⟨σ.fr,(r,.sl s (cR xs off (ps.take N)))::aQ σ.st r⟩ d (dZ .i64 (N:Int)))
def Fw (σ:St) (d s:Nat) (K:St→Prop) (vd vs:AV):Prop:=match vd with
 | .row r off n=>match aL σ.st r with
  | some (.sl s' xs)=>s'=s∧Ig σ d s K r off n xs vs
  | some (.slf s' xs)=>s'=s∧Ig σ d s K r off n xs vs
  | _=>False
 | _=>False
def Fz (σ:St) (s:Nat) (z:PV) (K:St→Prop):AV→Prop
 | .row r off n=>match aL σ.st r with
  | some (.sl s' xs)=>s'=s∧0<xs.length∧off+n≤xs.length∧K ⟨σ.fr,(r,.sl s (cR xs off (List.replicate n z)))::aQ σ.st r⟩
  | _=>False
 | _=>False
def B1:AV→Option Nat
 | .pv (.lst ps)=>some ps.length
 | .row _ _ n=>some n
 | .e0=>some 0
 | _=>none
def Er (σ:St) (kk:Kk) (K:St→Prop):AV→AV→AV→Prop
 | .mp r,.pv k,.pv v=>match aL σ.st r with
  | some (.mp es)=>gA kk k∧aW kk k es∧K ⟨σ.fr,(r,.mp (nP k v es))::aQ σ.st r⟩
  | some (.mpd es clock)=>gA kk k∧aW kk k (oT es)∧K ⟨σ.fr,(r,.mpd (kU k v clock es) (Ef k es clock))::aQ σ.st r⟩
  | _=>False
 | .mp r,.pv k,v=>match aL σ.st r with
  | some (.mp [])=>gA kk k∧K ⟨σ.fr,(r,.mpx [k] [v])::aQ σ.st r⟩
  | some (.mpx ks vs)=>(gA kk k∧aW kk k (LZ ks))∧rJ k ks vs=none∧K ⟨σ.fr,(r,.mpx (ks++[k]) (vs++[v]))::aQ σ.st r⟩
  | _=>False
 | _,_,_=>False
def B2 (σ:St) (kk:Kk) (K:St→Prop):AV→AV→Prop
 | .mp r,.pv k=>match aL σ.st r with
  | some (.mpd es clock)=>gA kk k∧aW kk k (oT es)∧K ⟨σ.fr,(r,.mpd (rX k es) clock)::aQ σ.st r⟩
  | _=>False
 | _,_=>False
def BV (σ:St) (d:Nat) (K:St→Prop):AV→Prop
 | .mp r=>match aL σ.st r with
  | some (.mp es)=>r≠d∧K ((σ.newRow d (.mit r es.length (List.range es.length) none)).put d (.it d))
  | some (.mpd es clock)=>r≠d∧K ((σ.newRow d (.mid r clock (es.map (·.1)) (List.range es.length) none)).put d (.it d))
  | _=>False
 | _=>False
def BU (σ:St) (d:Nat) (K:St→Prop):AV→Prop
 | .pv (.sc (.string s))=>K ((σ.newRow d (.sit s 0)).put d (.it d))
 | _=>False
def B0 (σ:St) (d:Nat) (K:St→Prop):AV→Prop
 | .it r=>match aL σ.st r with
  | some (.mit m n rem _)=>(match aL σ.st m with
   | some (.mp es)=>es.length=n∧(rem=[]→K (σ.put d (.tup [aY false])))∧
     (∀i,i∈rem→K (St.put ⟨σ.fr,(r,.mit m n (rem.erase i) (some i))::aQ σ.st r⟩ d (.tup [aY true,.pv (es.getD i default).1,.pv (es.getD i default).2])))
   | _=>False)
  | some (.mid m n bs rem _)=>(match aL σ.st m with
   | some (.mpd es clock)=>(es.map (·.1)=bs∧clock=n)∧(rem=[]→K (σ.put d (.tup [aY false])))∧
     (∀i,i∈rem→K (St.put ⟨σ.fr,(r,.mid m n bs (rem.erase i) (some i))::aQ σ.st r⟩ d (.tup [aY true,.pv (es.getD i default).2.1,.pv (es.getD i default).2.2])))
   | _=>False)
  | _=>False
 | _=>False
def BZ (σ:St) (d:Nat) (K:St→Prop):AV→Prop
 | .it r=>match aL σ.st r with
  | some (.sit s pos)=>(pos<s.size→K (St.put ⟨σ.fr,(r,.sit s (pos+(Utf8.decode s pos).2))::aQ σ.st r⟩ d (.tup [aY true,dZ .i64 (pos:Nat),dZ .i32 ((Utf8.decode s pos).1:Nat)])))∧
    (¬pos<s.size→K (σ.put d (.tup [aY false])))
  | _=>False
 | _=>False
def Gf (P:Program) (σ:St) (d:Nat) (g:FuncId) (avs:List AV) (k:St→Prop):Prop:=
 ∃(m:Nat→Nat) (args:List AV) (st st':List (Nat×Row)) (v:AV),AV.rns m args=avs∧(∀r row,(r,row)∈st→(m r,row.rn m)∈σ.st)∧(st.map (·.1)).Nodup∧((st.map (·.1)).map m).Nodup∧
  ((st'.map (·.1)).map m).Nodup∧(∀r row,(r,row)∈st'→r<200000→m r<200000)∧j4 P g args st v st'∧k (σ.afterS d m st v st')
def bO (P:Program) (σ:St) (d:Option Nat):IOp→(St→Prop)→Prop
 | .q q,k=>match d with
  | some d=>q.pre σ∧k (σ.put d (q.val σ))
  | none=>False
 | .alloc zero,k=>match d with
  | some d=>k ((σ.newRow d (.box (AV.clips (only d) zero))).put d (.ptr d 0))
  | none=>False
 | .box x,k=>match d with
  | some d=>x.cd σ=true∧Av (x.sv σ)=true∧k ((σ.newRow d (.box (AV.clips (only d) (x.sv σ).cells))).put d (.ptr d 0))
  | none=>False
 | .lits xs s,k=>match d with
  | some d=>(e8 σ xs=true∧iY (eD σ xs)=true∧oX s (eD σ xs)∧xs.length*s≤16777216)∧k (σ.put d (oP (eD σ xs)))
  | none=>False
 | .own xs s,k=>match d with
  | some d=>(e8 σ xs=true∧iY (eD σ xs)=true∧oX s (eD σ xs)∧xs.length*s≤16777216∧(∀v∈eD σ xs,∀c∈v.cells,AV.one c=true)∧∃ps,cH (eD σ xs)=some ps)∧
    k ((σ.newRow d (.sl s (vU (eD σ xs)))).put d (.row d 0 xs.length))
  | none=>False
 | .mks l c s bytes z,k=>match d with
  | some d=>(l.cd σ=true∧c.cd σ=true∧eO (l.sv σ)∧eO (c.sv σ)∧0≤cQ (l.sv σ)∧cQ (l.sv σ)≤cQ (c.sv σ)∧(bytes:Int)*cQ (c.sv σ)≤281474976710656∧cQ (c.sv σ)≤9223372036854775807)∧
    k ((σ.newRow d (.sl s (List.replicate (cQ (l.sv σ)).toNat z))).put d (.row d 0 (cQ (l.sv σ)).toNat))
  | none=>False
 | .mkx l c bytes z,k=>match d with
  | some d=>(l.cd σ=true∧c.cd σ=true∧eO (l.sv σ)∧eO (c.sv σ)∧0≤cQ (l.sv σ)∧cQ (l.sv σ)=cQ (c.sv σ)∧(bytes:Int)*cQ (c.sv σ)≤281474976710656∧cQ (c.sv σ)≤9223372036854775807)∧
    k ((σ.newRow d (.bxs (List.replicate (cQ (l.sv σ)).toNat z))).put d (.row d 0 (cQ (l.sv σ)).toNat))
  | none=>False
 | .st p x n,k=>match d with
  | none=>(p.cd σ=true∧x.cd σ=true∧Kb σ n (x.sv σ) (p.sv σ))∧k (Ka σ (x.sv σ) (p.sv σ))
  | some _=>False
 | .app b src s bytes,k=>match d with
  | some d=>(b.cd σ=true∧src.cd σ=true∧tD σ s bytes (b.sv σ) (src.sv σ))∧k (v8 σ d s (b.sv σ) (src.sv σ))
  | none=>False
 | .appn b src s bytes,k=>match d with
  | some d=>(b.cd σ=true∧src.cd σ=true∧HL (b.sv σ)∧tD σ s bytes .e0 (src.sv σ)∧(kR (b.sv σ)=[]∨0<((mJ σ (src.sv σ)).getD []).length)∧cY s (kR (b.sv σ))∧((kR (b.sv σ)).length+((mJ σ (src.sv σ)).getD []).length)*bytes≤140737488355328∧(kR (b.sv σ)).length+((mJ σ (src.sv σ)).getD []).length≤9223372036854775807)∧k (σ.put d (.pv (.lst (kR (b.sv σ)++(mJ σ (src.sv σ)).getD []))))
  | none=>False
 | .appx b src bytes,k=>match d with
  | some d=>(b.cd σ=true∧src.cd σ=true∧ED σ bytes (b.sv σ) (src.sv σ))∧k (B8 σ d (b.sv σ) (src.sv σ))
  | none=>False
 | .appi b src s bytes,k=>match d with
  | some d=>(b.cd σ=true∧src.cd σ=true)∧B9 σ d s bytes k (b.sv σ) (src.sv σ)
  | none=>False
 | .appz b y s bytes z,k=>match d with
  | some d=>(b.cd σ=true∧y.cd σ=true)∧B7 σ d s bytes z k (b.sv σ) (y.sv σ)
  | none=>False
 | .capr x,k=>match d with
  | some d=>x.cd σ=true∧B6 σ d k (x.sv σ)
  | none=>False
 | .cpy b y s,k=>match d with
  | some d=>(b.cd σ=true∧y.cd σ=true)∧Fw σ d s k (b.sv σ) (y.sv σ)
  | none=>False
 | .clr x s z,k=>match d with
  | none=>x.cd σ=true∧Fz σ s z k (x.sv σ)
  | some _=>False
 | .call f args,k=>match d with
  | some d=>(f.cd σ=true∧e8 σ args=true)∧match cB σ f args with
   | some (g,ps,pure)=>ID P g ps pure (fun v rs=>k (σ.after d v rs)∨k ((σ.after d v rs).frz1 (1000+d)))
   | none=>False
  | none=>False
 | .isnil x neg,k=>match d with
  | some d=>x.cd σ=true∧match B1 (x.sv σ)with
   | some n=>∀b:Bool,(b=true→n=0)→k (σ.put d (aY (if neg then !b else b)))
   | none=>False
  | none=>False
 | .mkmr y,k=>match d with
  | some d=>(y.cd σ=true∧eO (y.sv σ))∧k ((σ.newRow d (.mp [])).put d (.mp d))
  | none=>False
 | .mkm,k=>match d with
  | some d=>k ((σ.newRow d (.mp [])).put d (.mp d))
  | none=>False
 | .mset m q v kk,k=>match d with
  | none=>(m.cd σ=true∧q.cd σ=true∧v.cd σ=true)∧Er σ kk k (m.sv σ) (q.sv σ) (v.sv σ)
  | some _=>False
 | .calls f args,k=>match d with
  | some d=>(f.cd σ=true∧e8 σ args=true)∧match cA (f.sv σ)with
   | some (g,caps)=>Gf P σ d g (eD σ args++caps) k∨∃v,J2 P g (eD σ args++caps) σ.st v∧k (σ.put d v)
   | none=>match lW (f.sv σ)with
    | some (g,first)=>Gf P σ d g (first++eD σ args) k
    | none=>False
  | none=>False
 | .mdel m q kk,k=>match d with
  | none=>(m.cd σ=true∧q.cd σ=true)∧B2 σ kk k (m.sv σ) (q.sv σ)
  | _=>False
 | .rngm y,k=>match d with
  | some d=>y.cd σ=true∧BV σ d k (y.sv σ)
  | none=>False
 | .rngs y,k=>match d with
  | some d=>y.cd σ=true∧BU σ d k (y.sv σ)
  | none=>False
 | .nxtm y,k=>match d with
  | some d=>y.cd σ=true∧B0 σ d k (y.sv σ)
  | none=>False
 | .nxts y,k=>match d with
  | some d=>y.cd σ=true∧BZ σ d k (y.sv σ)
  | none=>False
def sX (P:Program) (σ:St) (d:Option Nat) (g:AV) (b:Bool):IOp→(St→Prop)→Prop
 | .q q,k=>match d with
  | some d=>g.gok∧(g.gv b=true→q.pre σ)∧k (σ.put d (.whn (g.gv b) (q.val σ)))
  | none=>False
 | .lits xs s,k=>match d with
  | some d=>g.gok∧(g.gv b=true→e8 σ xs=true∧iY (eD σ xs)=true∧oX s (eD σ xs)∧xs.length*s≤16777216)∧k (σ.put d (.whn (g.gv b) (oP (eD σ xs))))
  | none=>False
 | .call f args,k=>match d with
  | some d=>g.gok∧(g.gv b=true→f.cd σ=true∧e8 σ args=true)∧match cB σ f args with
   | some (h,ps,pure)=>IE P (g.gv b) h ps pure (fun p=>k (σ.put d (.whn (g.gv b) (.pv p))))
   | none=>False
  | none=>False
 | .calls f args,k=>g.gok∧(g.gv b=true→bO P σ d (.calls f args) k)∧(g.gv b=false→match d with
  | some d=>k (σ.put d (.whn false .un))
  | none=>False)
 | op,k=>g.gok∧g.gv b=true∧bO P σ d op k
def aX (P:Program):List Inst→St→(St→Prop)→Prop
 | [],σ,K=>K σ
 | ⟨d,none,op⟩::is,σ,K=>bO P σ d op (fun σ'=>aX P is σ' K)
 | ⟨d,some (t,b),op⟩::is,σ,K=>sX P σ d (bC σ.fr t) b op (fun σ'=>aX P is σ' K)
end Go.Vc

namespace Go.Vc
open Go.RowKit
set_option linter.constructorNameAsVariable false
section
variable {P:Program} {e:Env} {σ:St} {x:Cx} {a:Act} {o:Oper} {owns:List Nat}
theorem FD (y:Cx) (v:Value):aB y (JX v) v:=by
 by_cases h:v=.slice none 0 0
 ·subst h;simp only[JX,aB];exact⟨none,rfl⟩
 ·have:JX v=.pv (.sc v):=by
   unfold JX;split
   ·exact absurd rfl h
   ·rfl
  rw[this];simp only[aB,aG]
theorem pO (y:Cx):∀vs:List Value,aD y (vs.map JX) vs
 | []=>by simp[aD]
 | v::vs=>by simp only[List.map_cons,aD];exact⟨v,vs,rfl,FD y v,pO y vs⟩
theorem FB (w:World) (F:Nat→Prop) (v:Value):aG w F (HE v) v:=by
 by_cases h:v=.slice none 0 0
 ·subst h;simp only[HE,aG];exact⟨none,0,0,rfl,rfl,Nat.le_refl _,fun hn=>absurd hn (by omega)⟩
 ·have:HE v=.sc v:=by
   unfold HE;split
   ·exact absurd rfl h
   ·rfl
  rw[this];simp only[aG]
theorem C9 (w:World) (F:Nat→Prop):∀vs:List Value,aE w F (vs.map HE) vs
 | []=>by simp[aE]
 | v::vs=>by simp only[List.map_cons,aE];exact⟨v,vs,rfl,FB w F v,C9 w F vs⟩
theorem nD (w:World) (F:Nat→Prop) (v:Value):aE w F (o9 v).cells v.cells.toList:=by
 by_cases h:∃cs,v=.agg cs
 ·obtain⟨cs,rfl⟩:=h
  simp only[o9,PV.cells,Value.cells]
  exact C9 w F cs.toList
 ·have e1:o9 v=HE v:=by
   unfold o9;split
   ·rename_i cs;exact absurd ⟨cs,rfl⟩ h
   ·rfl
  have e2:v.cells.toList=[v]:=by
   unfold Value.cells;split
   ·rename_i cs;exact absurd ⟨cs,rfl⟩ h
   ·rfl
  have e3:(HE v).cells=[HE v]:=by
   unfold HE;split<;>rfl
  rw[e1,e2,e3]
  simp only[aE]
  exact⟨v,[],rfl,FB w F v,rfl⟩
theorem sL {bP:List (Nat×Nat)}:∀{ps:List (Nat×Operand)} {qs:List (Nat×Nat×Opd)},qO bP ps=some qs→d5 (fun i=>bP[i]?) ps qs
 | [],qs,h=>by simp only[qO,Option.some.injEq]at h;subst h;simp[d5]
 | (i,y)::ps,qs,h=>by
  simp only[qO]at h
  split at h
  ·rename_i off n z r h1 h2 h3
   injection h with h;subst h
   simp only[d5]
   exact⟨off,n,z,r,rfl,h1,h2,sL h3⟩
  ·cases h
theorem tP (h:SRel e σ x a) {y:Option Operand} {z:Option Opd} (hz:CW y=some z) (hc:e8 σ (gH z)=true) (hp:oW σ z):
  (y.map a.eval=none∧z=none)∨∃k q,z=some q∧y.map a.eval=some (.int k (bnd (q.sv σ))):=by
 cases y with
 | none=>simp only[CW,Option.some.injEq]at hz;subst hz;exact .inl ⟨rfl,rfl⟩
 | some y=>
  simp only[CW]at hz
  split at hz
  ·rename_i q hq
   injection hz with hz;subst hz
   simp only[gH,e8,Bool.and_true]at hc
   obtain⟨k,hk⟩:=LO h hq hc hp
   exact .inr ⟨k,q,rfl,by simp[hk]⟩
  ·cases hz
theorem sV (σ:St):∀(us vs:List Opd),e8 σ (us++vs)=(e8 σ us&&e8 σ vs)
 | [],vs=>by simp[e8]
 | u::us,vs=>by simp only[List.cons_append,e8,sV σ us vs,Bool.and_assoc]
theorem Ly {t:TypeId} {kk:Kk} (h:Nd P t=some kk):xY P t kk:=by
 unfold Nd at h
 split at h
 ·rename_i k hk;injection h with h;subst h;exact⟨k,hk⟩
 ·rename_i hk;injection h with h;subst h;exact hk
 ·rename_i fs hk
  split at h
  ·rename_i ks hf
   split at h
   ·rename_i hs;injection h with h;subst h;exact .inl ⟨fs,hk,hf,hs⟩
   ·cases h
  ·cases h
 ·rename_i n e hk
  split at h
  ·rename_i k i he hi
   split at h
   ·rename_i hs;injection h with h;subst h;exact .inr ⟨n,e,k,i,hk,he,hi,hs,rfl⟩
   ·cases h
  ·cases h
 ·cases h
theorem l5 {t et:TypeId} {kk:Kk} (h:mapOf? P t=some (kk,et)):∃kt,P.underlying t=some (.map kt et)∧xY P kt kk:=by
 unfold mapOf? at h
 split at h
 ·rename_i kt et' ht
  split at h
  ·rename_i kk' hk
   injection h with h;injection h with h1 h2
   subst h1;subst h2
   exact⟨kt,ht,Ly hk⟩
  ·cases h
 ·cases h
theorem IF (y:Cx) (v:Value):aB y (MR v) v:=by
 unfold MR
 split
 ·rename_i cs
  exact kP (pO y cs.toList)
 ·exact FD y _
theorem M0 {q:Q} (hof:IOp.of P owns o=some (.q q)) (h:SRel e σ x a) (hp:q.pre σ):dO P x o a.eval (q.val σ):=by
 obtain⟨hcd,hp⟩:=hp
 cases hop:o.op with
 | move y=>
  simp only[IOp.of,hop]at hof
  split at hof
  ·rename_i z hz;injection hof with hof;injection hof with hof;subst hof
   exact OK (.inl hop) (Opd.of_sv h hz hcd)
  ·cases hof
 | assign y=>
  simp only[IOp.of,hop]at hof
  split at hof
  ·rename_i z hz;injection hof with hof;injection hof with hof;subst hof
   exact OK (.inr hop) (Opd.of_sv h hz hcd)
  ·cases hof
 | binOp op t y z t'=>
  simp only[IOp.of,hop]at hof
  split at hof
  ·rename_i u v hu hv
   have bin:∀{d:TypeDesc},P.underlying t=some d→some (IOp.q (.bin op u v))=some (.q q)→dO P x o a.eval (q.val σ):=by
    intro d _ hq
    injection hq with hq;injection hq with hq;subst hq
    simp only[Q.cd,Bool.and_eq_true]at hcd
    exact Pv hop (Opd.of_sv h hu hcd.1) (Opd.of_sv h hv hcd.2) hp
   split at hof
   ·rename_i ht
    split at hof
    ·injection hof with hof;injection hof with hof;subst hof
     simp only[Q.cd,Bool.and_eq_true]at hcd
     exact Md (neg:=false) hop ht (Opd.of_sv h hu hcd.1) (Opd.of_sv h hv hcd.2) hp
    ·injection hof with hof;injection hof with hof;subst hof
     simp only[Q.cd,Bool.and_eq_true]at hcd
     exact Md (neg:=true) hop ht (Opd.of_sv h hu hcd.1) (Opd.of_sv h hv hcd.2) hp
    ·cases hof
   ·rename_i ht
    split at hof
    ·injection hof with hof;injection hof with hof
     split at hof
     ·subst hof
      simp only[Q.cd,Bool.and_eq_true]at hcd
      exact Pg hop (Opd.of_sv h hu hcd.1) (Opd.of_sv h hv hcd.2) hp
     ·subst hof
      simp only[Q.cd,Bool.and_eq_true]at hcd
      exact Ma (left:=true) hop (Opd.of_sv h hu hcd.1) (Opd.of_sv h hv hcd.2) hp
    ·injection hof with hof;injection hof with hof;subst hof
     simp only[Q.cd,Bool.and_eq_true]at hcd
     exact Ma (left:=false) hop (Opd.of_sv h hu hcd.1) (Opd.of_sv h hv hcd.2) hp
    ·exact bin ht hof
   ·rename_i ht;exact bin ht hof
   ·split at hof<;>cases hof
   ·rename_i fields ht
    split at hof
    ·rename_i ks hks
     split at hof
     ·rename_i hg
      split at hof
      ·injection hof with hof;injection hof with hof;subst hof
       simp only[Q.cd,Bool.and_eq_true]at hcd
       exact Mb (neg:=false) hop ht hks hg.1 hg.2 (Opd.of_sv h hu hcd.1) (Opd.of_sv h hv hcd.2) hp
      ·injection hof with hof;injection hof with hof;subst hof
       simp only[Q.cd,Bool.and_eq_true]at hcd
       exact Mb (neg:=true) hop ht hks hg.1 hg.2 (Opd.of_sv h hu hcd.1) (Opd.of_sv h hv hcd.2) hp
      ·cases hof
     ·cases hof
    ·cases hof
   ·rename_i n ea ht
    split at hof
    ·rename_i j i he hi
     split at hof
     ·rename_i hg
      split at hof
      ·injection hof with hof;injection hof with hof;subst hof
       simp only[Q.cd,Bool.and_eq_true]at hcd
       exact Ip (neg:=false) hop ht he hi hg.1 hg.2 (Opd.of_sv h hu hcd.1) (Opd.of_sv h hv hcd.2) hp
      ·injection hof with hof;injection hof with hof;subst hof
       simp only[Q.cd,Bool.and_eq_true]at hcd
       exact Ip (neg:=true) hop ht he hi hg.1 hg.2 (Opd.of_sv h hu hcd.1) (Opd.of_sv h hv hcd.2) hp
      ·cases hof
     ·cases hof
    ·cases hof
   ·cases hof
  ·cases hof
 | unOp op t y=>
  cases op with
  | not=>
   simp only[IOp.of,hop]at hof
   split at hof
   ·rename_i z hz;injection hof with hof;injection hof with hof;subst hof
    exact Ph hop (Opd.of_sv h hz hcd) hp
   ·cases hof
  | neg=>
   simp only[IOp.of,hop]at hof
   split at hof
   ·rename_i z k hz hk
    injection hof with hof;injection hof with hof;subst hof
    simp only[Q.cd,Bool.and_eq_true]at hcd
    exact Pi hop (Opd.of_sv h hz hcd.2) hp
   ·cases hof
  | _=>simp[IOp.of,hop]at hof
 | pick c y z=>
  simp only[IOp.of,hop]at hof
  split at hof
  ·rename_i c' y' z' hc hy hz;injection hof with hof;injection hof with hof;subst hof
   simp only[Q.cd,Bool.and_eq_true]at hcd
   obtain⟨h1,h2⟩:=hcd
   refine ND hop (Opd.of_sv h hc h1) hp.1 hp.2.1 hp.2.2 (fun hb=>Opd.of_sv h hy ?_) (fun hb=>Opd.of_sv h hz ?_)
   ·rw[hb]at h2;exact h2
   ·rw[hb]at h2;exact h2
  ·cases hof
 | extract y i=>
  simp only[IOp.of,hop]at hof
  split at hof
  ·rename_i z hz;injection hof with hof;injection hof with hof;subst hof
   exact Pp hop (Opd.of_sv h hz hcd) hp
  ·cases hof
 | fieldAddr s y f=>
  simp only[IOp.of,hop]at hof
  split at hof
  ·rename_i z fields hz hs
   split at hof
   ·rename_i fl hf
    split at hof
    ·rename_i i hi
     split at hof
     ·cases hof
     ·rename_i hne
      injection hof with hof;injection hof with hof;subst hof
      exact Re hop hs hf hi hne (Opd.of_sv h hz hcd) hp
    ·cases hof
   ·cases hof
  ·cases hof
 | indexAddr t y z=>
  simp only[IOp.of,hop]at hof
  split at hof
  ·rename_i u v hu hv
   split at hof
   ·rename_i et ht
    split at hof
    ·rename_i i hi
     injection hof with hof;injection hof with hof;subst hof
     simp only[Q.cd,Bool.and_eq_true]at hcd
     exact Rc h hop ht hi (Opd.of_sv h hu hcd.1) (Opd.of_sv h hv hcd.2) hp
    ·cases hof
   ·rename_i len et ht
    split at hof
    ·rename_i i hi
     injection hof with hof;injection hof with hof;subst hof
     simp only[Q.cd,Bool.and_eq_true]at hcd
     exact Pm hop ht hi (Opd.of_sv h hu hcd.1) (Opd.of_sv h hv hcd.2) hp
    ·cases hof
   ·cases hof
  ·cases hof
 | load t y=>
  simp only[IOp.of,hop]at hof
  split at hof
  ·rename_i z d i hz ht hi
   injection hof with hof;injection hof with hof;subst hof
   exact Rb h hop ht hi (Opd.of_sv h hz hcd) hp
  ·cases hof
 | field s y f=>
  simp only[IOp.of,hop]at hof
  split at hof
  ·rename_i z fields hz hs
   split at hof
   ·rename_i fl hf
    split at hof
    ·rename_i d i ht hi
     injection hof with hof;injection hof with hof;subst hof
     exact Po hop hs hf ht hi (Opd.of_sv h hz hcd) hp
    ·cases hof
   ·cases hof
  ·cases hof
 | slice t y lo hi mx=>
  cases mx with
  | some m=>
   cases lo with
   | none=>cases hi with
    | none=>simp[IOp.of,hop]at hof
    | some hi=>
     simp only[IOp.of,hop]at hof
     split at hof
     ·rename_i z hh mm et hz hhh hmm ht
      split at hof
      ·rename_i i hi'
       injection hof with hof;injection hof with hof;subst hof
       simp only[Q.cd,e8,Bool.and_eq_true]at hcd
       exact Pn hop ht hi' (Opd.of_sv h hz hcd.1) (Opd.of_sv h hhh hcd.2.1) (Opd.of_sv h hmm hcd.2.2.1) hp
      ·cases hof
     ·cases hof
   | some lo=>cases hi with
    | none=>simp[IOp.of,hop]at hof
    | some hi=>
     simp only[IOp.of,hop]at hof
     split at hof
     ·rename_i z l hh mm et hz hl hhh hmm ht
      split at hof
      ·rename_i i hi'
       injection hof with hof;injection hof with hof;subst hof
       simp only[Q.cd,e8,Bool.and_eq_true]at hcd
       exact Pt hop ht hi' (Opd.of_sv h hz hcd.1) (Opd.of_sv h hl hcd.2.1) (Opd.of_sv h hhh hcd.2.2.1) (Opd.of_sv h hmm hcd.2.2.2.1) hp
      ·cases hof
     ·cases hof
  | none=>
   simp only[IOp.of,hop]at hof
   split at hof
   ·rename_i z l hh hz hl hhh
    have fin:∀{s:Nat} {str:Bool},q=.slc z l hh s str→(str=true∧P.underlying t=some .string∨str=false∧∃et i,P.underlying t=some (.slice et)∧P.info? et=some i∧i.size=s)→dO P x o a.eval (q.val σ):=by
     intro s str hq hk
     subst hq
     simp only[Q.cd]at hcd
     have hcd':e8 σ ((z::gH l)++gH hh)=true:=hcd
     rw[sV]at hcd'
     simp only[e8,Bool.and_eq_true]at hcd'
     obtain⟨⟨h1,h2⟩,h3⟩:=hcd'
     simp only[]at hp
     have hlo:lo.map a.eval=none∧sC σ l=0∨∃k,lo.map a.eval=some (.int k (sC σ l)):=by
      rcases tP h hl h2 hp.1 with⟨g1,rfl⟩|⟨k,q,rfl,g2⟩
      ·exact .inl ⟨g1,rfl⟩
      ·exact .inr ⟨k,g2⟩
     have hhi:hi.map a.eval=none∧sD σ (dQ (z.sv σ)) hh=dQ (z.sv σ)∨∃k,hi.map a.eval=some (.int k (sD σ (dQ (z.sv σ)) hh)):=by
      rcases tP h hhh h3 hp.2.1 with⟨g1,rfl⟩|⟨k,q,rfl,g2⟩
      ·exact .inl ⟨g1,rfl⟩
      ·exact .inr ⟨k,g2⟩
     exact Pf hop ⟨a,h⟩ hlo hhi hk (Opd.of_sv h hz h1) hp.2.2
    have finx:∀{et:TypeId} {i:TypeInfo},q=.slcx z l hh i.size→P.underlying t=some (.slice et)→P.info? et=some i→dO P x o a.eval (q.val σ):=by
     intro et i hq hk hk2
     subst hq
     simp only[Q.cd]at hcd
     have hcd':e8 σ ((z::gH l)++gH hh)=true:=hcd
     rw[sV]at hcd'
     simp only[e8,Bool.and_eq_true]at hcd'
     obtain⟨⟨h1,h2⟩,h3⟩:=hcd'
     simp only[]at hp
     have hlo:lo.map a.eval=none∧sC σ l=0∨∃k,lo.map a.eval=some (.int k (sC σ l)):=by
      rcases tP h hl h2 hp.1 with⟨g1,rfl⟩|⟨k,q,rfl,g2⟩
      ·exact .inl ⟨g1,rfl⟩
      ·exact .inr ⟨k,g2⟩
     have hhi:hi.map a.eval=none∧sD σ (dQ (z.sv σ)) hh=dQ (z.sv σ)∨∃k,hi.map a.eval=some (.int k (sD σ (dQ (z.sv σ)) hh)):=by
      rcases tP h hhh h3 hp.2.1 with⟨g1,rfl⟩|⟨k,q,rfl,g2⟩
      ·exact .inl ⟨g1,rfl⟩
      ·exact .inr ⟨k,g2⟩
     exact NC hop h hlo hhi hk hk2 (Opd.of_sv h hz h1) hp.2.2
    split at hof
    ·rename_i ht
     injection hof with hof;injection hof with hof
     exact fin hof.symm (.inl ⟨rfl,ht⟩)
    ·rename_i et ht
     split at hof
     ·rename_i i hi'
      injection hof with hof;injection hof with hof
      cases hb:hO owns o.dst with
      | true=>rw[hb]at hof;simp only[if_true]at hof;exact finx hof.symm ht hi'
      | false=>rw[hb]at hof;simp only[Bool.false_eq_true,if_false]at hof;exact fin hof.symm (.inr ⟨rfl,et,i,ht,hi',rfl⟩)
     ·cases hof
    ·cases hof
   ·cases hof
 | convert s t y=>
  simp only[IOp.of,hop]at hof
  split at hof
  ·rename_i z ds k hz hs ht
   injection hof with hof;injection hof with hof
   split at hof
   ·subst hof
    exact Pr hop hs ht (Opd.of_sv h hz hcd) hp
   ·subst hof
    exact NH hop hs ht (Opd.of_sv h hz hcd) hp
  ·rename_i z et hz hs ht
   split at hof
   ·rename_i het
    injection hof with hof;injection hof with hof;subst hof
    exact Pe h hop hs ht het (Opd.of_sv h hz hcd) hp
   ·cases hof
  ·cases hof
 | build t parts=>
  simp only[IOp.of,hop]at hof
  split at hof
  ·rename_i fields i ht hi
   split at hof
   ·rename_i zv bP hzv hpl
    split at hof
    ·rename_i qs hqs
     injection hof with hof;injection hof with hof;subst hof
     exact Ra h hop ht hi hzv (pO x _) hpl (sL hqs) hcd hp
    ·cases hof
   ·cases hof
  ·rename_i n ea i ht hi
   split at hof
   ·rename_i zv ie hzv hie
    split at hof
    ·rename_i qs hqs
     injection hof with hof;injection hof with hof;subst hof
     exact Pk h hop ht hi hie hzv (pO x _) (sL hqs) hcd hp
    ·cases hof
   ·cases hof
  ·cases hof
 | makeFunc fn first captured=>
  cases fn with
  | func f=>
   simp only[IOp.of,hop]at hof
   split at hof
   ·rename_i hf
    split at hof
    ·rename_i zs hzs
     injection hof with hof;injection hof with hof;subst hof
     have:first=#[]:=Array.eq_empty_of_size_eq_zero hf
     subst this
     exact Ps h hop hzs hcd
    ·cases hof
   ·split at hof
    ·rename_i hf
     split at hof
     ·rename_i zs hzs
      injection hof with hof;injection hof with hof;subst hof
      have:captured=#[]:=Array.eq_empty_of_size_eq_zero hf
      subst this
      exact Pu h hop hzs hcd
     ·cases hof
    ·cases hof
  | _=>simp[IOp.of,hop]at hof
 | nilCheck y=>
  simp only[IOp.of,hop]at hof
  split at hof
  ·rename_i z hz
   injection hof with hof;injection hof with hof;subst hof
   exact Pj hop (Opd.of_sv h hz hcd) hp
  ·cases hof
 | index t y z=>
  simp only[IOp.of,hop]at hof
  split at hof
  ·rename_i u v hu hv ht
   injection hof with hof;injection hof with hof;subst hof
   simp only[Q.cd,Bool.and_eq_true]at hcd
   exact Pl hop ht (Opd.of_sv h hu hcd.1) (Opd.of_sv h hv hcd.2) hp
  ·rename_i u v n ea hu hv ht
   split at hof
   ·rename_i j i he hi
    split at hof
    ·rename_i hi1
     injection hof with hof;injection hof with hof;subst hof
     simp only[Q.cd,Bool.and_eq_true]at hcd
     exact NG hop ht he hi1.1 hi hi1.2 (Opd.of_sv h hu hcd.1) (Opd.of_sv h hv hcd.2) hp
    ·cases hof
   ·cases hof
  ·cases hof
 | call c=>
  obtain⟨callee,args,argTypes⟩:=c
  simp only[IOp.of,hop]at hof
  split at hof
  ·split at hof
   ·rename_i y t hargs htys
    have e1:args=#[y]:=Array.toList_inj.1 (by simpa using hargs)
    have e2:argTypes[0]?=some t:=by rw[←Array.getElem?_toList,htys];rfl
    subst e1
    split at hof
    ·rename_i z hz ht
     injection hof with hof;injection hof with hof;subst hof
     exact Mc hop e2 (Opd.of_sv h hz hcd) hp (fun _=>ht) (fun h=>by cases h)
    ·rename_i z et hz ht
     injection hof with hof;injection hof with hof;subst hof
     exact Mc hop e2 (Opd.of_sv h hz hcd) hp (fun h=>by cases h) (fun _=>⟨et,ht⟩)
    ·rename_i z kt et hz ht
     injection hof with hof;injection hof with hof;subst hof
     have e3:argTypes=#[t]:=Array.toList_inj.1 (by simpa using htys)
     subst e3
     exact NE h hop ht (Opd.of_sv h hz hcd) hp
    ·cases hof
   ·cases hof
  ·split at hof
   ·rename_i y z hargs
    have e1:args=#[y,z]:=Array.toList_inj.1 (by simpa using hargs)
    subst e1
    split at hof
    ·rename_i u v hu hv
     injection hof with hof;injection hof with hof;subst hof
     simp only[Q.cd,Bool.and_eq_true]at hcd
     exact OL (mx:=false) hop (Opd.of_sv h hu hcd.1) (Opd.of_sv h hv hcd.2) hp
    ·cases hof
   ·cases hof
  ·split at hof
   ·rename_i y z hargs
    have e1:args=#[y,z]:=Array.toList_inj.1 (by simpa using hargs)
    subst e1
    split at hof
    ·rename_i u v hu hv
     injection hof with hof;injection hof with hof;subst hof
     simp only[Q.cd,Bool.and_eq_true]at hcd
     exact OL (mx:=true) hop (Opd.of_sv h hu hcd.1) (Opd.of_sv h hv hcd.2) hp
    ·cases hof
   ·cases hof
  ·split at hof
   ·split at hof
    ·split at hof
     ·split at hof
      ·split at hof
       ·injection hof with hof
        split at hof
        ·cases hof
        cases hs:xN owns o.dst<;>cases hb:hO owns o.dst<;>simp[hb,hs]at hof
       ·cases hof
      ·cases hof
     ·cases hof
    ·repeat' split at hof
     all_goals cases hof
    ·cases hof
   ·cases hof
  ·repeat' split at hof
   all_goals cases hof
  ·repeat' split at hof
   all_goals cases hof
  ·repeat' split at hof
   all_goals cases hof
  ·repeat' split at hof
   all_goals cases hof
  ·split at hof
   ·injection hof with hof
    cases hb:hO owns o.dst<;>simp[hb]at hof
   ·cases hof
  ·cases hof
 | range t y=>
  simp only[IOp.of,hop]at hof
  split at hof<;>cases hof
 | next y str=>
  simp only[IOp.of,hop]at hof
  split at hof
  ·injection hof with hof
   cases str<;>simp at hof
  ·cases hof
 | entry y=>
  simp only[IOp.of,hop]at hof
  split at hof
  ·rename_i z hz;injection hof with hof;injection hof with hof;subst hof
   exact Pq h hop (Opd.of_sv h hz hcd) hp
  ·cases hof
 | lookup t y z comma=>
  simp only[IOp.of,hop]at hof
  split at hof
  ·rename_i u v str et hu hv hmap
   split at hof
   ·rename_i i hi
    split at hof
    ·rename_i zv hz
     injection hof with hof;injection hof with hof;subst hof
     simp only[Q.cd,Bool.and_eq_true]at hcd
     obtain⟨kt,h1,h2⟩:=l5 hmap
     exact NF h hop h1 h2 hi hz (IF x zv) (Opd.of_sv h hu hcd.1) (Opd.of_sv h hv hcd.2) hp
    ·cases hof
   ·cases hof
  ·cases hof
 | makeMap t r=>
  cases r with
  | none=>simp[IOp.of,hop]at hof
  | some y=>simp only[IOp.of,hop]at hof;split at hof<;>cases hof
 | mapUpdate t m k v=>simp only[IOp.of,hop]at hof;split at hof<;>cases hof
 | insert t m k v=>simp only[IOp.of,hop]at hof;split at hof<;>cases hof
 | alloc t=>simp only[IOp.of,hop]at hof;split at hof<;>first|(split at hof<;>cases hof)|cases hof
 | box t y=>simp only[IOp.of,hop]at hof;split at hof<;>cases hof
 | buildSlice t n parts=>
  simp only[IOp.of,hop]at hof
  split at hof
  ·split at hof
   ·split at hof
    ·split at hof
     ·injection hof with hof
      cases hb:hO owns o.dst<;>simp[hb]at hof
     ·cases hof
    ·cases hof
   ·cases hof
  ·cases hof
 | makeSlice t l c=>
  simp only[IOp.of,hop]at hof
  split at hof
  ·split at hof
   ·split at hof
    ·split at hof
     ·injection hof with hof
      split at hof<;>cases hof
     ·cases hof
    ·cases hof
   ·cases hof
  ·cases hof
 | store t p v=>
  simp only[IOp.of,hop]at hof
  split at hof
  ·cases hof
  ·cases hof
 | _=>simp[IOp.of,hop]at hof
end
end Go.Vc

namespace Go.Vc
open Go.RowKit
set_option linter.constructorNameAsVariable false
def IOp.soft:IOp→Bool
 | .alloc _|.box _|.lits _ _|.own _ _|.appn _ _ _ _|.mks _ _ _ _ _|.mkx _ _ _ _|.call _ _|.isnil _ _|.mkm|.mkmr _|.rngm _|.rngs _=>true
 | _=>false
def IOp.hard:IOp→Bool
 | .st _ _ _|.app _ _ _ _|.appx _ _ _|.appi _ _ _ _|.clr _ _ _|.capr _|.appz _ _ _ _ _|.cpy _ _ _|.mset _ _ _ _|.mdel _ _ _|.calls _ _|.nxtm _|.nxts _=>true
 | _=>false
def IOp.quiet:IOp→Bool
 | .q _=>true
 | _=>false
section
variable {P:Program} {e:Env} {σ:St} {x:Cx} {a:Act} {o:Oper} {owns:List Nat} {K:St→Prop}
theorem jH:∀{ps:List PV},s7 ps=true→∀c∈ps,c.one=true
 | [],_,c,hc=>by cases hc
 | p::ps,h,c,hc=>by
  simp only[s7,Bool.and_eq_true]at h
  rcases List.mem_cons.1 hc with rfl|hc
  ·exact h.1
  ·exact jH h.2 c hc
theorem pX (h:SRel e σ x a) {y:Operand} {z:Opd} (hz:Opd.of y=some z) (hc:z.cd σ=true) (hi:eO (z.sv σ)):∃k,a.eval y=.int k (cQ (z.sv σ)):=by
 have:=Opd.of_sv h hz hc
 unfold eO at hi
 split at hi
 ·rename_i k n he
  rw[he]at this ⊢
  simp only[aB,aG]at this
  exact⟨k,this⟩
 ·exact hi.elim
theorem FC:∀(l:List (Nat×Operand)) (k:Nat),l.map (·.1)=List.range' k l.length→l=((l.map (·.2)).zipIdx k).map fun q=>(q.2,q.1)
 | [],_,_=>rfl
 | (i,y)::l,k,h=>by
  simp only[List.map_cons,List.length_cons,List.range'_succ,List.cons.injEq]at h
  simp only[List.map_cons,List.zipIdx_cons]
  rw[h.1]
  congr 1
  exact FC l (k+1) h.2
theorem NS {t et:TypeId} {n:Nat} {parts:Array (Nat×Operand)} (hop:o.op=.buildSlice t n parts) {i:TypeInfo} {zv:Value} {zs:List Opd} (ht:P.underlying t=some (.slice et)) (hi:P.info? et=some i) (hz:i.zero=some zv)
  (hzs:fA (parts.toList.map (·.2))=some zs) (hr:parts.toList.map (·.1)=List.range n) (hs:0<i.size):LitOf P o zs i.size:=by
 have hlen:parts.toList.length=n:=by have:=congrArg List.length hr;simpa using this
 refine⟨t,et,i,zv,parts,parts.toList.map (·.2),?_,?_,hzs,ht,hi,hz,hs,rfl⟩
 ·rw[hop,List.length_map,hlen]
 ·exact FC parts.toList 0 (by rw[hr,List.range_eq_range',hlen])
theorem xJ [EP e P] {op:IOp} (hof:IOp.of P owns o=some op) (hsoft:op.soft=true) (hd:∀d,o.dst=some d→d<e.n) (h:SRel e σ x a) (hk:bO P σ o.dst op K):iB P e o a x.w K:=by
 cases hop:o.op with
 | alloc t=>
  simp only[IOp.of,hop]at hof
  split at hof
  ·rename_i i hi
   split at hof
   ·rename_i zv hz
    injection hof with hof;subst hof
    simp only[bO]at hk
    split at hk
    ·rename_i d hdst
     exact Lw h d (hd d hdst) hdst hop hi hz (fun y=>pO y _) hk
    ·exact hk.elim
   ·cases hof
  ·cases hof
 | box t y=>
  simp only[IOp.of,hop]at hof
  split at hof
  ·rename_i z hz
   injection hof with hof;subst hof
   simp only[bO]at hk
   split at hk
   ·rename_i d hdst
    exact PL h d (hd d hdst) hdst hop hz hk.1 hk.2.1 hk.2.2
   ·exact hk.elim
  ·cases hof
 | buildSlice t n parts=>
  simp only[IOp.of,hop]at hof
  split at hof
  ·rename_i et ht
   split at hof
   ·rename_i i hi
    split at hof
    ·rename_i zv zs hz hzs
     split at hof
     ·rename_i hr
      injection hof with hof
      have hl:=NS hop ht hi hz hzs hr.1 hr.2
      cases hb:hO owns o.dst
      ·rw[hb]at hof
       simp only[Bool.false_eq_true,if_false]at hof
       subst hof
       simp only[bO]at hk
       split at hk
       ·rename_i d hdst
        exact NZ h d (hd d hdst) hdst hl hk.1.1 hk.1.2.1 hk.1.2.2.1 hk.1.2.2.2 hk.2
       ·exact hk.elim
      ·rw[hb]at hof
       simp only[if_true]at hof
       subst hof
       simp only[bO]at hk
       split at hk
       ·rename_i d hdst
        obtain⟨⟨k1,k2,k3,k4,k5,ps,k6⟩,k7⟩:=hk
        have e1:vU (eD σ zs)=ps:=by unfold vU;rw[k6]
        rw[e1]at k7
        exact PF h d (hd d hdst) hdst hl k1 k2 k3 k4 k5 k6 k7
       ·exact hk.elim
     ·cases hof
    ·cases hof
   ·cases hof
  ·cases hof
 | makeSlice t yl yc=>
  simp only[IOp.of,hop]at hof
  split at hof
  ·rename_i zl zc et hl hc ht
   split at hof
   ·rename_i i hi
    split at hof
    ·rename_i zv hz
     split at hof
     ·rename_i hcond
      split at hof
      ·rename_i hbx
       injection hof with hof;subst hof
       simp only[bO]at hk
       split at hk
       ·rename_i d hdst
        obtain⟨⟨k1,k2,k3,k4,k5,k6,k7,k8⟩,k9⟩:=hk
        obtain⟨kl,e1⟩:=pX h hl k1 k3
        obtain⟨kc,e2⟩:=pX h hc k2 k4
        exact PG h d (hd d hdst) hdst hop ht hi hz e1 e2 k5 k6 k7 k8 (G8 (by simp only[Bool.and_eq_true]at hbx;exact hbx.2.1)) (by simp only[Bool.and_eq_true,beq_iff_eq]at hbx;exact hbx.2.2) k9
       ·exact hk.elim
      ·injection hof with hof;subst hof
       simp only[bO]at hk
       split at hk
       ·rename_i d hdst
        obtain⟨⟨k1,k2,k3,k4,k5,k6,k7,k8⟩,k9⟩:=hk
        obtain⟨kl,e1⟩:=pX h hl k1 k3
        obtain⟨kc,e2⟩:=pX h hc k2 k4
        exact PH h d (hd d hdst) hdst hop ht hi hz e1 e2 k5 k6 k7 k8 (fun w F=>nD w F zv) (jH hcond.2.2) hcond.1 hcond.2.1 k9
       ·exact hk.elim
     ·cases hof
    ·cases hof
   ·cases hof
  ·cases hof
 | binOp bop t y z t'=>
  simp only[IOp.of,hop]at hof
  split at hof
  ·rename_i u v hu hv
   split at hof
   ·split at hof
    ·injection hof with hof;subst hof;simp[IOp.soft]at hsoft
    ·injection hof with hof;subst hof;simp[IOp.soft]at hsoft
    ·cases hof
   ·(split at hof<;>(injection hof with hof;subst hof;simp[IOp.soft]at hsoft))
   ·injection hof with hof;subst hof;simp[IOp.soft]at hsoft
   ·rename_i et ht
    have fin:∀neg,bop=(if neg then .neq else .eql)→v=.nil→op=.isnil u neg→iB P e o a x.w K:=by
     intro neg hb hvn hop'
     subst hb;subst hvn;subst hop'
     have hz:a.eval z=.slice none 0 0:=by
      cases z with
      | const c=>
       by_cases hn:c=.slice none 0 0
       ·rw[hn];rfl
       ·have:Opd.of (.const c)=some (.c c):=by
         unfold Opd.of
         split<;>first|rfl|contradiction|(rename_i he;injection he with he;first|(exact absurd he hn)|(rw[he]))
        rw[this]at hv;injection hv with hv;cases hv
      | tmp k=>simp[Opd.of]at hv
      | global g=>simp[Opd.of]at hv
      | func f=>simp[Opd.of]at hv
     simp only[bO]at hk
     split at hk
     ·rename_i d hdst
      obtain⟨k1,k2⟩:=hk
      split at k2
      ·rename_i n hn
       refine Ls h d (hd d hdst) hdst hop ht (Opd.of_sv h hu k1) hz (n:=n) ?_ k2
       unfold B1 at hn
       split at hn
       ·rename_i ps he;injection hn with hn;exact .inl ⟨ps,he,hn⟩
       ·rename_i r off m he;injection hn with hn;subst hn;exact .inr (.inl ⟨r,off,he⟩)
       ·rename_i he;injection hn with hn;exact .inr (.inr ⟨he,hn.symm⟩)
       ·cases hn
      ·exact k2.elim
     ·exact hk.elim
    split at hof
    ·injection hof with hof;exact fin false rfl rfl hof.symm
    ·injection hof with hof;exact fin true rfl rfl hof.symm
    ·cases hof
   ·split at hof
    ·split at hof
     ·split at hof
      ·injection hof with hof;subst hof;simp[IOp.soft]at hsoft
      ·injection hof with hof;subst hof;simp[IOp.soft]at hsoft
      ·cases hof
     ·cases hof
    ·cases hof
   ·repeat' split at hof
    all_goals first|(cases hof;done)|(injection hof with hof;subst hof;simp[IOp.soft]at hsoft)
   ·cases hof
  ·cases hof
 | call c=>
  obtain⟨callee,args,argTypes⟩:=c
  simp only[IOp.of,hop]at hof
  split at hof
  ·split at hof
   ·split at hof
    ·injection hof with hof;subst hof;simp[IOp.soft]at hsoft
    ·injection hof with hof;subst hof;simp[IOp.soft]at hsoft
    ·injection hof with hof;subst hof;simp[IOp.soft]at hsoft
    ·cases hof
   ·cases hof
  ·split at hof
   ·split at hof
    ·injection hof with hof;subst hof;simp[IOp.soft]at hsoft
    ·cases hof
   ·cases hof
  ·split at hof
   ·split at hof
    ·injection hof with hof;subst hof;simp[IOp.soft]at hsoft
    ·cases hof
   ·cases hof
  ·split at hof
   ·rename_i y z t t2 hargs htys
    have e1:args=#[y,z]:=Array.toList_inj.1 (by simpa using hargs)
    have e2:argTypes=#[t,t2]:=Array.toList_inj.1 (by simpa using htys)
    subst e1;subst e2
    split at hof
    ·rename_i u v et et2 hu hv ht ht2
     split at hof
     ·rename_i i hi
      split at hof
      ·rename_i zv hz
       split at hof
       ·injection hof with hof
        cases hxA:(Cl owns o.dst&&i.size==1)
        case true=>rw[hxA]at hof;simp only[if_true]at hof;subst hof;simp[IOp.soft]at hsoft
        rw[hxA]at hof
        simp only[Bool.false_eq_true,if_false]at hof
        cases hsA:xN owns o.dst
        case false=>rw[hsA]at hof;cases hb:hO owns o.dst<;>simp[hb]at hof<;>subst hof<;>simp[IOp.soft]at hsoft
        case true=>
         rw[hsA]at hof
         simp only[if_true]at hof
         subst hof
         simp only[bO]at hk
         split at hk
         ·rename_i d hdst
          obtain⟨⟨k1,k2,k3,⟨_,g2,ps,g3,g4,_,_⟩,n1,n2,n3,n4⟩,k4⟩:=hk
          have ru:=Opd.of_sv h hu k1
          have rv:=Opd.of_sv h hv k2
          rw[g3]at k4 n1 n3 n4
          simp only[Option.getD_some]at k4 n1 n3 n4
          refine N2 h d (hd d hdst) hdst hop ht ht2 hi hz ru k3 rv g3 g4 n2 n1 (fun r off m he=>?_) n3 n4 k4
          rw[he]at g2
          simp only[rS]at g2
          cases hq:aL σ.st r with
          | none=>rw[hq]at g2;exact g2.elim
          | some row=>
           rw[hq]at g2
           cases row with
           | sl s'' xs'=>exact⟨xs',by rw[show s''=i.size from g2]⟩
           | _=>exact g2.elim
         ·exact hk.elim
       ·cases hof
      ·cases hof
     ·cases hof
    ·repeat' split at hof
     all_goals first|(cases hof;done)|(injection hof with hof;subst hof;simp[IOp.soft]at hsoft)
    ·cases hof
   ·cases hof
  ·repeat' split at hof
   all_goals first|(cases hof;done)|(injection hof with hof;subst hof;simp[IOp.soft]at hsoft)
  ·repeat' split at hof
   all_goals first|(cases hof;done)|(injection hof with hof;subst hof;simp[IOp.soft]at hsoft)
  ·repeat' split at hof
   all_goals first|(cases hof;done)|(injection hof with hof;subst hof;simp[IOp.soft]at hsoft)
  ·repeat' split at hof
   all_goals first|(cases hof;done)|(injection hof with hof;subst hof;simp[IOp.soft]at hsoft)
  ·rename_i f
   split at hof
   ·rename_i z zs hz hzs
    injection hof with hof
    have hb:hO owns o.dst=false:=by
     cases hb:hO owns o.dst
     ·rfl
     ·rw[hb]at hof;simp only[if_true]at hof;subst hof;simp[IOp.soft]at hsoft
    rw[hb]at hof
    simp only[Bool.false_eq_true,if_false]at hof
    subst hof
    simp only[bO]at hk
    split at hk
    ·rename_i d hdst
     obtain⟨⟨k1,k2⟩,k3⟩:=hk
     split at k3
     ·rename_i g ps pure hca
      obtain⟨v,rs,f1,f2,f3,f4⟩:=k3
      unfold cB at hca
      split at hca
      ·rename_i g' caps hg
       split at hca
       ·rename_i ps' hps
        injection hca with hca;injection hca with h1 h2;injection h2 with h2 h3
        subst h1;subst h2;subst h3
        rcases f4 with f4|f4
        ·exact N0 h d (hd d hdst) hdst hop (Opd.of_sv h hz k1) hg hzs k2 hps f1 f2 f3 f4
        ·exact Lt h d (hd d hdst) hdst hop (Opd.of_sv h hz k1) hg hzs k2 hps f1 f2 f3 _ f4
       ·cases hca
      ·cases hca
     ·exact k3.elim
    ·exact hk.elim
   ·cases hof
  ·cases hof
 | makeMap t rv=>
  cases rv with
  | some q=>
   simp only[IOp.of,hop]at hof
   split at hof
   ·rename_i z kt et hz ht
    injection hof with hof;subst hof
    simp only[bO]at hk
    split at hk
    ·rename_i d hdst
     obtain⟨⟨k1,k2⟩,k3⟩:=hk
     obtain⟨kk,hy⟩:=pX h hz k1 k2
     exact NX h d (hd d hdst) hdst hop ht hy k3
    ·exact hk.elim
   ·cases hof
  | none=>
   simp only[IOp.of,hop,Option.some.injEq]at hof
   subst hof
   simp only[bO]at hk
   split at hk
   ·rename_i d hdst
    exact PI h d (hd d hdst) hdst hop hk
   ·exact hk.elim
 | range t y=>
  simp only[IOp.of,hop]at hof
  split at hof
  ·rename_i z kt et hz ht
   injection hof with hof;subst hof
   simp only[bO]at hk
   split at hk
   ·rename_i d hdst
    obtain⟨k1,k2⟩:=hk
    have ry:=Opd.of_sv h hz k1
    unfold BV at k2
    split at k2
    ·rename_i r he
     rw[he]at ry
     split at k2
     ·rename_i es hst
      exact NU h d (hd d hdst) hdst hop ht hst ry k2.1 k2.2
     ·rename_i es ck hst
      exact Lq h d (hd d hdst) hdst hop ht hst ry k2.1 k2.2
     ·exact k2.elim
    ·exact k2.elim
   ·exact hk.elim
  ·rename_i z hz ht
   injection hof with hof;subst hof
   simp only[bO]at hk
   split at hk
   ·rename_i d hdst
    obtain⟨k1,k2⟩:=hk
    have ry:=Opd.of_sv h hz k1
    unfold BU at k2
    split at k2
    ·rename_i s he
     rw[he]at ry
     exact NT h d (hd d hdst) hdst hop ht ry k2
    ·exact k2.elim
   ·exact hk.elim
  ·cases hof
 | next y str=>
  simp only[IOp.of,hop]at hof
  split at hof
  ·injection hof with hof
   cases str<;>simp at hof<;>subst hof<;>simp[IOp.soft]at hsoft
  ·cases hof
 | _=>
  exfalso
  simp only[IOp.of,hop]at hof
  repeat' split at hof
  all_goals first
   | contradiction
   | (injection hof with hof;subst hof;simp[IOp.soft]at hsoft;done)
   | (cases hof;done)
theorem p7:∀(l:List (Nat×Row)) (r:Nat),aQ (aQ l r) r=aQ l r
 | [],_=>rfl
 | (k,v)::l,r=>by
  simp only[aQ]
  by_cases h:k=r
  ·simp only[if_pos h,p7 l r]
  ·simp only[if_neg h,aQ,p7 l r]
theorem Ci [EP e P] {op:IOp} (hof:IOp.of P owns o=some op) (hhard:op.hard=true) (hd:∀d,o.dst=some d→d<e.n) (h:SRel e σ x a) (hk:bO P σ o.dst op K):
  ∀Q,o.wp P a x.w (fun a' w'=>∃σ' y,SRel e σ' y a'∧y.w=w'∧K σ') Q:=by
 cases hop:o.op with
 | store t yp yv=>
  simp only[IOp.of,hop]at hof
  split at hof
  ·rename_i zp zv i hp hv hi
   ·injection hof with hof;subst hof
    simp only[bO]at hk
    split at hk
    ·rename_i hdst
     obtain⟨⟨k1,k2,k3⟩,k4⟩:=hk
     have rp:=Opd.of_sv h hp k1
     have rv:=Opd.of_sv h hv k2
     unfold Kb at k3
     unfold Ka at k4
     split at k3
     ·rename_i r off he
      rw[he]at rp
      rw[he]at k4
      simp only at k4
      split at k3
      ·rename_i cs hr
       rw[hr]at k4
       exact Js h hdst hop hi rp rv hr k3.1 k3.2.1 k3.2.2.1 k3.2.2.2 k4
      ·exact k3.elim
     ·rename_i r k off he
      rw[he]at rp
      rw[he]at k4
      simp only at k4
      split at k3
      ·rename_i s xs hr
       obtain⟨hpos,g1,g2,⟨ps,g3,g4⟩,g5,g6⟩:=k3
       rw[hr]at k4
       have e1:vU (zv.sv σ).cells=ps:=by unfold vU;rw[g3]
       simp only[e1]at k4
       exact Lp h hdst hop hi rp rv hr g1 g2 hpos g3 (jH g4) g5 g6 k4
      ·rename_i cs hr
       obtain⟨g1,g2,g3,g4,g5,g6⟩:=k3
       subst g5
       rw[hr]at k4
       exact Jr h hdst hop hi rp rv hr g1 g2 g3 g4 g6 k4
      ·exact k3.elim
     ·exact k3.elim
    ·exact hk.elim
  ·cases hof
 | mapUpdate t m k v=>
  simp only[IOp.of,hop]at hof
  split at hof
  ·rename_i a' b' c' str et ha hb hc hmap
   injection hof with hof;subst hof
   obtain⟨kt,g1,g2⟩:=l5 hmap
   simp only[bO]at hk
   split at hk
   ·rename_i hdst
    obtain⟨⟨k1,k2,k3⟩,k4⟩:=hk
    have ra:=Opd.of_sv h ha k1
    have rb:=Opd.of_sv h hb k2
    have rc:=Opd.of_sv h hc k3
    unfold Er at k4
    split at k4
    ·rename_i r key val e1 e2 e3
     rw[e1]at ra;rw[e2]at rb;rw[e3]at rc
     split at k4
     ·rename_i es hst
      exact Iy h hdst (.inl hop) g1 g2 hst ra rb rc k4.1 k4.2.1 k4.2.2
     ·rename_i es ck hst
      exact FZ h hdst (.inl hop) g1 g2 hst ra rb rc k4.1 k4.2.1 k4.2.2
     ·exact k4.elim
    ·rename_i r key e1 e2 _
     rw[e1]at ra;rw[e2]at rb
     split at k4
     ·rename_i hst
      have hrow:=h.st r _ (aH hst)
      simp only[Row.rel]at hrow
      obtain⟨hok,ents,clock,hh,hlen,hents,hclk,hborn⟩:=hrow
      exact xM (ks:=[]) (vs:=[]) h hdst (.inl hop) g1 g2 hst hok hh hlen rfl (fun i k v e hk=>by simp at hk) hclk hborn ra rb rc k4.1 trivial rfl k4.2
     ·rename_i ks ws hst
      have hrow:=h.st r _ (aH hst)
      simp only[Row.rel]at hrow
      obtain⟨hok,ents,clock,hh,hlen,hlv,hents,hclk,hborn⟩:=hrow
      exact xM h hdst (.inl hop) g1 g2 hst hok hh hlen hlv hents hclk hborn ra rb rc k4.1.1 k4.1.2 k4.2.1 k4.2.2
     ·exact k4.elim
    ·exact k4.elim
   ·exact hk.elim
  ·cases hof
 | insert t m k v=>
  simp only[IOp.of,hop]at hof
  split at hof
  ·rename_i a' b' c' str et ha hb hc hmap
   injection hof with hof;subst hof
   obtain⟨kt,g1,g2⟩:=l5 hmap
   simp only[bO]at hk
   split at hk
   ·rename_i hdst
    obtain⟨⟨k1,k2,k3⟩,k4⟩:=hk
    have ra:=Opd.of_sv h ha k1
    have rb:=Opd.of_sv h hb k2
    have rc:=Opd.of_sv h hc k3
    unfold Er at k4
    split at k4
    ·rename_i r key val e1 e2 e3
     rw[e1]at ra;rw[e2]at rb;rw[e3]at rc
     split at k4
     ·rename_i es hst
      exact Iy h hdst (.inr hop) g1 g2 hst ra rb rc k4.1 k4.2.1 k4.2.2
     ·rename_i es ck hst
      exact FZ h hdst (.inr hop) g1 g2 hst ra rb rc k4.1 k4.2.1 k4.2.2
     ·exact k4.elim
    ·rename_i r key e1 e2 _
     rw[e1]at ra;rw[e2]at rb
     split at k4
     ·rename_i hst
      have hrow:=h.st r _ (aH hst)
      simp only[Row.rel]at hrow
      obtain⟨hok,ents,clock,hh,hlen,hents,hclk,hborn⟩:=hrow
      exact xM (ks:=[]) (vs:=[]) h hdst (.inr hop) g1 g2 hst hok hh hlen rfl (fun i k v e hk=>by simp at hk) hclk hborn ra rb rc k4.1 trivial rfl k4.2
     ·rename_i ks ws hst
      have hrow:=h.st r _ (aH hst)
      simp only[Row.rel]at hrow
      obtain⟨hok,ents,clock,hh,hlen,hlv,hents,hclk,hborn⟩:=hrow
      exact xM h hdst (.inr hop) g1 g2 hst hok hh hlen hlv hents hclk hborn ra rb rc k4.1.1 k4.1.2 k4.2.1 k4.2.2
     ·exact k4.elim
    ·exact k4.elim
   ·exact hk.elim
  ·cases hof
 | call c=>
  obtain⟨callee,args,argTypes⟩:=c
  simp only[IOp.of,hop]at hof
  split at hof
  ·split at hof
   ·split at hof
    ·injection hof with hof;subst hof;simp[IOp.hard]at hhard
    ·injection hof with hof;subst hof;simp[IOp.hard]at hhard
    ·injection hof with hof;subst hof;simp[IOp.hard]at hhard
    ·cases hof
   ·cases hof
  ·split at hof
   ·split at hof
    ·injection hof with hof;subst hof;simp[IOp.hard]at hhard
    ·cases hof
   ·cases hof
  ·split at hof
   ·split at hof
    ·injection hof with hof;subst hof;simp[IOp.hard]at hhard
    ·cases hof
   ·cases hof
  ·split at hof
   ·rename_i y z t t2 hargs htys
    have e1:args=#[y,z]:=Array.toList_inj.1 (by simpa using hargs)
    have e2:argTypes=#[t,t2]:=Array.toList_inj.1 (by simpa using htys)
    subst e1;subst e2
    split at hof
    ·rename_i u v et et2 hu hv ht ht2
     split at hof
     ·rename_i i hi
      split at hof
      ·rename_i zv hz
       split at hof
       ·rename_i hzs'
        obtain⟨hzs,hzo'⟩:=hzs'
        have hzo:∀c∈zv.cells.toList,c.oneCell'=true:=(nD x.w x.F zv).ones (jH hzo')
        injection hof with hof
        cases hxA:(Cl owns o.dst&&i.size==1)
        case true=>
         rw[hxA]at hof
         simp only[if_true]at hof
         subst hof
         simp only[bO]at hk
         split at hk
         ·rename_i d hdst
          obtain⟨⟨k1,k2,g1,g2,g3,g4⟩,k4⟩:=hk
          have ru:=Opd.of_sv h hu k1
          have rv:=Opd.of_sv h hv k2
          have hs1:i.size=1:=by simp only[Bool.and_eq_true,beq_iff_eq]at hxA;exact hxA.2
          unfold B8 at k4
          split at g1
          ·rename_i w he
           rw[he]at rv k4
           have w1:∀cs,w≠.agg cs:=fun cs e=>by subst e;simp[AV.one]at g1
           have w2:∀cs,w≠.pv (.agg cs):=fun cs e=>by subst e;simp[AV.one,PV.one]at g1
           split at g2
           ·rename_i he2
            rw[he2]at k4 g3 g4 ru
            refine IA h d (hd d hdst) hdst hop ht ht2 hi hz hzs hs1 (r:=d) (n:=0) (olds:=[]) ru rv g1 w1 w2 (.inl ⟨rfl,rfl,rfl⟩) g3 g4 (Nat.lt_of_lt_of_le (hd d hdst) (Nat.le_trans h.small (by omega))) ?_
            simpa only[mF,t7,lD,Fl]using k4
           ·rename_i r off n he2
            rw[he2]at k4 g3 g4 ru
            obtain⟨g2,g5⟩:=g2
            split at g2
            ·rename_i cs hcs
             obtain⟨rfl,hn,hn0⟩:=g2
             refine IA h d (hd d hdst) hdst hop ht ht2 hi hz hzs hs1 (r:=r) (n:=n) (olds:=cs) ru rv g1 w1 w2 (.inr ⟨rfl,hcs,hn,hn0⟩) g3 g4 g5 ?_
             simpa only[mF,t7,lD,Fl,hcs]using k4
            ·exact g2.elim
           ·exact g2.elim
          ·exact g1.elim
         ·exact hk.elim
        rw[hxA]at hof
        simp only[Bool.false_eq_true,if_false]at hof
        cases hsA:xN owns o.dst
        case true=>rw[hsA]at hof;simp only[if_true]at hof;subst hof;simp[IOp.hard]at hhard
        rw[hsA]at hof
        simp only[Bool.false_eq_true,if_false]at hof
        have rowIs_xs:∀{r s:Nat},rS s (aL σ.st r)→∃xs,aL σ.st r=some (.sl s xs):=fun {r s} hr=>by
         unfold rS at hr
         split at hr
         ·rename_i s' xs he;exact⟨xs,by rw[he,hr]⟩
         ·exact hr.elim
        have main:∀{K:St→Prop} (d:Nat),o.dst=some d→aB x (u.sv σ) (a.eval y)→aB x (v.sv σ) (a.eval z)→tD σ i.size i.bytes (u.sv σ) (v.sv σ)→K (v8 σ d i.size (u.sv σ) (v.sv σ))→
          ∀Q,o.wp P a x.w (fun a' w'=>∃σ' y,SRel e σ' y a'∧y.w=w'∧K σ') Q:=fun {K} d hdst ru rv ⟨g1,g2,ps,g3,g4,g5,g6⟩ k4=>by
         unfold v8 at k4
         rw[g3]at k4
         simp only[Option.getD_some]at k4
         have hrow:∀r off m,v.sv σ=.row r off m→∃xs,aL σ.st r=some (.sl i.size xs):=fun r off m he=>by
          rw[he]at g2
          exact rowIs_xs g2
         split at g1
         ·rename_i he
          rw[he]at k4 g5 g6 ru
          refine Mg h d (hd d hdst) hdst hop ht ht2 hi hz hzs hzo (r:=d) (off:=0) (n:=0) (olds:=[]) ru rv g3 g4 hrow (.inl ⟨rfl,rfl,rfl⟩) g5 g6 (Nat.lt_of_lt_of_le (hd d hdst) (Nat.le_trans h.small (by omega))) ?_
          simpa only[mF,Ca,lD]using k4
         ·rename_i r off n he
          rw[he]at k4 g5 g6 ru
          obtain⟨xs,hxs⟩:=rowIs_xs g1.1
          refine Mg h d (hd d hdst) hdst hop ht ht2 hi hz hzs hzo (r:=r) (off:=off) (n:=n) (olds:=(xs.drop off).take n) ru rv g3 g4 hrow (.inr ⟨rfl,xs,hxs,rfl⟩) g5 g6 g1.2 ?_
          simpa only[mF,Ca,lD,hxs,HZ]using k4
         ·exact g1.elim
        have mainz:∀(d r:Nat),o.dst=some d→aB x (u.sv σ) (a.eval y)→aB x (v.sv σ) (a.eval z)→tD σ i.size i.bytes (u.sv σ) (v.sv σ)→K ((v8 σ d i.size (u.sv σ) (v.sv σ)).frz1 r)→
          ∀Q,o.wp P a x.w (fun a' w'=>∃σ' y,SRel e σ' y a'∧y.w=w'∧K σ') Q:=fun d r hdst ru rv g k4 Q=>by
         refine Oper.wp_mono (fun a' w' ⟨σ',y,g1,g2,g3⟩=>?_) (main (K:=fun σ'=>K (σ'.frz1 r)) d hdst ru rv g k4 Q)
         obtain⟨z,q1,q2⟩:=g1.frz1 r
         exact⟨_,z,q2,q1.trans g2,g3⟩
        cases hb:hO owns o.dst
        case true=>
         rw[hb]at hof
         simp only[if_true]at hof
         subst hof
         simp only[bO]at hk
         split at hk
         ·rename_i d hdst
          obtain⟨⟨k1,k2⟩,k3⟩:=hk
          have ru:=Opd.of_sv h hu k1
          have rv:=Opd.of_sv h hv k2
          unfold B9 at k3
          split at k3
          ·rename_i r off n he
           rw[he]at ru
           split at k3
           ·rename_i s' xs hr
            split at k3
            rotate_left
            ·rw[←he]at k3 ru
             exact mainz d r hdst ru rv k3.1 k3.2
            obtain⟨rfl,g1,g2,ps,g3,g4,g5,g6⟩:=k3
            refine N3 h d (hd d hdst) hdst hop ht ht2 hi ru rv g3 g4 (fun q off' m he'=>?_) hr (by omega) g5 g1 g6
            rw[he']at g2
            simp only[rS]at g2
            cases hq:aL σ.st q with
            | none=>rw[hq]at g2;exact g2.elim
            | some row=>
             rw[hq]at g2
             cases row with
             | sl s'' xs'=>exact⟨xs',by rw[show s''=i.size from g2]⟩
             | _=>exact g2.elim
           ·rename_i s' xs hr
            obtain⟨rfl,g1,g2,ps,g3,g4,g5,g7,g8,g6⟩:=k3
            refine N4 h d (hd d hdst) hdst hop ht ht2 hi hz hzs hzo ru rv g3 g4 (fun q off' m he'=>?_) hr g1 g5 g7 g8 g6
            rw[he']at g2
            simp only[rS]at g2
            cases hq:aL σ.st q with
            | none=>rw[hq]at g2;exact g2.elim
            | some row=>
             rw[hq]at g2
             cases row with
             | sl s'' xs'=>exact⟨xs',by rw[show s''=i.size from g2]⟩
             | _=>exact g2.elim
           ·exact k3.elim
          ·rename_i he
           rw[←he]at k3
           exact mainz d d hdst ru rv k3.1 k3.2
          ·exact k3.elim
         ·exact hk.elim
        rw[hb]at hof
        simp only[Bool.false_eq_true,if_false]at hof
        subst hof
        simp only[bO]at hk
        split at hk
        ·rename_i d hdst
         obtain⟨⟨k1,k2,g⟩,k4⟩:=hk
         exact main d hdst (Opd.of_sv h hu k1) (Opd.of_sv h hv k2) g k4
        ·exact hk.elim
       ·cases hof
      ·cases hof
     ·cases hof
    ·rename_i u v et k2 hu hv ht ht2
     split at hof
     ·rename_i i hi
      split at hof
      ·rename_i zv hz
       split at hof
       ·rename_i hzs'
        obtain⟨hzs,hz0,hzo'⟩:=hzs'
        have hzo:∀c∈zv.cells.toList,c.oneCell'=true:=(nD x.w x.F zv).ones (jH hzo')
        injection hof with hof;subst hof
        simp only[bO]at hk
        split at hk
        ·rename_i d hdst
         obtain⟨⟨k1,k2⟩,k3⟩:=hk
         have ru:=Opd.of_sv h hu k1
         have rv:=Opd.of_sv h hv k2
         unfold B7 at k3
         split at k3
         ·rename_i r off n kk m he he2
          rw[he]at ru
          rw[he2]at rv
          split at k3
          ·rename_i s' xs hr
           obtain⟨rfl,g0,g1,g5,g7,g8,g6⟩:=k3
           exact N1 h d (hd d hdst) hdst hop ht ht2 hi hz hzs hzo hz0 (fun w F=>nD w F zv) (jH hzo') ru (by simpa only[aB,aG]using rv) g0 hr g1 g5 g7 g8 g6
          ·exact k3.elim
         ·exact k3.elim
        ·exact hk.elim
       ·cases hof
      ·cases hof
     ·cases hof
    ·cases hof
   ·cases hof
  ·split at hof
   ·rename_i y z t t2 hargs htys
    have e1:args=#[y,z]:=Array.toList_inj.1 (by simpa using hargs)
    have e2:argTypes=#[t,t2]:=Array.toList_inj.1 (by simpa using htys)
    subst e1;subst e2
    split at hof
    ·rename_i u v kk et hu hv hmap
     injection hof with hof;subst hof
     obtain⟨kt,g1,g2⟩:=l5 hmap
     simp only[bO]at hk
     split at hk
     ·rename_i hdst
      obtain⟨⟨k1,k2⟩,k3⟩:=hk
      have ru:=Opd.of_sv h hu k1
      have rv:=Opd.of_sv h hv k2
      unfold B2 at k3
      split at k3
      ·rename_i r key e1 e2
       rw[e1]at ru;rw[e2]at rv
       split at k3
       ·rename_i es ck hst
        exact NY h hdst hop g1 g2 hst ru rv k3.1 k3.2.1 k3.2.2
       ·exact k3.elim
      ·exact k3.elim
     ·exact hk.elim
    ·cases hof
   ·cases hof
  ·split at hof
   ·rename_i y t hargs htys
    have e1:args=#[y]:=Array.toList_inj.1 (by simpa using hargs)
    have e2:argTypes=#[t]:=Array.toList_inj.1 (by simpa using htys)
    subst e1;subst e2
    split at hof
    ·rename_i u et hu ht
     split at hof
     ·rename_i i hi
      split at hof
      ·rename_i zv hz
       split at hof
       ·rename_i hcond
        obtain⟨hzs,hpos,hone⟩:=hcond
        injection hof with hof;subst hof
        simp only[bO]at hk
        split at hk
        ·rename_i hdst
         obtain⟨k1,k2⟩:=hk
         have ru:=Opd.of_sv h hu k1
         unfold Fz at k2
         split at k2
         ·rename_i r off n he
          rw[he]at ru
          split at k2
          ·rename_i s' xs hr
           obtain⟨rfl,g1,g2,g3⟩:=k2
           have hpz:=nD x.w x.F zv
           exact PJ h hdst hop ht hi hz ru hr g1 g2 hpz ⟨by have:=hpz.length;rw[←this];simpa using hzs,jH hone⟩ g3
          ·exact k2.elim
         ·exact k2.elim
        ·exact hk.elim
       ·cases hof
      ·cases hof
     ·cases hof
    ·cases hof
   ·cases hof
  ·split at hof
   ·rename_i y t hargs htys
    have e1:args=#[y]:=Array.toList_inj.1 (by simpa using hargs)
    have e2:argTypes=#[t]:=Array.toList_inj.1 (by simpa using htys)
    subst e1;subst e2
    split at hof
    ·rename_i u et hu ht
     injection hof with hof;subst hof
     simp only[bO]at hk
     split at hk
     ·rename_i d hdst
      obtain⟨k1,k2⟩:=hk
      have ru:=Opd.of_sv h hu k1
      unfold B6 at k2
      split at k2
      ·rename_i r off n he
       rw[he]at ru
       split at k2
       ·rename_i s xs hr
        obtain⟨rfl,g1,g2⟩:=k2
        exact PK h d (hd d hdst) hdst hop ht ru hr g1 g2
       ·exact k2.elim
      ·exact k2.elim
     ·exact hk.elim
    ·cases hof
   ·cases hof
  ·split at hof
   ·rename_i y z t t2 hargs htys
    have e1:args=#[y,z]:=Array.toList_inj.1 (by simpa using hargs)
    have e2:argTypes=#[t,t2]:=Array.toList_inj.1 (by simpa using htys)
    subst e1;subst e2
    split at hof
    ·rename_i u v et hu hv ht
     split at hof
     ·rename_i i hi
      injection hof with hof;subst hof
      simp only[bO]at hk
      split at hk
      ·rename_i d hdst
       obtain⟨⟨k1,k2⟩,k3⟩:=hk
       have ru:=Opd.of_sv h hu k1
       have rv:=Opd.of_sv h hv k2
       have src:∀{ps:List PV} {N n:Nat},(match v.sv σ with
         | .row q _ _=>CI (aL σ.st q)=some i.size
         | _=>True)→C5 σ (v.sv σ)=some ps→cY i.size ps→0<N→Nat.min ps.length n=N→
         ∃news,(∀w',w'.heap=x.w.heap→(Builtin.firstCells i.size N (a.eval z)).run P w'=.ok news.toArray w')∧(∀w',(Builtin.lenOf (a.eval z)).run P w'=.ok ps.length w')∧aE x.w x.F (flat (ps.take N)) news:=by
        intro ps N n g1 g2 g3 g4 g5
        refine Oo h rv g2 g3 (fun q off m he=>?_) (by rw[←g5];exact Nat.min_le_left _ _) g4
        rw[he]at g1
        exact g1
       unfold Fw at k3
       split at k3
       ·rename_i r off n he
        rw[he]at ru
        split at k3
        ·rename_i s' xs hr
         obtain⟨rfl,g0,g1,ps,N,g2,g3,g4,g5,g6⟩:=k3
         obtain⟨news,n1,n2,n3⟩:=src g1 g2 g3 g4 g5
         exact Mf h d (hd d hdst) hdst hop ht hi g5 ru n1 n2 (by rw[List.length_take,←g5];have:=Nat.min_le_left ps.length n;exact Nat.min_eq_left this) n3 g3.take hr g0 g6
        ·rename_i s' xs hr
         obtain⟨rfl,g0,g1,ps,N,g2,g3,g4,g5,g6⟩:=k3
         obtain⟨news,n1,n2,n3⟩:=src g1 g2 g3 g4 g5
         refine Mf (h.weakF hr) d (hd d hdst) hdst hop ht hi g5 ru n1 n2 (by rw[List.length_take,←g5];have:=Nat.min_le_left ps.length n;exact Nat.min_eq_left this) n3 g3.take (xs:=xs) (by simp[aL]) g0 ?_
         have e1:aQ ((r,Row.sl i.size xs)::aQ σ.st r) r=aQ σ.st r:=by
          simp only[aQ,if_true]
          exact p7 _ _
         rw[e1]
         exact g6
        ·exact k3.elim
       ·exact k3.elim
      ·exact hk.elim
     ·cases hof
    ·cases hof
   ·cases hof
  ·rename_i f
   split at hof
   ·rename_i z zs hz hzs
    injection hof with hof
    have hb:hO owns o.dst=true:=by
     cases hb:hO owns o.dst
     ·rw[hb]at hof;simp only[Bool.false_eq_true,if_false]at hof;subst hof;simp[IOp.hard]at hhard
     ·rfl
    rw[hb]at hof
    simp only[if_true]at hof
    subst hof
    simp only[bO]at hk
    split at hk
    ·rename_i d hdst
     obtain⟨⟨k1,k2⟩,k3⟩:=hk
     split at k3
     ·rename_i g caps hg
      rcases k3 with k3|⟨v,f1,f2⟩
      case inr=>exact Lu h d (hd d hdst) hdst hop (Opd.of_sv h hz k1) hg hzs k2 f1 f2
      obtain⟨m,as,st,st',v,f1,f2,f3,f4,f5,f6,f7,f8⟩:=k3
      exact Lv h d (hd d hdst) hdst hop (Opd.of_sv h hz k1) hg hzs k2 f1 f2 f3 f4 f5 f6 f7 f8
     ·split at k3
      ·rename_i g first hg
       obtain⟨m,as,st,st',v,f1,f2,f3,f4,f5,f6,f7,f8⟩:=k3
       exact Jt h d (hd d hdst) hdst hop (Opd.of_sv h hz k1) hg hzs k2 f1 f2 f3 f4 f5 f6 f7 f8
      ·exact k3.elim
    ·exact hk.elim
   ·cases hof
  ·cases hof
 | next y str=>
  simp only[IOp.of,hop]at hof
  split at hof
  ·rename_i z hz
   injection hof with hof
   cases str
   ·simp only[Bool.false_eq_true,if_false]at hof
    subst hof
    simp only[bO]at hk
    split at hk
    ·rename_i d hdst
     obtain⟨k1,k2⟩:=hk
     have ry:=Opd.of_sv h hz k1
     unfold B0 at k2
     split at k2
     ·rename_i r he
      rw[he]at ry
      split at k2
      ·rename_i m n rem cur hst
       split at k2
       ·rename_i es hsm
        exact NW h d (hd d hdst) hdst hop hst hsm k2.1 ry k2.2.1 k2.2.2
       ·exact k2.elim
      ·rename_i m n bs rem cur hst
       split at k2
       ·rename_i es ck hsm
        exact Lr h d (hd d hdst) hdst hop hst hsm k2.1 ry k2.2.1 k2.2.2
       ·exact k2.elim
      ·exact k2.elim
     ·exact k2.elim
    ·exact hk.elim
   ·simp only[if_true]at hof
    subst hof
    simp only[bO]at hk
    split at hk
    ·rename_i d hdst
     obtain⟨k1,k2⟩:=hk
     have ry:=Opd.of_sv h hz k1
     unfold BZ at k2
     split at k2
     ·rename_i r he
      rw[he]at ry
      split at k2
      ·rename_i s pos hst
       exact NV h d (hd d hdst) hdst hop hst ry k2.1 k2.2
      ·exact k2.elim
     ·exact k2.elim
    ·exact hk.elim
  ·cases hof
 | _=>
  exfalso
  simp only[IOp.of,hop]at hof
  repeat' split at hof
  all_goals first
   | contradiction
   | (injection hof with hof;subst hof;simp[IOp.hard]at hhard;done)
   | (injection hof with hof;cases hb:hO owns o.dst<;>simp[hb]at hof<;>subst hof<;>simp[IOp.hard]at hhard;done)
   | (cases hof;done)
end
end Go.Vc

namespace Go.Vc
open Go.RowKit
set_option linter.constructorNameAsVariable false
def MQ (ops:Array Oper):Option (Nat×Bool)→Option (Option (Nat×Bool))
 | none=>some none
 | some (j,b)=>match ops[j]? with
  | some oj=>match oj.dst with
   | some t=>some (some (t,b))
   | none=>none
  | none=>none
def MO (n:Nat):Option Nat→Bool
 | none=>true
 | some d=>decide (d<n)
def eT (P:Program) (owns:List Nat) (n:Nat) (ops:Array Oper) (o:Oper):Option Inst:=
 match IOp.of P owns o,MQ ops o.guard with
 | some op,some g=>if MO n o.dst then some ⟨o.dst,g,op⟩else none
 | _,_=>none
section
variable {P:Program} {e:Env} {σ:St} {x:Cx} {a:Act} {o:Oper} {owns:List Nat} {K:St→Prop} {ops:Array Oper}
theorem fW {i:Inst} (h:eT P owns e.n ops o=some i):IOp.of P owns o=some i.op∧MQ ops o.guard=some i.g∧i.d=o.dst∧∀d,o.dst=some d→d<e.n:=by
 unfold eT at h
 split at h
 ·rename_i op g h1 h2
  split at h
  ·rename_i hd
   injection h with h;subst h
   refine⟨h1,h2,rfl,fun d hdst=>?_⟩
   rw[hdst]at hd
   simpa[MO]using hd
  ·cases h
 ·cases h
theorem Hi (h:SRel e σ x a) {t:Nat} (hk:bC σ.fr t≠.un):∃cv,a.tmps[t]?=some cv∧aB x (bC σ.fr t) cv:=by
 rcases vH (l:=σ.fr) (k:=t)with h1|h1
 ·exact absurd h1 hk
 ·exact h.fr _ _ h1
def R8:Value→Option Bool
 | .bool b=>some b
 | _=>none
theorem fG (hg:o.guard=none) (y:Nat→Option Bool):Region.wanted o y=true:=by simp[Region.wanted,hg]
theorem jC (h:SRel e σ x a) {t:Nat} {b:Bool} (hg:MQ ops o.guard=some (some (t,b))) (hok:(bC σ.fr t).gok):Region.wanted o (yielded ops a.tmps)=(bC σ.fr t).gv b:=by
 cases hgd:o.guard with
 | none=>rw[hgd]at hg;simp[MQ]at hg
 | some jb=>
  obtain⟨j,b'⟩:=jb
  rw[hgd]at hg
  simp only[MQ]at hg
  split at hg
  ·rename_i oj hj
   split at hg
   ·rename_i t' ht
    injection hg with hg;injection hg with hg;injection hg with h1 h2
    subst h1;subst h2
    have hne:bC σ.fr t'≠.un:=fun hu=>by rw[hu]at hok;exact hok
    obtain⟨cv,h1,h2⟩:=Hi h hne
    have hy:yielded ops a.tmps j=R8 cv:=by
     unfold yielded
     simp only[hj,Option.bind_some,ht,h1]
     cases cv<;>rfl
    unfold Region.wanted
    rw[hgd]
    simp only[hy]
    unfold AV.gok at hok
    split at hok
    ·rename_i c he
     rw[he]at h2
     simp only[aB,aG]at h2
     subst h2
     simp only[he,AV.gv]
     cases c<;>cases b'<;>rfl
    ·rename_i c' v he
     rw[he]at h2
     simp only[aB]at h2
     simp only[he,AV.gv]
     cases c' with
     | false=>rw[h2.2 rfl];simp[undef,R8]
     | true=>
      have hv:=h2.1 rfl
      have hb:v.isB:=hok.resolve_left (by simp)
      unfold AV.isB at hb
      split at hb
      ·rename_i c
       simp only[aB,aG]at hv
       rw[hv]
       cases c<;>cases b'<;>rfl
      ·exact hb.elim
    ·exact hok.elim
   ·cases hg
  ·cases hg
theorem SRel.whn {d:Nat} {v:AV} {c:Bool} (h:SRel e (σ.put d v) x a) (hc:c=true):SRel e (σ.put d (.whn c v)) x a:=
 {h with
  fr:=fun k u hm=>by
   simp only[St.put,gB]at hm
   rcases List.mem_cons.1 hm with hm|hm
   ·injection hm with h1 h2
    subst h1;subst h2
    obtain⟨cv,g1,g2⟩:=h.fr k v (by simp[St.put,gB])
    exact⟨cv,g1,by simp only[aB];exact⟨fun _=>g2,fun hf=>by rw[hc]at hf;cases hf⟩⟩
   ·exact h.fr k u (by simp only[St.put,gB];exact List.mem_cons_of_mem _ hm) }
theorem SRel.skip (h:SRel e σ x a) {d:Nat} (hd:d<e.n) {v:AV} {c:Bool} (hc:c=false):SRel e (σ.put d (.whn c v)) x (a.put (some d) undef):=
 h.put hd (by unfold aB;exact⟨fun ht=>(by rw[hc]at ht;cases ht),fun _=>rfl⟩)
theorem jO {g:Option (Nat×Bool)} (h2:MQ ops g=some none):g=none:=by
 cases g with
 | none=>rfl
 | some jb=>
  obtain⟨j,b⟩:=jb
  simp only[MQ]at h2
  repeat' split at h2
  all_goals cases h2
theorem lL {i:Inst} {is:List Inst} (hi:eT P owns e.n ops o=some i) (hq:i.op.quiet=true) (h:SRel e σ x a) (hk:aX P (i::is) σ K):
  ∃cv σ',YieldsIf P ops (Agr x.w) o cv a∧SRel e σ' x (a.put o.dst cv)∧aX P is σ' K:=by
 obtain⟨h1,h2,h3,h4⟩:=fW hi
 obtain⟨d,g,op⟩:=i
 simp only at h1 h2 h3 hq
 subst h3
 cases op with
 | q q=>
  cases g with
  | none=>
   simp only[aX,bO]at hk
   split at hk
   ·rename_i d hdst
    obtain⟨cv,k1,k2⟩:=M0 h1 h hk.1
    have hg:o.guard=none:=jO h2
    rw[hdst]
    exact⟨cv,_,.inl ⟨fG hg _,fun w hw=>k2 w hw⟩,h.put (h4 d hdst) k1,hk.2⟩
   ·exact hk.elim
  | some tb=>
   obtain⟨t,b⟩:=tb
   simp only[aX,sX]at hk
   split at hk
   ·rename_i d hdst
    obtain⟨g1,g2,g3⟩:=hk
    have hw:=jC h h2 g1
    rw[hdst]
    cases hb:(bC σ.fr t).gv b
    ·rw[hb]at hw g3
     exact⟨undef,_,.inr ⟨hw,rfl⟩,h.skip (h4 d hdst) rfl,g3⟩
    ·rw[hb]at hw g3
     obtain⟨cv,k1,k2⟩:=M0 h1 h (g2 hb)
     exact⟨cv,_,.inl ⟨hw,fun w hw=>k2 w hw⟩,(h.put (h4 d hdst) k1).whn rfl,g3⟩
   ·exact hk.elim
 | _=>simp[IOp.quiet]at hq
def gK (P:Program) (e:Env) (is:List Inst) (K:St→Prop) (a:Act) (w:World):Prop:=∃σ' y,SRel e σ' y a∧y.w=w∧aX P is σ' K
theorem vE [EP e P] {i:Inst} {is:List Inst} (hi:eT P owns e.n ops o=some i) (hs:i.op.soft=true) (h:SRel e σ x a) (hk:aX P (i::is) σ K) (Q:Exit→Act→World→Prop):
  if Region.wanted o (yielded ops a.tmps)then o.wp P a x.w (fun a' w'=>Agr x.w w'∧gK P e is K a' w') Q else Agr x.w x.w∧gK P e is K (a.put o.dst undef) x.w:=by
 obtain⟨h1,h2,h3,h4⟩:=fW hi
 obtain⟨d,g,op⟩:=i
 simp only at h1 h2 h3 hs
 subst h3
 cases g with
 | none=>
  rw[if_pos (fG (jO h2) _)]
  simp only[aX]at hk
  exact Oper.wp_mono (fun a' w' ⟨σ',y,g1,g2,g3,g4⟩=>⟨g4,σ',y,g1,g2,g3⟩) (xJ h1 hs h4 h hk Q)
 | some tb=>
  obtain⟨t,b⟩:=tb
  simp only[aX]at hk
  cases op with
  | lits xs s=>
   simp only[sX]at hk
   split at hk
   ·rename_i d hdst
    obtain⟨g1,g2,g3⟩:=hk
    have hw:=jC h h2 g1
    cases hb:(bC σ.fr t).gv b
    ·rw[hw,hb,if_neg (by simp),hdst]
     rw[hb]at g3
     exact⟨Agr.refl _,_,x,h.skip (h4 d hdst) rfl,rfl,g3⟩
    ·rw[hw,hb,if_pos rfl]
     rw[hb]at g3
     have hv:bO P σ o.dst (.lits xs s) (fun σ'=>σ'=σ.put d (oP (eD σ xs))):=by
      simp only[bO,hdst]
      exact⟨g2 hb,trivial⟩
     exact Oper.wp_mono (fun a' w' ⟨σ',y,k1,k2,k3,k4⟩=>⟨k4,_,y,by rw[k3]at k1;exact k1.whn rfl,k2,g3⟩) (xJ h1 rfl h4 h hv Q)
   ·exact hk.elim
  | call f args=>
   simp only[sX]at hk
   split at hk
   ·rename_i d hdst
    obtain⟨g1,g2,g3⟩:=hk
    have hw:=jC h h2 g1
    split at g3
    ·rename_i gg ps pure hca
     obtain⟨p,f1,f2⟩:=g3
     cases hb:(bC σ.fr t).gv b
     ·rw[hw,hb,if_neg (by simp),hdst]
      rw[hb]at f2
      exact⟨Agr.refl _,_,x,h.skip (h4 d hdst) rfl,rfl,f2⟩
     ·rw[hw,hb,if_pos rfl]
      rw[hb]at f2
      have hv:bO P σ o.dst (.call f args) (fun σ'=>σ'=σ.put d (.pv p)):=by
       simp only[bO,hdst,hca]
       exact⟨g2 hb,.pv p,[],(f1 hb).1,(f1 hb).2.imp id (fun hf=>⟨hf,trivial⟩),trivial,.inl rfl⟩
      exact Oper.wp_mono (fun a' w' ⟨σ',y,k1,k2,k3,k4⟩=>⟨k4,_,y,by rw[k3]at k1;exact k1.whn rfl,k2,f2⟩) (xJ h1 rfl h4 h hv Q)
    ·exact g3.elim
   ·exact hk.elim
  | q q=>simp[IOp.soft]at hs
  | calls f args=>simp[IOp.soft]at hs
  | _=>
   simp only[sX]at hk
   obtain⟨g1,g2,g3⟩:=hk
   rw[jC h h2 g1,g2,if_pos rfl]
   exact Oper.wp_mono (fun a' w' ⟨σ',y,g1,g2,g3,g4⟩=>⟨g4,σ',y,g1,g2,g3⟩) (xJ h1 hs h4 h g3 Q)
theorem vF [EP e P] {i:Inst} {is:List Inst} (hi:eT P owns e.n ops o=some i) (hh:i.op.hard=true) (h:SRel e σ x a) (hk:aX P (i::is) σ K) (Q:Exit→Act→World→Prop):
  if Region.wanted o (yielded ops a.tmps)then o.wp P a x.w (gK P e is K) Q else gK P e is K (a.put o.dst undef) x.w:=by
 obtain⟨h1,h2,h3,h4⟩:=fW hi
 obtain⟨d,g,op⟩:=i
 simp only at h1 h2 h3 hh
 subst h3
 cases g with
 | none=>
  simp only[aX]at hk
  rw[fG (jO h2) _,if_pos rfl]
  exact Ci h1 hh h4 h hk Q
 | some tb=>
  obtain⟨t,b⟩:=tb
  simp only[aX]at hk
  cases op with
  | q _=>simp[IOp.hard]at hh
  | lits _ _=>simp[IOp.hard]at hh
  | call _ _=>simp[IOp.hard]at hh
  | calls f args=>
   simp only[sX]at hk
   obtain⟨g1,g2,g3⟩:=hk
   rw[jC h h2 g1]
   cases hb:(bC σ.fr t).gv b
   ·have:=g3 hb
    split at this
    ·rename_i d hdst
     rw[if_neg (by simp),hdst]
     exact⟨_,x,h.skip (h4 d hdst) rfl,rfl,this⟩
    ·exact this.elim
   ·rw[if_pos rfl]
    exact Ci h1 hh h4 h (g2 hb) Q
  | _=>
   simp only[sX]at hk
   obtain⟨g1,g2,g3⟩:=hk
   rw[jC h h2 g1,g2,if_pos rfl]
   exact Ci h1 hh h4 h g3 Q
theorem Mh (op:IOp):op.quiet=true∨op.soft=true∨op.hard=true:=by cases op<;>simp[IOp.quiet,IOp.soft,IOp.hard]
theorem Jx [EP e P] {i:Inst} {is:List Inst} (hi:eT P owns e.n ops o=some i) (h:SRel e σ x a) (hk:aX P (i::is) σ K) (Q:Exit→Act→World→Prop):
  if Region.wanted o (yielded ops a.tmps)then o.wp P a x.w (gK P e is K) Q else gK P e is K (a.put o.dst undef) x.w:=by
 rcases Mh i.op with hq|hs|hh
 ·obtain⟨cv,σ',hy,h1,h2⟩:=lL hi hq h hk
  rcases hy with⟨hw,hr⟩|⟨hw,hv⟩
  ·rw[hw,if_pos rfl]
   exact aT (hr x.w (Agr.refl _)) ⟨σ',x,h1,rfl,h2⟩
  ·rw[hw,if_neg (by simp)]
   subst hv
   exact⟨σ',x,h1,rfl,h2⟩
 ·have:=vE hi hs h hk Q
  split at this
  ·rename_i hw;rw[if_pos hw];exact Oper.wp_mono (fun _ _ hb=>hb.2) this
  ·rename_i hw;rw[if_neg hw];exact this.2
 ·exact vF hi hh h hk Q
def tJ (P:Program) (owns:List Nat) (n:Nat) (ops:Array Oper):List Oper→Option (List Inst)
 | []=>some []
 | o::os=>match eT P owns n ops o,tJ P owns n ops os with
  | some i,some is=>some (i::is)
  | _,_=>none
theorem sO [EP e P] {Q:Exit→Act→World→Prop} (hQ:∀a w σ y,SRel e σ y a→y.w=w→K σ→Q .normal a w):∀(os:List Oper) (is:List Inst) (σ:St) (x:Cx) (a:Act),tJ P owns e.n ops os=some is→SRel e σ x a→
  aX P is σ K→wpList P ops Q os a x.w
 | [],is,σ,x,a,hi,h,hk=>by
  simp only[tJ,Option.some.injEq]at hi;subst hi
  exact hQ a x.w σ x h rfl hk
 | o::os,is,σ,x,a,hi,h,hk=>by
  simp only[tJ]at hi
  split at hi
  ·rename_i i is' h1 h2
   injection hi with hi;subst hi
   have:=Jx h1 h hk Q
   unfold wpList
   split
   ·rename_i hw
    rw[if_pos hw]at this
    exact .inl (Oper.wp_mono (fun a' w' ⟨σ',y,g1,g2,g3⟩=>by rw[←g2];exact sO hQ os is' σ' y a' h2 g1 g3) this)
   ·rename_i hw
    rw[if_neg hw]at this
    obtain⟨σ',y,g1,g2,g3⟩:=this
    rw[←g2]
    exact sO hQ os is' σ' y _ h2 g1 g3
  ·cases hi
end
end Go.Vc

namespace Go.Vc
open Go.RowKit
section
variable {P:Program} {ops:Array Oper} {Q:Exit→Act→World→Prop} {calm:Nat→Bool}
def mA (P:Program) (ops:Array Oper) (Q:Exit→Act→World→Prop) (calm:Nat→Bool):Nat→Array Bool→Act→World→Prop
 | 0,listed,a,w=>Region.ready .any ops listed=[]∧Q .normal a w
 | fuel+1,listed,a,w=>
  (Region.ready .any ops listed=[]→Q .normal a w)∧
  ∀i∈Region.ready .any ops listed,wpOp P ops Q i (fun a' w'=>(calm i=true→Agr w w')∧mA P ops Q calm fuel (listed.setIfInBounds i true) a' w') a w
theorem n7:∀(fuel:Nat) (listed:Array Bool) (a:Act) (w:World),mA P ops Q calm fuel listed a w→wpAny P .any ops Q fuel listed a w
 | 0,_,_,_,h=>h
 | fuel+1,_,_,_,h=>⟨h.1,fun i hi=>wpOp_mono (fun a' w' h'=>n7 fuel _ a' w' h'.2) (h.2 i hi)⟩
def gI (P:Program) (ops:Array Oper) (Q:Exit→Act→World→Prop) (calm:Nat→Bool) (S:World→Prop):Nat→Array Bool→Act→World→Prop
 | 0,listed,a,w=>Region.ready .any ops listed=[]∧Q .normal a w
 | fuel+1,listed,a,w=>
  (Region.ready .any ops listed=[]→Q .normal a w)∧
  ∀i∈Region.ready .any ops listed,wpOp P ops Q i (fun a' w'=>(calm i=true→Agr w w')∧S w'∧gI P ops Q calm S fuel (listed.setIfInBounds i true) a' w') a w
theorem j3 {S:World→Prop}:∀(fuel:Nat) (listed:Array Bool) (a:Act) (w:World),gI P ops Q calm S fuel listed a w→mA P ops Q calm fuel listed a w
 | 0,_,_,_,h=>h
 | fuel+1,_,_,_,h=>⟨h.1,fun i hi=>wpOp_mono (fun a' w' h'=>⟨h'.1,j3 fuel _ a' w' h'.2.2⟩) (h.2 i hi)⟩
theorem wC {S T:World→Prop} (hs:∀w,S w→T w):∀(fuel:Nat) (listed:Array Bool) (a:Act) (w:World),gI P ops Q calm S fuel listed a w→gI P ops Q calm T fuel listed a w
 | 0,_,_,_,h=>h
 | fuel+1,_,_,_,h=>⟨h.1,fun i hi=>wpOp_mono (fun a' w' h'=>⟨h'.1,hs _ h'.2.1,wC hs fuel _ a' w' h'.2.2⟩) (h.2 i hi)⟩
theorem iQ {S T:World→Prop} {i:Nat} {oi:Oper} {v:Value} {D:Nat→Bool} (hi:ops[i]?=some oi) (hsel:∀(j:Nat) (o:Oper) cs b,ops[j]?=some o→o.op≠.select cs b)
  (hQ:∀c a w,¬Q (.panic c) a w)
  (hD:∀d,D d=true→d≠i→∀od,ops[d]?=some od→∃e∈od.after,Region.binds .any e=true∧D e.on=true):
  ∀(fuel:Nat) (listed:Array Bool) (a:Act) (w:World),
   (∀d,D d=true→listed.getD d false=false)→D i=true→
   (∀j oj,ops[j]?=some oj→D j=false→listed.getD j true=false→(∀w w',(calm j=true→Agr w w')→S w'→T w→T w')∧oi.apart ops oj=true)→
   i∈Region.ready .any ops listed→S w→T w→YieldsIf P ops T oi v a→
   gI P ops Q calm S fuel (listed.setIfInBounds i true) (a.put oi.dst v) w→gI P ops Q calm S (fuel+1) listed a w:=by
 have took:∀(fuel:Nat) (listed:Array Bool) (a:Act) (w:World),S w→T w→YieldsIf P ops T oi v a→gI P ops Q calm S fuel (listed.setIfInBounds i true) (a.put oi.dst v) w→
   wpOp P ops Q i (fun a' w'=>(calm i=true→Agr w w')∧S w'∧gI P ops Q calm S fuel (listed.setIfInBounds i true) a' w') a w:=fun fuel listed a w hs ht hy H=>
  hy.wpOp hi ht ⟨fun _=>Agr.refl w,hs,H⟩
 intro fuel
 induction fuel with
 | zero=>
  intro listed a w _ _ hfree hr hs ht hy H
  refine⟨fun h=>(by rw[h]at hr;cases hr),fun j hj=>?_⟩
  by_cases hji:j=i
  ·subst hji;exact took 0 listed a w hs ht hy H
  ·have:=ready_mono hj hji
   rw[H.1]at this
   cases this
 | succ fuel ih=>
  intro listed a w hdis hDi hfree hr hs ht hy H
  refine⟨fun h=>(by rw[h]at hr;cases hr),fun j hj=>?_⟩
  by_cases hji:j=i
  ·subst hji;exact took (fuel+1) listed a w hs ht hy H
  ·have h1:=H.2 j (ready_mono hj hji)
   obtain⟨hjun,oj,hoj,hall⟩:=mem_ready.1 hj
   have hjD:D j=false:=by
    cases hDj:D j
    ·rfl
    ·obtain⟨e,he,hb,hDe⟩:=hD j hDj hji oj hoj
     have h2:=hall e he hb
     rw[hdis _ hDe]at h2
     cases h2
   obtain⟨hstay,hap⟩:=hfree j oj hoj hjD hjun
   have h2:=wpOp_putIf hoj hap (fun cs b=>hsel i oi cs b hi) (fun cs b=>hsel j oj cs b hoj) (fun c a w hp=>(hQ _ _ _ hp).elim) hy h1
   refine wpOp_mono (fun a' w' h3=>⟨h3.2.1,h3.2.2.1,?_⟩) h2
   refine ih (listed.setIfInBounds j true) a' w' (fun d hd=>?_) hDi (fun k ok hk hkD hun=>?_) (ready_mono hr (Ne.symm hji)) h3.2.2.1 (hstay w w' h3.2.1 h3.2.2.1 ht) h3.1 ?_
   ·have hjd:j≠d:=fun h=>by rw[h]at hjD;rw[hjD]at hd;cases hd
    rw[getD_set_ne false hjd]
    exact hdis d hd
   ·refine hfree k ok hk hkD ?_
    by_cases hjk:j=k
    ·subst hjk;exact hjun
    ·rw[getD_set_ne true hjk]at hun;exact hun
   ·rw[Array.setIfInBounds_comm _ _ hji]
    exact h3.2.2.2
def Env.at (e:Env) (σ:St) (x:Cx):Env:={ e with w0:=x.w,L:=d6 σ.st x.ρ,ρ0:=x.ρ }
instance {e:Env} {σ:St} {x:Cx} [EP e P]:EP (e.at σ x) P:=⟨EP.eq (e:=e)⟩
theorem d6.old {e:Env} {σ:St} {x:Cx} {a:Act} (h:SRel e σ x a) {b:Nat} (ho:d6 σ.st x.ρ b):e.w0.heap.size≤b∨e.L b:=by
 obtain⟨r,row,h1,h2,h3⟩:=ho
 rw[←h3];exact h.own r row h1 h2
theorem SRel.at {e:Env} [EP e P] {σ:St} {x:Cx} {a:Act} (h:SRel e σ x a):SRel (e.at σ x) σ x a:=
 {h with
  own:=fun r row h1 h2=>.inr ⟨r,row,h1,h2,rfl⟩
  f0:=fun b hb=>⟨Nat.lt_of_lt_of_le (h.f0 b hb).1 h.below.size,fun ho=>by
   rcases d6.old h ho with h1|h1
   ·exact absurd (h.f0 b hb).1 (by omega)
   ·exact(h.f0 b hb).2 h1⟩
  below:=BelowL.refl _ _
  fix:=fun _ _=>rfl
  tabs:=by
   have h1:=h.now (P:=P)
   have h2:e.P=P:=EP.eq
   show o8 e.P x.w (fun b=>e.F0 b∨d6 σ.st x.ρ b)
   rw[h2]
   exact h1.on (fun _ _ _=>rfl) (Nat.le_refl _) fun b _ hb=>(h.F b).2 hb }
theorem SRel.back {e:Env} {σ τ:St} {x y:Cx} {a a':Act} (h:SRel e σ x a) (k:SRel (e.at σ x) τ y a'):SRel e τ y a':=
 {k with
  own:=fun r row h1 h2=>by
   rcases k.own r row h1 h2 with h3|h3
   ·exact .inl (Nat.le_trans h.below.size h3)
   ·exact d6.old h h3
  f0:=h.f0
  below:=⟨k.below.os.trans h.below.os,k.below.tape.trans h.below.tape,k.below.output.trans h.below.output,Nat.le_trans h.below.size k.below.size,
   fun b hb hl=>(k.below.block b (Nat.lt_of_lt_of_le hb h.below.size) fun ho=>by
    rcases d6.old h ho with h1|h1
    ·omega
    ·exact hl h1).trans (h.below.block b hb hl),trivial⟩
  fix:=fun r hr=>(k.fix r hr).trans (h.fix r hr)
  tabs:=h.tabs }
def nB (i m:Nat):Nat→List Oper→Bool
 | _,[]=>true
 | j,o::os=>(!m.testBit j||j==i||o.after.toList.any (fun e=>Region.binds .any e&&m.testBit e.on))&&nB i m (j+1) os
def eA (ops:Array Oper) (oi:Oper) (m c:Nat):Nat→List Oper→List Bool→Bool
 | j,o::os,l::ls=>(m.testBit j && !l||(!m.testBit j&&(l||(c.testBit j&&oi.apart ops o))))&&eA ops oi m c (j+1) os ls
 | _,[],[]=>true
 | _,_,_=>false
theorem gG {i m:Nat}:∀{l:List Oper} {k:Nat},nB i m k l=true→∀d od,l[d]?=some od→m.testBit (k+d)=true→k+d≠i→∃e∈od.after,Region.binds .any e=true∧m.testBit e.on=true
 | [],_,_,d,od,h,_,_=>by simp at h
 | o::os,k,h,0,od,hd,hm,hne=>by
  simp only[List.getElem?_cons_zero,Option.some.injEq]at hd
  subst hd
  simp only[nB,Bool.and_eq_true,Bool.or_eq_true,Bool.not_eq_true',beq_iff_eq,Nat.add_zero]at h hm hne
  rcases h.1 with(h1|h1)|h1
  ·rw[hm]at h1;cases h1
  ·exact absurd h1 hne
  ·obtain⟨e,he,h2⟩:=List.any_eq_true.1 h1
   simp only[Bool.and_eq_true]at h2
   exact⟨e,by simpa using he,h2⟩
 | o::os,k,h,d+1,od,hd,hm,hne=>by
  simp only[nB,Bool.and_eq_true]at h
  have h1:k+1+d=k+(d+1):=by omega
  exact gG h.2 d od (by simpa using hd) (by rw[h1];exact hm) (by rw[h1];exact hne)
theorem mI {oi:Oper} {m c:Nat}:∀{l:List Oper} {ls:List Bool} {k:Nat},eA ops oi m c k l ls=true→∀d od,l[d]?=some od→
  (m.testBit (k+d)=true∧ls[d]?=some false)∨(m.testBit (k+d)=false∧∃b,ls[d]?=some b∧(b=false→c.testBit (k+d)=true∧oi.apart ops od=true))
 | [],_,_,_,d,od,h=>by simp at h
 | o::os,[],_,h,_,_,_=>by simp[eA]at h
 | o::os,b::ls,k,h,0,od,hd=>by
  simp only[List.getElem?_cons_zero,Option.some.injEq]at hd
  subst hd
  simp only[eA,Bool.and_eq_true,Bool.or_eq_true,Bool.not_eq_true']at h
  simp only[List.getElem?_cons_zero,Nat.add_zero]
  rcases h.1 with⟨h1,h2⟩|⟨h1,h2⟩
  ·exact .inl ⟨h1,by rw[h2]⟩
  ·refine .inr ⟨h1,b,rfl,fun hb=>?_⟩
   rcases h2 with h2|h2
   ·rw[hb]at h2;cases h2
   ·exact h2
 | o::os,b::ls,k,h,d+1,od,hd=>by
  simp only[eA,Bool.and_eq_true]at h
  have h1:k+1+d=k+(d+1):=by omega
  have:=mI h.2 d od (by simpa using hd)
  rw[h1]at this
  simpa using this
theorem kL {oi:Oper} {m c:Nat} {listed:Array Bool} (h:eA ops oi m c 0 ops.toList listed.toList=true) (d:Nat) (hd:m.testBit d=true):listed.getD d false=false:=by
 rcases Nat.lt_or_ge d ops.size with hlt|hge
 ·have hod':ops.toList[d]?=some ops[d]:=by simp[hlt]
  rcases mI h d _ hod' with⟨_,g⟩|⟨g,_⟩
  ·have g':listed[d]?=some false:=by simpa using g
   simp[Array.getD_eq_getD_getElem?,g']
  ·rw[Nat.zero_add]at g;rw[g]at hd;cases hd
 ·have hlen:listed.size=ops.size:=by
   have:∀(l:List Oper) (ls:List Bool) (k:Nat),eA ops oi m c k l ls=true→ls.length=l.length:=by
    intro l
    induction l with
    | nil=>intro ls k hb;cases ls with
     | nil=>rfl
     | cons _ _=>simp[eA]at hb
    | cons _ _ ih2=>intro ls k hb;cases ls with
     | nil=>simp[eA]at hb
     | cons _ _=>
      simp only[eA,Bool.and_eq_true]at hb
      simp[ih2 _ _ hb.2]
   simpa using this _ _ _ h
  have:listed[d]?=none:=Array.getElem?_eq_none (by omega)
  simp[Array.getD_eq_getD_getElem?,this]
theorem eQ {oi:Oper} {m c:Nat} {listed:Array Bool} (h:eA ops oi m c 0 ops.toList listed.toList=true) (j:Nat) (oj:Oper) (hoj:ops[j]?=some oj) (hj:m.testBit j=false) (hun:listed.getD j true=false):
  c.testBit j=true∧oi.apart ops oj=true:=by
 have hoj':ops.toList[j]?=some oj:=by simpa using hoj
 rcases mI h j _ hoj' with⟨g,_⟩|⟨_,b,g1,g2⟩
 ·rw[Nat.zero_add]at g;rw[g]at hj;cases hj
 ·have g':listed[j]?=some b:=by simpa using g1
  have hb:b=false:=by simpa[Array.getD_eq_getD_getElem?,g']using hun
  have:=g2 hb
  rwa [Nat.zero_add]at this
def pR (ops:Array Oper) (listed:Array Bool) (c i m:Nat) (o:Oper) (quiet hard:Bool):Bool:=
 if m==0 then Region.ready .any ops listed==[i]&&(!hard || !c.testBit i)
 else quiet&&m.testBit i&&(Region.ready .any ops listed).contains i&&nB i m 0 ops.toList&&eA ops o m c 0 ops.toList listed.toList
def qW (ops:Array Oper) (listed:Array Bool) (i m:Nat) (o:Oper):Bool:=
 m.testBit i&&(Region.ready .any ops listed).contains i&&nB i m 0 ops.toList&&eA ops o m (2^ops.size-1) 0 ops.toList listed.toList
def Q3:Inst→Option Inst
 | ⟨d,g,.q (.ld x n agg)⟩=>some ⟨d,g,.q (.ldc x n agg)⟩
 | ⟨d,g,.q (.mv x)⟩=>some ⟨d,g,.q (.mv x)⟩
 | _=>none
def BD (P:Program) (owns:List Nat) (n:Nat) (ops:Array Oper) (c:Nat):List (Nat×Nat)→Array Bool→Option (List Inst)
 | [],listed=>if(Region.ready .any ops listed).isEmpty then some []else none
 | (i,m)::r,listed=>match ops[i]? with
  | some o=>match eT P owns n ops o with
   | some inst=>if pR ops listed c i m o inst.op.quiet inst.op.hard then match BD P owns n ops c r (listed.setIfInBounds i true)with
     | some is=>some (inst::is)
     | none=>none
    else if qW ops listed i m o then match Q3 inst,BD P owns n ops c r (listed.setIfInBounds i true)with
     | some ci,some is=>some (ci::is)
     | _,_=>none
    else none
   | none=>none
  | none=>none
theorem NO {owns:List Nat} {o:Oper} {z:Opd} {n:Nat} {agg:Bool} {e:Env} {σ:St} {x:Cx} {a:Act} (hof:IOp.of P owns o=some (.q (.ld z n agg))) (h:SRel e σ x a) (hp:(Go.Vc.Q.ldc z n agg).pre σ):
  ∃cv,aB x ((Go.Vc.Q.ldc z n agg).val σ) cv∧∀w',Kept x ⟨w',x.F,x.ρ⟩→(execOp a.eval o).run P w'=.ok (.value cv) w':=by
 obtain⟨hcd,hp⟩:=hp
 cases hop:o.op with
 | load t y=>
  simp only[IOp.of,hop]at hof
  split at hof
  ·rename_i z' d i hz ht hi
   injection hof with hof;injection hof with hof;injection hof with h1 h2 h3
   subst h1;subst h2;subst h3
   have hy:=Opd.of_sv h hz hcd
   simp only[Go.Vc.Q.val]
   simp only at hp
   generalize z'.sv σ=v at hp hy
   have pure:∀(cs:List PV) (b o' off:Nat),a.eval y=.pointer (some ⟨b,o'+off,none⟩)→¬x.F b→aN x.w x.F cs b o'→off+i.size≤cs.length→(bG P t=true∨i.size=1)→
     ∃cv,aB x (.pv (x3 cs off i.size (bG P t))) cv∧∀w',Kept x ⟨w',x.F,x.ρ⟩→(execOp a.eval o).run P w'=.ok (.value cv) w':=by
    intro cs b o' off he hF hc hl hag
    obtain⟨vs,h2,h3,h4⟩:=hc.cut off i.size hl
    refine⟨if bG P t then .agg ⟨vs⟩else vs.getD 0 undef,?_,fun w' k=>?_⟩
    ·unfold x3
     cases ha:bG P t
     ·rcases hag with h1|h1
      ·rw[ha]at h1;cases h1
      ·rw[h1]at h3 h2
       have hlt:off<cs.length:=by omega
       have e:(cs.drop off).take 1=[cs.getD off default]:=by
        rw[List.drop_eq_getElem_cons hlt,List.take_succ_cons,List.take_zero];simp[List.getD_eq_getElem?_getD,hlt]
       rw[e]at h3
       simp only[aE]at h3
       obtain⟨v0,r,rfl,h5,_⟩:=h3
       simpa[aB,h1]using h5
     ·simp only[if_true,aB]
      exact h3.agg
    ·have h5:aV w' b (o'+off) vs:=fun j c hc=>k.cell hF (h4 j c hc)
     simp only[execOp,hop,he]
     simp only[Sem.run_bind,lZ ht hi b (o'+off) vs h2 hag h5,Result.andThen_ok,Sem.run_pure]
   unfold Nc at hp
   split at hp
   ·rename_i cs off
    simp only[aB]at hy
    obtain⟨b,o',he,hb,hF,hc⟩:=hy
    exact pure _ _ _ off he hF hc hp.1 hp.2
   ·rename_i cs
    simp only[aB,aG]at hy
    obtain⟨b,o',he,hb,hF,hc⟩:=hy
    exact pure _ _ _ 0 he hF hc (by simpa using hp.1) hp.2
   ·exact hp.elim
  ·cases hof
 | _=>
  exfalso
  simp only[IOp.of,hop]at hof
  repeat' split at hof
  all_goals first|contradiction|(cases hof;done)|(simp at hof;done)
theorem Ao {e:Env} {σ:St} {x:Cx} {a:Act} (h:SRel e σ x a) {w':World} (k:BelowL (d6 σ.st x.ρ) x.w w'):Kept x ⟨w',x.F,x.ρ⟩:=
 ⟨k.size,fun b hF hb=>k.block b hb fun ho=>hF ((h.F b).2 (.inr ho)),fun _ _ hb=>hb⟩
theorem NN {owns:List Nat} {o:Oper} {z:Opd} {e:Env} {σ:St} {x:Cx} {a:Act} (hof:IOp.of P owns o=some (.q (.mv z))) (h:SRel e σ x a) (hp:(Go.Vc.Q.mv z).pre σ):
  ∃cv,aB x ((Go.Vc.Q.mv z).val σ) cv∧∀w',Kept x ⟨w',x.F,x.ρ⟩→(execOp a.eval o).run P w'=.ok (.value cv) w':=by
 obtain⟨hcd,hp⟩:=hp
 cases hop:o.op with
 | move y=>
  simp only[IOp.of,hop]at hof
  split at hof
  ·rename_i z' hz
   injection hof with hof;injection hof with hof;injection hof with h1
   subst h1
   exact⟨_,Opd.of_sv h hz hcd,fun w' _=>by simp[execOp,hop]⟩
  ·cases hof
 | assign y=>
  simp only[IOp.of,hop]at hof
  split at hof
  ·rename_i z' hz
   injection hof with hof;injection hof with hof;injection hof with h1
   subst h1
   exact⟨_,Opd.of_sv h hz hcd,fun w' _=>by simp[execOp,hop]⟩
  ·cases hof
 | _=>
  exfalso
  simp only[IOp.of,hop]at hof
  repeat' split at hof
  all_goals first|contradiction|(cases hof;done)|(simp at hof;done)
theorem Bi {owns:List Nat} {K:St→Prop} {o:Oper} {d:Option Nat} {g:Option (Nat×Bool)} {q q':Go.Vc.Q} {is:List Inst} {e:Env} {σ:St} {x:Cx} {a:Act} (hi:eT P owns e.n ops o=some ⟨d,g,.q q⟩)
  (core:IOp.of P owns o=some (.q q)→q'.pre σ→∃cv,aB x (q'.val σ) cv∧∀w',Kept x ⟨w',x.F,x.ρ⟩→(execOp a.eval o).run P w'=.ok (.value cv) w')
  (h:SRel e σ x a) (hk:aX P (⟨d,g,.q q'⟩::is) σ K):
  ∃cv σ',YieldsIf P ops (BelowL (d6 σ.st x.ρ) x.w) o cv a∧SRel e σ' x (a.put o.dst cv)∧aX P is σ' K:=by
 obtain⟨h1,h2,h3,h4⟩:=fW hi
 simp only at h1 h2 h3
 subst h3
 cases g with
 | none=>
  simp only[aX,bO]at hk
  split at hk
  ·rename_i d hdst
   obtain⟨cv,k1,k2⟩:=core h1 hk.1
   have hg:o.guard=none:=jO h2
   rw[hdst]
   exact⟨cv,_,.inl ⟨fG hg _,fun w hw=>k2 w (Ao h hw)⟩,h.put (h4 d hdst) k1,hk.2⟩
  ·exact hk.elim
 | some tb=>
  obtain⟨t,b⟩:=tb
  simp only[aX,sX]at hk
  split at hk
  ·rename_i d hdst
   obtain⟨g1,g2,g3⟩:=hk
   have hw:=jC h h2 g1
   rw[hdst]
   cases hb:(bC σ.fr t).gv b
   ·rw[hb]at hw g3
    exact⟨undef,_,.inr ⟨hw,rfl⟩,h.skip (h4 d hdst) rfl,g3⟩
   ·rw[hb]at hw g3
    obtain⟨cv,k1,k2⟩:=core h1 (g2 hb)
    exact⟨cv,_,.inl ⟨hw,fun w hw=>k2 w (Ao h hw)⟩,(h.put (h4 d hdst) k1).whn rfl,g3⟩
  ·exact hk.elim
theorem Jw {owns:List Nat} {K:St→Prop} {o:Oper} {i j:Inst} {is:List Inst} {e:Env} {σ:St} {x:Cx} {a:Act} (hi:eT P owns e.n ops o=some i) (hj:Q3 i=some j) (h:SRel e σ x a) (hk:aX P (j::is) σ K):
  ∃cv σ',YieldsIf P ops (BelowL (d6 σ.st x.ρ) x.w) o cv a∧SRel e σ' x (a.put o.dst cv)∧aX P is σ' K:=by
 unfold Q3 at hj
 split at hj
 ·injection hj with hj;subst hj
  exact Bi hi (fun hof hp=>NO hof h hp) h hk
 ·injection hj with hj;subst hj
  exact Bi hi (fun hof hp=>NN hof h hp) h hk
 ·cases hj
theorem jL {owns:List Nat} {K:St→Prop} {c:Nat} (hsel:Region.noSelect ops=true) (hQ:∀c a w,¬Q (.panic c) a w):
  ∀(steps:List (Nat×Nat)) (is:List Inst) (listed:Array Bool) (e:Env) (_:EP e P) (S:World→Prop) (σ:St) (x:Cx) (a:Act),
  (∀a w σ y,SRel e σ y a→y.w=w→K σ→Q .normal a w)→(∀σ y a,SRel e σ y a→S y.w)→
  BD P owns e.n ops c steps listed=some is→SRel e σ x a→aX P is σ K→gI P ops Q c.testBit S steps.length listed a x.w
 | [],is,listed,e,hE,S,σ,x,a,hN,hS,hp,h,hk=>by
  simp only[BD]at hp
  split at hp
  ·rename_i hr
   injection hp with hp;subst hp
   exact⟨List.isEmpty_iff.1 hr,hN a x.w σ x h rfl hk⟩
  ·cases hp
 | (i,m)::r,is,listed,e,hE,S,σ,x,a,hN,hS,hp,h,hk=>by
  simp only[BD]at hp
  split at hp
  ·rename_i o ho
   split at hp
   ·rename_i inst hinst
    split at hp
    ·rename_i hstep
     split at hp
     ·rename_i is' his
      injection hp with hp;subst hp
      have ih:∀a' w',gK P e is' K a' w'→S w'∧gI P ops Q c.testBit S r.length (listed.setIfInBounds i true) a' w':=fun a' w' ⟨σ',y,g1,g2,g3⟩=>by
       rw[←g2]
       exact⟨hS _ _ _ g1,jL hsel hQ r is' _ e hE S σ' y a' hN hS his g1 g3⟩
      unfold pR at hstep
      split at hstep
      ·
       simp only[Bool.and_eq_true,Bool.or_eq_true,Bool.not_eq_true',beq_iff_eq]at hstep
       obtain⟨hr,hc⟩:=hstep
       refine⟨fun h0=>(by rw[h0]at hr;cases hr),fun j hj=>?_⟩
       rw[hr]at hj
       have hji:j=i:=by simpa using hj
       subst hji
       unfold wpOp
       simp only[ho]
       have key:if Region.wanted o (yielded ops a.tmps)then o.wp P a x.w (fun a' w'=>(c.testBit j=true→Agr x.w w')∧gK P e is' K a' w') Q
         else(c.testBit j=true→Agr x.w x.w)∧gK P e is' K (a.put o.dst undef) x.w:=by
        rcases Mh inst.op with hq|hs|hh
        ·obtain⟨cv,σ',hy,h1,h2⟩:=lL hinst hq h hk
         rcases hy with⟨hw,hr⟩|⟨hw,hv⟩
         ·rw[hw,if_pos rfl]
          exact aT (hr x.w (Agr.refl _)) ⟨fun _=>Agr.refl _,σ',x,h1,rfl,h2⟩
         ·rw[hw,if_neg (by simp)]
          subst hv
          exact⟨fun _=>Agr.refl _,σ',x,h1,rfl,h2⟩
        ·have:=vE hinst hs h hk Q
         split at this
         ·rename_i hw;rw[if_pos hw];exact Oper.wp_mono (fun _ _ hb=>⟨fun _=>hb.1,hb.2⟩) this
         ·rename_i hw;rw[if_neg hw];exact⟨fun _=>this.1,this.2⟩
        ·have:=vF hinst hh h hk Q
         have hcf:c.testBit j=false:=by
          rcases hc with hc|hc
          ·rw[hh]at hc;cases hc
          ·exact hc
         split at this
         ·rename_i hw;rw[if_pos hw];exact Oper.wp_mono (fun _ _ hb=>⟨fun ht=>(by rw[hcf]at ht;cases ht),hb⟩) this
         ·rename_i hw;rw[if_neg hw];exact⟨fun ht=>(by rw[hcf]at ht;cases ht),this⟩
       split
       ·rename_i hw
        rw[if_pos hw]at key
        exact .inl (Oper.wp_mono (fun a' w' hb=>⟨hb.1,ih a' w' hb.2⟩) key)
       ·rename_i hw
        rw[if_neg hw]at key
        exact⟨key.1,ih _ _ key.2⟩
      ·simp only[Bool.and_eq_true]at hstep
       obtain⟨⟨⟨⟨hq,hmi⟩,hr⟩,hwait⟩,hrest⟩:=hstep
       obtain⟨cv,σ',hy,h1,h2⟩:=lL hinst hq h hk
       exact iQ (T:=Agr x.w) (D:=m.testBit) ho (Region.noSelect_spec hsel) hQ (fun d hd hne od hod=>gG hwait d od (by simpa using hod) (by simpa using hd) (by simpa using hne)) r.length listed a x.w
        (kL hrest) hmi (fun j oj hoj hj hun=>⟨fun w w' hc _ ht=>ht.trans (hc (eQ hrest j oj hoj hj hun).1),(eQ hrest j oj hoj hj hun).2⟩) (by simpa using hr) (hS _ _ _ h) (Agr.refl _) hy
        (ih _ _ ⟨σ',x,h1,rfl,h2⟩).2
     ·cases hp
    ·split at hp
     ·rename_i hstep
      split at hp
      ·rename_i ci is' hci his
       injection hp with hp;subst hp
       simp only[qW,Bool.and_eq_true]at hstep
       obtain⟨⟨⟨hmi,hr⟩,hwait⟩,hrest⟩:=hstep
       have h0:SRel (e.at σ x) σ x a:=SRel.at h
       obtain⟨cv,σ',hy,h1,h2⟩:=Jw (e:=e.at σ x) hinst hci h0 hk
       refine wC (S:=fun w=>S w∧BelowL (d6 σ.st x.ρ) x.w w) (fun w h=>h.1) _ _ _ _ ?_
       exact iQ (T:=BelowL (d6 σ.st x.ρ) x.w) (D:=m.testBit) ho (Region.noSelect_spec hsel) hQ (fun d hd hne od hod=>gG hwait d od (by simpa using hod) (by simpa using hd) (by simpa using hne)) r.length listed a x.w
        (kL hrest) hmi (fun j oj hoj hj hun=>⟨fun w w' _ hs _=>hs.2,(eQ hrest j oj hoj hj hun).2⟩) (by simpa using hr) ⟨hS _ _ _ h,BelowL.refl _ _⟩ (BelowL.refl _ _) hy
        (jL hsel hQ r is' _ (e.at σ x) inferInstance _ σ' x _ (fun a w σ y k=>hN a w σ y (SRel.back h k)) (fun σ y a k=>⟨hS _ _ _ (SRel.back h k),k.below⟩) his h1 h2)
      ·cases hp
     ·cases hp
   ·cases hp
  ·cases hp
end
end Go.Vc

namespace Go.Vc
open Go.RowKit
def cS:List (Nat×AV)→Nat→Option AV
 | [],_=>none
 | (k',v)::r,k=>if k'=k then some v else cS r k
def iG (l:List (Nat×AV)):List Nat→List (Nat×AV)
 | []=>[]
 | t::ts=>match cS l t with
  | some v=>(t,v)::iG l ts
  | none=>iG l ts
def eF (l:List (Nat×Row)):List Nat→List (Nat×Row)
 | []=>[]
 | t::ts=>if ts.contains t then eF l ts else match aL l t with
  | some v=>(t,v)::eF l ts
  | none=>eF l ts
def St.norm (σ:St) (keep rows:List Nat):St:=⟨iG σ.fr keep,eF σ.st rows⟩
theorem oB:∀{l:List (Nat×AV)} {k:Nat} {v:AV},cS l k=some v→(k,v)∈l
 | [],_,_,h=>by simp[cS]at h
 | (k',v')::r,k,v,h=>by
  simp only[cS]at h
  split at h
  ·rename_i hk;injection h with h;subst h;subst hk;simp
  ·exact List.mem_cons_of_mem _ (oB h)
theorem sQ {l:List (Nat×AV)}:∀{ts:List Nat} {k:Nat} {v:AV},(k,v)∈iG l ts→(k,v)∈l
 | [],_,_,h=>by simp[iG]at h
 | t::ts,k,v,h=>by
  simp only[iG]at h
  split at h
  ·rename_i u hu
   rcases List.mem_cons.1 h with h|h
   ·injection h with h1 h2;subst h1;subst h2;exact oB hu
   ·exact sQ h
  ·exact sQ h
theorem eI {l:List (Nat×Row)}:∀{ts:List Nat} {k:Nat} {v:Row},(k,v)∈eF l ts→(k,v)∈l∧k∈ts
 | [],_,_,h=>by simp[eF]at h
 | t::ts,k,v,h=>by
  simp only[eF]at h
  split at h
  ·have:=eI h;exact⟨this.1,List.mem_cons_of_mem _ this.2⟩
  ·split at h
   ·rename_i u hu
    rcases List.mem_cons.1 h with h|h
    ·injection h with h1 h2;subst h1;subst h2;exact⟨aH hu,by simp⟩
    ·have:=eI h;exact⟨this.1,List.mem_cons_of_mem _ this.2⟩
   ·have:=eI h;exact⟨this.1,List.mem_cons_of_mem _ this.2⟩
theorem lY {l:List (Nat×Row)}:∀{ts:List Nat},((eF l ts).map (·.1)).Nodup
 | []=>by simp[eF]
 | t::ts=>by
  simp only[eF]
  split
  ·exact lY
  ·rename_i hn
   split
   ·simp only[List.map_cons,List.nodup_cons]
    refine⟨fun hm=>?_,lY⟩
    obtain⟨⟨q,row⟩,h1,h2⟩:=List.mem_map.1 hm
    have h2':q=t:=h2
    subst h2'
    exact hn (by simpa using(eI h1).2)
   ·exact lY
theorem Row.kept {x y:Cx} (k:Kept x y) (hρ:y.ρ=x.ρ) {l:Loc} (hb:l.ok=true→y.w.heap[l.blk]?=x.w.heap[l.blk]?) {row:Row} (h:row.rel x l):row.rel y l:=by
 have:=Row.clip_rel (y:=y) k (D:=fun _=>false) (fun _ _=>by rw[hρ]) hb h
 cases row<;>simp only[Row.clip,dJ,Bool.false_eq_true,if_false]at this<;>exact this
theorem SRel.norm {e:Env} {σ:St} {x:Cx} {a:Act} (h:SRel e σ x a) (keep rows:List Nat):
  SRel e (σ.norm keep rows) ⟨x.w,fun b=>e.F0 b∨d6 (σ.norm keep rows).st x.ρ b,x.ρ⟩ a:=by
 have k:Kept x ⟨x.w,fun b=>e.F0 b∨d6 (σ.norm keep rows).st x.ρ b,x.ρ⟩:=⟨Nat.le_refl _,fun _ _ _=>rfl,fun b _ hb=>(h.F b).2 (hb.imp id fun⟨r,row,h1,h2⟩=>⟨r,row,(eI h1).1,h2⟩)⟩
 exact {
  defers:=h.defers
  size:=h.size
  fr:=fun t v hm=>let⟨cv,h1,h2⟩:=h.fr t v (sQ hm);⟨cv,h1,h2.kept k rfl⟩
  st:=fun r row hm=>Row.kept k rfl (fun _=>rfl) (h.st r row (eI hm).1)
  keys:=lY
  inj:=fun r row r' row' h1 h2=>h.inj r row r' row' (eI h1).1 (eI h2).1
  F:=fun b=>Iff.rfl
  own:=fun r row hm=>h.own r row (eI hm).1
  f0:=h.f0
  tabs:=h.tabs
  below:=h.below
  fix:=h.fix
  small:=h.small }
def St.virt1 (σ:St) (t r s:Nat):St:=match cS σ.fr t with
 | some .e0=>(match aL σ.st r with
  | none=>if r<200000 then(σ.newRow r (.sl s [])).put t (.row r 0 0)else σ
  | some _=>σ)
 | _=>σ
def St.nil1 (σ:St) (t:Nat):St:=match cS σ.fr t with
 | some .e0=>σ.put t (.pv (.lst []))
 | _=>σ
def St.virts (σ:St):List (Nat×Nat×Nat)→St
 | []=>σ
 | (t,r,s)::vs=>(if s=0 then(if t=r then σ.frz1 r else σ.nil1 t)else σ.virt1 t r s).virts vs
theorem SRel.setv {e:Env} {σ:St} {x:Cx} {a:Act} (h:SRel e σ x a) {t:Nat} {v:AV} {cv:Value} (ht:a.tmps[t]?=some cv) (hv:aB x v cv):SRel e (σ.put t v) x a:=
 {h with
  fr:=fun k u hm=>by
   simp only[St.put,gB]at hm
   rcases List.mem_cons.1 hm with hm|hm
   ·injection hm with h1 h2
    subst h1;subst h2
    exact⟨cv,ht,hv⟩
   ·exact h.fr k u (fS hm).1 }
theorem SRel.virt1 {e:Env} {σ:St} {x:Cx} {a:Act} (h:SRel e σ x a) (t r s:Nat):∃y,y.w=x.w∧SRel e (σ.virt1 t r s) y a:=by
 unfold St.virt1
 split
 ·rename_i he
  split
  ·split
   case isFalse=>exact⟨x,rfl,h⟩
   rename_i hr2
   have hm:=oB he
   obtain⟨cv,h1,h2⟩:=h.fr t _ hm
   simp only[aB]at h2
   have h3:=h.fresh (w':=x.w) (Below.refl _ _) r (.sl s []) ⟨0,0,0,s,false,0⟩ (fun hf=>by cases hf) (.inl ⟨rfl,rfl⟩) hr2
   refine⟨bA e σ x x.w r (.sl s []) ⟨0,0,0,s,false,0⟩,rfl,h3.setv h1 ?_⟩
   unfold aB
   exact .inl ⟨rfl,fun hk=>by simp[bA,bT]at hk,h2⟩
  ·exact⟨x,rfl,h⟩
 ·exact⟨x,rfl,h⟩
theorem SRel.nil1 {e:Env} {σ:St} {x:Cx} {a:Act} (h:SRel e σ x a) (t:Nat):SRel e (σ.nil1 t) x a:=by
 unfold St.nil1
 split
 ·rename_i he
  obtain⟨cv,h1,h2⟩:=h.fr t _ (oB he)
  refine h.setv h1 ?_
  simp only[aB]at h2
  obtain⟨a,rfl⟩:=h2
  simp only[aB,aG]
  exact⟨a,0,0,rfl,rfl,Nat.le_refl _,fun hn=>absurd hn (by omega)⟩
 ·exact h
theorem SRel.virts {e:Env} {a:Act}:∀(vs:List (Nat×Nat×Nat)) {σ:St} {x:Cx},SRel e σ x a→∃y,y.w=x.w∧SRel e (σ.virts vs) y a
 | [],_,x,h=>⟨x,rfl,h⟩
 | (t,r,s)::vs,σ,x,h=>by
  unfold St.virts
  split
  ·split
   ·obtain⟨y,h1,h2⟩:=h.frz1 r
    obtain⟨z,h3,h4⟩:=SRel.virts vs h2
    exact⟨z,h3.trans h1,h4⟩
   ·exact SRel.virts vs (h.nil1 t)
  ·obtain⟨y,h1,h2⟩:=h.virt1 t r s
   obtain⟨z,h3,h4⟩:=SRel.virts vs h2
   exact⟨z,h3.trans h1,h4⟩
end Go.Vc

namespace Go.Vc
open Go.RowKit
set_option linter.constructorNameAsVariable false
def iS:List Nat→Nat→Bool
 | [],_=>false
 | a::l,q=>a==q||iS l q
theorem bU:∀{l:List Nat} {q:Nat},iS l q=true↔q∈l
 | [],q=>by simp[iS]
 | a::l,q=>by simp only[iS,Bool.or_eq_true,beq_iff_eq,List.mem_cons,bU (l:=l)];constructor<;>rintro(h|h)<;>simp[h]
theorem iF {l:List Nat} {q:Nat}:iS l q=false↔q∉l:=by
 rw[←bU];simp
structure Eff where
 v:AV
 nr:Option (Nat×Row)
def St.app (σ:St) (d:Nat) (E:Eff):St:=match E.nr with
 | none=>σ.put d E.v
 | some (r,row)=>(σ.newRow r row).put d E.v
def iM (d:Nat) (v:AV):List (Nat×List PV)→Eff
 | []=>⟨v.ren 0,none⟩
 | (s,xs)::_=>⟨v.ren (eX d),some (eX d,.sl s xs)⟩
def o5 (P:Program) (A:St) (d:Nat) (g:Option (Nat×Bool)) (op:IOp) (E:Eff):Prop:=match g,op with
 | none,.q q=>q.pre A∧E=⟨q.val A,none⟩
 | some (t,b),.q q=>(bC A.fr t).gok∧∃v,((bC A.fr t).gv b=true→q.pre A∧v=q.val A)∧E=⟨.whn ((bC A.fr t).gv b) v,none⟩
 | none,.alloc z=>E=⟨.ptr d 0,some (d,.box (AV.clips (only d) z))⟩
 | none,.box x=>x.cd A=true∧Av (x.sv A)=true∧E=⟨.ptr d 0,some (d,.box (AV.clips (only d) (x.sv A).cells))⟩
 | none,.lits xs s=>(e8 A xs=true∧iY (eD A xs)=true∧oX s (eD A xs)∧xs.length*s≤16777216)∧E=⟨oP (eD A xs),none⟩
 | none,.mks l c s bytes z=>(l.cd A=true∧c.cd A=true∧eO (l.sv A)∧eO (c.sv A)∧0≤cQ (l.sv A)∧cQ (l.sv A)≤cQ (c.sv A)∧(bytes:Int)*cQ (c.sv A)≤281474976710656∧cQ (c.sv A)≤9223372036854775807)∧E=⟨.row d 0 (cQ (l.sv A)).toNat,some (d,.sl s (List.replicate (cQ (l.sv A)).toNat z))⟩
 | none,.call f args=>(f.cd A=true∧e8 A args=true)∧∃h ps pure v rs,cB A f args=some (h,ps,pure)∧Fn P h ps v rs∧(pure=true∨(v.flat=true∧d9 rs))∧j7 v rs∧E=iM d v rs
 | some (t,b),.call f args=>(bC A.fr t).gok∧((bC A.fr t).gv b=true→f.cd A=true∧e8 A args=true)∧
   ∃h ps pure p,cB A f args=some (h,ps,pure)∧((bC A.fr t).gv b=true→Fn P h ps (.pv p) []∧(pure=true∨p.flat=true))∧E=⟨.whn ((bC A.fr t).gv b) (.pv p),none⟩
 | _,_=>False
def H2 (d:Nat):IOp→Nat
 | .call _ _=>eX d
 | _=>d
def m7:IOp→Bool
 | .alloc _|.box _|.call _ _|.mks _ _ _ _ _=>true
 | _=>false
section
variable {P:Program} {A B σ:St} {d:Nat} {g:Option (Nat×Bool)} {op:IOp} {E:Eff}
theorem CC {v:AV} {rs:List (Nat×List PV)} {r:Nat} {row:Row} (h:(iM d v rs).nr=some (r,row)):r=eX d:=by
 cases rs with
 | nil=>simp[iM]at h
 | cons a l=>obtain⟨s,xs⟩:=a;simp[iM]at h;exact h.1.symm
theorem Co (h:o5 P A d g op E) {r:Nat} {row:Row} (hn:E.nr=some (r,row)):r=H2 d op∧m7 op=true:=by
 unfold o5 at h
 split at h
 ·rw[h.2]at hn;cases hn
 ·obtain⟨_,_,_,e⟩:=h
  rw[e]at hn;cases hn
 ·rw[h]at hn;injection hn with hn;injection hn with hn;exact⟨hn.symm,rfl⟩
 ·rw[h.2.2]at hn;injection hn with hn;injection hn with hn;exact⟨hn.symm,rfl⟩
 ·rw[h.2]at hn;cases hn
 ·rw[h.2]at hn;injection hn with hn;injection hn with hn;exact⟨hn.symm,rfl⟩
 ·obtain⟨_,_,_,_,_,_,_,_,_,_,e⟩:=h
  rw[e]at hn
  exact⟨CC hn,rfl⟩
 ·obtain⟨_,_,_,_,_,_,_,_,e⟩:=h
  rw[e]at hn;cases hn
 ·exact h.elim
theorem JJ (h:o5 P A d g op E):op.quiet=true∨op.soft=true:=by
 unfold o5 at h
 split at h
 ·exact .inl rfl
 ·exact .inl rfl
 ·exact .inr rfl
 ·exact .inr rfl
 ·exact .inr rfl
 ·exact .inr rfl
 ·exact .inr rfl
 ·exact .inr rfl
 ·exact h.elim
theorem HC {v:AV} {rs:List (Nat×List PV)}:σ.after d v rs=σ.app d (iM d v rs):=by
 cases rs with
 | nil=>rfl
 | cons a l=>obtain⟨s,xs⟩:=a;rfl
theorem SRel.whnf {e:Env} {x:Cx} {a:Act} {u v:AV} (h:SRel e (σ.put d (.whn false u)) x a):SRel e (σ.put d (.whn false v)) x a:=
 {h with
  fr:=fun k w hm=>by
   simp only[St.put,gB]at hm
   rcases List.mem_cons.1 hm with hm|hm
   ·injection hm with h1 h2
    subst h1;subst h2
    obtain⟨cv,k1,k2⟩:=h.fr k (.whn false u) (by simp only[St.put,gB];exact List.mem_cons_self)
    exact⟨cv,k1,by simp only[aB]at k2 ⊢;exact⟨fun hf=>(by cases hf),k2.2⟩⟩
   ·exact h.fr k w (by simp only[St.put,gB];exact List.mem_cons_of_mem _ hm) }
theorem Om (h:o5 P σ d g op E):aX P [⟨some d,g,op⟩] σ (fun σ'=>∀e y a,SRel e σ' y a→SRel e (σ.app d E) y a):=by
 unfold o5 at h
 split at h
 ·obtain⟨h1,rfl⟩:=h
  exact⟨h1,fun e y a hs=>hs⟩
 ·rename_i t b q
  obtain⟨h1,v,h2,rfl⟩:=h
  refine⟨h1,fun hb=>(h2 hb).1,fun e y a hs=>?_⟩
  cases hb:(bC σ.fr t).gv b with
  | false=>
   rw[hb]at hs
   simp only[St.app]
   exact hs.whnf
  | true=>
   rw[(h2 hb).2]
   rw[hb]at hs
   exact hs
 ·subst h;exact fun e y a hs=>hs
 ·obtain⟨h1,h2,rfl⟩:=h
  exact⟨h1,h2,fun e y a hs=>hs⟩
 ·obtain⟨h1,rfl⟩:=h
  exact⟨h1,fun e y a hs=>hs⟩
 ·obtain⟨h1,rfl⟩:=h
  exact⟨h1,fun e y a hs=>hs⟩
 ·obtain⟨h1,gg,ps,pure,v,rs,h2,h3,h4,h5,rfl⟩:=h
  simp only[aX,bO,h2]
  refine⟨h1,v,rs,h3,h4,h5,.inl fun e y a hs=>?_⟩
  rw[←HC];exact hs
 ·obtain⟨h1,h2,gg,ps,pure,p,h3,h4,rfl⟩:=h
  simp only[aX,sX,h3]
  exact⟨h1,h2,p,h4,fun e y a hs=>hs⟩
 ·exact h.elim
def Opd.use:Opd→List Nat
 | .t n=>[n]
 | _=>[]
def Q.opds:Q→List Opd
 | .mv x|.sob x|.not x|.ext x _|.fa x _|.ld x _ _|.ldc x _ _|.fld x _ _ _|.len x _|.conv _ x|.cvw _ x|.nch x|.mlen x|.ent x=>[x]
 | .shf _ x y|.shw x y|.bin _ x y|.beq _ x y|.ia x y _|.iaa x y _ _|.idx x y|.idxa x y _|.seq _ _ x y|.mm _ x y|.mget x y _ _ _=>[x,y]
 | .pick c a b=>[c,a,b]
 | .slc x lo hi _ _=>x::gH lo++gH hi
 | .mk _ parts=>parts.map (·.2.2)
 | .clo _ caps=>caps
 | .bnd _ caps=>caps
 | .chk x lo hi mx=>[x,lo,hi,mx]
 | .ful x hi mx=>[x,hi,mx]
 | .slcx x lo hi _=>x::gH lo++gH hi
def IOp.opds:IOp→List Opd
 | .q qq=>qq.opds
 | .box x=>[x]
 | .lits xs _=>xs
 | .mks l c _ _ _=>[l,c]
 | .call f args=>f::args
 | _=>[]
def y2:Option (Nat×Bool)→List Nat
 | some (t,_)=>[t]
 | none=>[]
def BQ (U:List Nat) (g:Option (Nat×Bool)) (op:IOp):Bool:=(y2 g).all (iS U)&&op.opds.all fun x=>x.use.all (iS U)
structure Ext (U:List Nat) (A B:St):Prop where
 fr:∀t∈U,bC A.fr t=bC B.fr t
 st:∀r row,aL A.st r=some row→aL B.st r=some row
theorem Opd.ev_ext {U:List Nat} (h:Ext U A B) {x:Opd} (hx:x.use.all (iS U)=true):x.ev A=x.ev B:=by
 cases x with
 | t n=>
  simp only[Opd.use,List.all_cons,List.all_nil,Bool.and_true]at hx
  exact h.fr n (bU.1 hx)
 | _=>rfl
theorem mE:∀{xs:List Opd},(∀x∈xs,x.ev A=x.ev B)→eD A xs=eD B xs∧e8 A xs=e8 B xs
 | [],_=>⟨rfl,rfl⟩
 | x::xs,h=>by
  have h1:=h x (by simp)
  have h2:=mE (xs:=xs) fun y hy=>h y (List.mem_cons_of_mem _ hy)
  simp only[eD,e8,Opd.sv,Opd.cd,h1,h2.1,h2.2,and_self]
theorem Iu:∀{l:List (Nat×Nat×Opd)} {cs:List AV},(∀x∈l.map (·.2.2),x.ev A=x.ev B)→J6 A l cs=J6 B l cs
 | [],_,_=>rfl
 | (o,n,x)::l,cs,h=>by
  have h1:=h x (by simp)
  simp only[J6,Opd.sv,h1]
  exact Iu fun y hy=>h y (by simp only[List.map_cons];exact List.mem_cons_of_mem _ hy)
theorem Iv {m:Nat}:∀{l:List (Nat×Nat×Opd)},(∀x∈l.map (·.2.2),x.ev A=x.ev B)→JZ A m l→JZ B m l
 | [],_,h=>h
 | (o,n,x)::l,h,hk=>by
  have h1:=h x (by simp)
  simp only[JZ,Opd.sv,h1]at hk ⊢
  exact⟨hk.1,hk.2.1,hk.2.2.1,Iv (fun y hy=>h y (by simp only[List.map_cons];exact List.mem_cons_of_mem _ hy)) hk.2.2.2⟩
theorem FL {U:List Nat} (h:Ext U A B) {q:Q} (hq:∀x∈q.opds,x.ev A=x.ev B) (hp:q.pre A):q.pre B∧q.val A=q.val B:=by
 obtain⟨hc,hp⟩:=hp
 have one:∀{r row},aL A.st r=some row→aL B.st r=some row:=fun hr=>h.st _ _ hr
 cases q with
 | mv x|not x|ext x _|fa x _|ldc x _ _|fld x _ _ _|len x _|conv _ x|cvw _ x|nch x=>
  have h1:=hq x (by simp[Q.opds])
  simp only[Q.pre,Q.cd,Q.val,Opd.sv,Opd.cd,h1]at hc hp ⊢
  exact⟨⟨hc,hp⟩,trivial⟩
 | shf _ x y|shw x y|bin _ x y|beq _ x y|iaa x y _ _|idx x y|idxa x y _|seq _ _ x y|mm _ x y=>
  have h1:=hq x (by simp[Q.opds])
  have h2:=hq y (by simp[Q.opds])
  simp only[Q.pre,Q.cd,Q.val,Opd.sv,Opd.cd,h1,h2]at hc hp ⊢
  exact⟨⟨hc,hp⟩,trivial⟩
 | pick c x y=>
  have h1:=hq x (by simp[Q.opds])
  have h2:=hq y (by simp[Q.opds])
  have h3:=hq c (by simp[Q.opds])
  simp only[Q.pre,Q.cd,Q.val,Opd.sv,Opd.cd,h1,h2,h3]at hc hp ⊢
  exact⟨⟨hc,hp⟩,trivial⟩
 | ful x hi mx=>
  have h1:=hq x (by simp[Q.opds])
  have h3:=hq hi (by simp[Q.opds])
  have h4:=hq mx (by simp[Q.opds])
  simp only[Q.pre,Q.cd,Q.val,Opd.sv,Opd.cd,e8,h1,h3,h4]at hc hp ⊢
  exact⟨⟨hc,hp⟩,trivial⟩
 | chk x lo hi mx=>
  have h1:=hq x (by simp[Q.opds])
  have h2:=hq lo (by simp[Q.opds])
  have h3:=hq hi (by simp[Q.opds])
  have h4:=hq mx (by simp[Q.opds])
  simp only[Q.pre,Q.cd,Q.val,Opd.sv,Opd.cd,e8,h1,h2,h3,h4]at hc hp ⊢
  exact⟨⟨hc,hp⟩,trivial⟩
 | bnd f caps=>
  have:=mE (A:=A) (B:=B) (xs:=caps) fun x hx=>hq x hx
  simp only[Q.pre,Q.cd,Q.val,this.1,this.2]at hc hp ⊢
  exact⟨⟨hc,hp⟩,trivial⟩
 | clo f caps=>
  have:=mE (A:=A) (B:=B) (xs:=caps) fun x hx=>hq x hx
  simp only[Q.pre,Q.cd,Q.val,this.1,this.2]at hc hp ⊢
  exact⟨⟨hc,hp⟩,trivial⟩
 | mk z parts=>
  have h1:=mE (A:=A) (B:=B) (xs:=parts.map (·.2.2)) fun x hx=>hq x (by simpa[Q.opds]using hx)
  have h2:=Iu (A:=A) (B:=B) (l:=parts) (cs:=z) fun x hx=>hq x (by simpa[Q.opds]using hx)
  simp only[Q.pre,Q.cd,Q.val,h1.2,h2]at hc hp ⊢
  exact⟨⟨hc,Iv (fun x hx=>hq x (by simpa[Q.opds]using hx)) hp⟩,trivial⟩
 | sob x=>
  have h1:=hq x (by simp[Q.opds])
  simp only[Q.pre,Q.cd,Q.val,Opd.sv,Opd.cd,h1]at hc hp ⊢
  generalize (x.ev B).un1=v at hp
  have key:xT (uK B v)∧CH (uK A v)=CH (uK B v):=by
   cases v with
   | row r off n=>
    simp only[uK]at hp ⊢
    cases hr:aL A.st r with
    | none=>simp only[hr,xT]at hp
    | some row=>simp only[one hr];simp only[hr]at hp ⊢;exact⟨hp,trivial⟩
   | _=>exact⟨hp,rfl⟩
  exact⟨⟨hc,key.1⟩,key.2⟩
 | ia x i s=>
  have h1:=hq x (by simp[Q.opds])
  have h2:=hq i (by simp[Q.opds])
  simp only[Q.pre,Q.cd,Q.val,Opd.sv,Opd.cd,h1,h2]at hc hp ⊢
  refine⟨⟨hc,?_⟩,trivial⟩
  unfold OF at hp ⊢
  split at hp
  ·exact hp
  ·refine⟨hp.1,hp.2.1,?_⟩
   rename_i r off m k n e1 e2
   have h3:=hp.2.2
   cases hr:aL A.st r with
   | none=>rw[hr]at h3;cases h3
   | some row=>rw[hr]at h3;rw[one hr];exact h3
  ·exact hp.elim
 | ld x n agg=>
  have h1:=hq x (by simp[Q.opds])
  simp only[Q.pre,Q.cd,Q.val,Opd.sv,Opd.cd,h1]at hc hp ⊢
  generalize (x.ev B).un1=v at hp
  have key:J7 B n agg v∧J0 A n agg v=J0 B n agg v:=by
   cases v with
   | ptr r o=>
    simp only[J7]at hp
    simp only[J7,J0]
    cases hr:aL A.st r with
    | none=>rw[hr]at hp;exact hp.elim
    | some row=>rw[hr]at hp;rw[one hr];exact⟨hp,rfl⟩
   | rptr r i o=>
    simp only[J7]at hp
    simp only[J7,J0]
    cases hr:aL A.st r with
    | none=>rw[hr]at hp;exact hp.elim
    | some row=>rw[hr]at hp;rw[one hr];exact⟨hp,rfl⟩
   | pv p=>cases p<;>exact⟨hp,rfl⟩
   | _=>exact⟨hp,rfl⟩
  exact⟨⟨hc,key.1⟩,key.2⟩
 | slc x lo hi s str=>
  have h0:=hq x (by simp[Q.opds])
  have hl:∀y∈gH lo,y.ev A=y.ev B:=fun y hy=>hq y (by simp[Q.opds,hy])
  have hh:∀y∈gH hi,y.ev A=y.ev B:=fun y hy=>hq y (by simp[Q.opds,hy])
  have h1:=mE (A:=A) (B:=B) (xs:=x::gH lo++gH hi) fun y hy=>hq y hy
  have e1:sC A lo=sC B lo:=by
   cases lo with
   | none=>rfl
   | some y=>simp only[sC,Opd.sv,hl y (by simp[gH])]
  have e2:∀n,sD A n hi=sD B n hi:=fun n=>by
   cases hi with
   | none=>rfl
   | some y=>simp only[sD,Opd.sv,hh y (by simp[gH])]
  have e3:oW A lo=oW B lo:=by
   cases lo with
   | none=>rfl
   | some y=>simp only[oW,Opd.sv,hl y (by simp[gH])]
  have e4:oW A hi=oW B hi:=by
   cases hi with
   | none=>rfl
   | some y=>simp only[oW,Opd.sv,hh y (by simp[gH])]
  simp only[Q.pre,Q.cd,Q.val,h1.2,e1,e2,e3,e4,Opd.sv,h0]at hc hp ⊢
  refine⟨⟨hc,hp.1,hp.2.1,?_⟩,trivial⟩
  have h5:=hp.2.2
  unfold HK at h5 ⊢
  split at h5
  ·exact h5
  ·exact h5
  ·refine⟨h5.1,h5.2.1,h5.2.2.1,h5.2.2.2.1,?_⟩
   rename_i r off m e
   have h3:=h5.2.2.2.2
   cases hr:aL A.st r with
   | none=>rw[hr]at h3;cases h3
   | some row=>rw[hr]at h3;rw[one hr];exact h3
  ·exact h5
  ·exact h5.elim
 | slcx x lo hi s=>
  have h0:=hq x (by simp[Q.opds])
  have hl:∀y∈gH lo,y.ev A=y.ev B:=fun y hy=>hq y (by simp[Q.opds,hy])
  have hh:∀y∈gH hi,y.ev A=y.ev B:=fun y hy=>hq y (by simp[Q.opds,hy])
  have h1:=mE (A:=A) (B:=B) (xs:=x::gH lo++gH hi) fun y hy=>hq y hy
  have e1:sC A lo=sC B lo:=by
   cases lo with
   | none=>rfl
   | some y=>simp only[sC,Opd.sv,hl y (by simp[gH])]
  have e2:∀n,sD A n hi=sD B n hi:=fun n=>by
   cases hi with
   | none=>rfl
   | some y=>simp only[sD,Opd.sv,hh y (by simp[gH])]
  have e3:oW A lo=oW B lo:=by
   cases lo with
   | none=>rfl
   | some y=>simp only[oW,Opd.sv,hl y (by simp[gH])]
  have e4:oW A hi=oW B hi:=by
   cases hi with
   | none=>rfl
   | some y=>simp only[oW,Opd.sv,hh y (by simp[gH])]
  simp only[Q.pre,Q.cd,Q.val,h1.2,e1,e2,e3,e4,Opd.sv,h0]at hc hp ⊢
  refine⟨⟨hc,hp.1,hp.2.1,?_⟩,trivial⟩
  have h5:=hp.2.2
  unfold CS at h5 ⊢
  split at h5
  ·split at h5
   ·rename_i hr
    rw[one hr];exact h5
   ·rename_i hr
    rw[one hr];exact h5
   ·exact h5.elim
  ·exact h5.elim
 | mget m k comma kk zero=>
  have h1:=hq m (by simp[Q.opds])
  have h2:=hq k (by simp[Q.opds])
  simp only[Q.pre,Q.cd,Q.val,Opd.sv,Opd.cd,h1,h2]at hc hp ⊢
  generalize (m.ev B).un1=v at hp
  generalize (k.ev B).un1=u at hp
  have key:yB B kk v u∧pF A comma zero v u=pF B comma zero v u:=by
   unfold yB at hp
   split at hp
   ·rename_i r p
    simp only[yB,pF]
    cases hr:aL A.st r with
    | none=>rw[hr]at hp;exact hp.elim
    | some row=>rw[hr]at hp;rw[one hr];exact⟨hp,rfl⟩
   ·exact hp.elim
  exact⟨⟨hc,key.1⟩,key.2⟩
 | mlen m=>
  have h1:=hq m (by simp[Q.opds])
  simp only[Q.pre,Q.cd,Q.val,Opd.sv,Opd.cd,h1]at hc hp ⊢
  generalize (m.ev B).un1=v at hp
  have key:x9 B v∧vW A v=vW B v:=by
   unfold x9 at hp
   split at hp
   ·rename_i r
    simp only[x9,vW]
    cases hr:aL A.st r with
    | none=>rw[hr]at hp;exact hp.elim
    | some row=>rw[hr]at hp;rw[one hr];exact⟨hp,rfl⟩
   ·exact hp.elim
  exact⟨⟨hc,key.1⟩,key.2⟩
 | ent m=>
  have h1:=hq m (by simp[Q.opds])
  simp only[Q.pre,Q.cd,Q.val,Opd.sv,Opd.cd,h1]at hc hp ⊢
  generalize (m.ev B).un1=v at hp
  have key:Ed B v∧CN A v=CN B v:=by
   unfold Ed at hp
   split at hp
   ·rename_i r
    simp only[Ed,CN]
    cases hr:aL A.st r with
    | none=>rw[hr]at hp;exact hp.elim
    | some row=>
     rw[hr]at hp;rw[one hr]
     cases row with
     | mit m n rem cur=>
      cases cur with
      | none=>exact hp.elim
      | some i=>
       simp only at hp ⊢
       cases hm:aL A.st m with
       | none=>rw[hm]at hp;exact hp.elim
       | some row=>rw[hm]at hp;rw[one hm];exact⟨hp,rfl⟩
     | mid m n bs rem cur=>
      cases cur with
      | none=>exact hp.elim
      | some i=>
       simp only at hp ⊢
       cases hm:aL A.st m with
       | none=>rw[hm]at hp;exact hp.elim
       | some row=>rw[hm]at hp;rw[one hm];exact⟨hp,rfl⟩
     | _=>exact hp.elim
   ·exact hp.elim
  exact⟨⟨hc,key.1⟩,key.2⟩
theorem uZ {f h:AV→Option PV} (hf:∀v p,f v=some p→h v=some p):∀{l:List AV} {ps:List PV},dK f l=some ps→dK h l=some ps
 | [],ps,hs=>hs
 | v::l,ps,hs=>by
  simp only[dK]at hs ⊢
  split at hs
  ·rename_i p qs h1 h2
   rw[hf _ _ h1,uZ hf h2];exact hs
  ·cases hs
theorem Dh {s t:List (Nat×Row)} (h:∀r row,aL s r=some row→aL t r=some row):∀(k:Nat) (v:AV) (p:PV),cV s k v=some p→cV t k v=some p
 | 0,_,_,hs=>by cases hs
 | k+1,v,p,hs=>by
  have ih:=Dh h k
  have ihL:=fun {l:List AV} {ps:List PV} (hh:dK (cV s k) l=some ps)=>uZ ih hh
  cases v with
  | agg cs|tup cs|fn _ cs=>
   simp only[cV]at hs ⊢
   split at hs
   ·rename_i ps h1;rw[ihL h1];exact hs
   ·cases hs
  | row r off n=>
   simp only[cV]at hs ⊢
   cases hr:aL s r with
   | none=>rw[hr]at hs;cases hs
   | some row=>rw[hr]at hs;rw[h _ _ hr];exact hs
  | ptr r off=>
   cases off with
   | zero=>
    simp only[cV]at hs ⊢
    cases hr:aL s r with
    | none=>rw[hr]at hs;cases hs
    | some row=>
     rw[hr]at hs;rw[h _ _ hr]
     cases row with
     | box cs=>
      simp only at hs ⊢
      split at hs
      ·rename_i ps h1;rw[ihL h1];exact hs
      ·cases hs
     | _=>cases hs
   | succ n=>simp only[cV]at hs;cases hs
  | cptr cs off=>cases off<;>exact hs
  | _=>exact hs
theorem uG {U:List Nat} (h:Ext U A B) {f:Opd} {args:List Opd} (hf:f.ev A=f.ev B) (ha:∀x∈args,x.ev A=x.ev B) {r:FuncId×List PV×Bool} (hc:cB A f args=some r):cB B f args=some r:=by
 have h1:=(mE ha).1
 simp only[cB,Opd.sv,hf,h1]at hc ⊢
 split at hc
 ·rename_i gg caps hg
  split at hc
  ·rename_i ps hs
   rw[uZ (Dh h.st 4) hs];exact hc
  ·cases hc
 ·cases hc
theorem JK {U:List Nat} (h:Ext U A B) (hu:BQ U g op=true) (he:o5 P A d g op E):o5 P B d g op E:=by
 simp only[BQ,Bool.and_eq_true,List.all_eq_true]at hu
 have ho:∀x∈op.opds,x.ev A=x.ev B:=fun x hx=>Opd.ev_ext h (List.all_eq_true.2 (hu.2 x hx))
 unfold o5 at he
 split at he
 ·rename_i q
  obtain⟨h1,rfl⟩:=he
  obtain⟨h2,h3⟩:=FL h (q:=q) (fun x hx=>ho x hx) h1
  rw[h3];exact⟨h2,rfl⟩
 ·rename_i t b q
  have hg:bC A.fr t=bC B.fr t:=h.fr t (bU.1 (hu.1 t (by simp[y2])))
  rw[hg]at he
  obtain⟨h1,v,h2,rfl⟩:=he
  refine⟨h1,v,fun hb=>?_,rfl⟩
  obtain⟨h3,h4⟩:=FL h (q:=q) (fun x hx=>ho x hx) (h2 hb).1
  exact⟨h3,(h2 hb).2.trans h4⟩
 ·exact he
 ·rename_i x
  have h1:=ho x (by simp[IOp.opds])
  simp only[o5,Opd.sv,Opd.cd,h1]at he ⊢
  exact he
 ·rename_i xs s
  have h1:=mE (A:=A) (B:=B) (xs:=xs) fun x hx=>ho x hx
  simp only[o5,h1.1,h1.2]at he ⊢
  exact he
 ·rename_i l c s bytes z
  have h1:=ho l (by simp[IOp.opds])
  have h2:=ho c (by simp[IOp.opds])
  simp only[o5,Opd.sv,Opd.cd,h1,h2]at he ⊢
  exact he
 ·rename_i f args
  have h1:=mE (A:=A) (B:=B) (xs:=args) fun x hx=>ho x (by simp[IOp.opds,hx])
  have h2:=ho f (by simp[IOp.opds])
  obtain⟨h3,gg,ps,pure,v,rs,h4,h5,h6,h7,h8⟩:=he
  simp only[Opd.cd,h2,h1.2]at h3
  exact⟨h3,gg,ps,pure,v,rs,uG h h2 (fun x hx=>ho x (by simp[IOp.opds,hx])) h4,h5,h6,h7,h8⟩
 ·rename_i t b f args
  have hg:bC A.fr t=bC B.fr t:=h.fr t (bU.1 (hu.1 t (by simp[y2])))
  have h1:=mE (A:=A) (B:=B) (xs:=args) fun x hx=>ho x (by simp[IOp.opds,hx])
  have h2:=ho f (by simp[IOp.opds])
  rw[hg]at he
  obtain⟨h0,h3,gg,ps,pure,p,h4,h5,h6⟩:=he
  simp only[Opd.cd,h2,h1.2]at h3
  exact⟨h0,h3,gg,ps,pure,p,uG h h2 (fun x hx=>ho x (by simp[IOp.opds,hx])) h4,h5,h6⟩
 ·exact he.elim
end
end Go.Vc

namespace Go.Vc
open Go.RowKit
set_option linter.unusedSimpArgs false
set_option linter.constructorNameAsVariable false
def GI.own (i:GI):Nat:=H2 i.d i.op
def GI.out (N:List Nat) (i:GI):Nat→Bool:=fun q=>iS N q&&(!iS i.R q && !(i.own==q))
def nV (D:Nat→Bool) (st:List (Nat×Row)):Option (Nat×Row)→List (Nat×Row)
 | none=>st
 | some (r,row)=>(r,row.clip D)::aQ st r
def St.add (σ:St) (d:Nat) (D:Nat→Bool) (E:Eff):St:=⟨gB σ.fr d (E.v.clip D),nV D σ.st E.nr⟩
def J3 (P:Program) (N:List Nat):List GI→St→(St→Prop)→Prop
 | [],σ,K=>K σ
 | i::L,σ,K=>∃E,o5 P (σ.norm i.U i.R) i.d i.g i.op E∧J3 P N L (σ.add i.d (i.out N) E) K
structure Same (σ τ:St):Prop where
 fr:∀t,cS σ.fr t=cS τ.fr t
 st:∀r,aL σ.st r=aL τ.st r
theorem Same.rfl' {σ:St}:Same σ σ:=⟨fun _=>rfl,fun _=>rfl⟩
theorem vG {l m:List (Nat×AV)}:∀{U:List Nat},(∀t∈U,cS l t=cS m t)→iG l U=iG m U
 | [],_=>rfl
 | t::U,h=>by
  have ih:=vG (U:=U) fun t ht=>h t (List.mem_cons_of_mem _ ht)
  simp only[iG,h t (by simp),ih]
theorem uV {l m:List (Nat×Row)}:∀{U:List Nat},(∀t∈U,aL l t=aL m t)→eF l U=eF m U
 | [],_=>rfl
 | t::U,h=>by
  have ih:=uV (U:=U) fun t ht=>h t (List.mem_cons_of_mem _ ht)
  simp only[eF,h t (by simp),ih]
theorem Same.norm {σ τ:St} (h:Same σ τ) (U R:List Nat):σ.norm U R=τ.norm U R:=by
 unfold St.norm
 rw[vG fun t _=>h.fr t,uV fun r _=>h.st r]
theorem sP {l:List (Nat×AV)} {d t:Nat} {v:AV}:cS (gB l d v) t=if d=t then some v else cS l t:=by
 simp only[gB,cS]
 split
 ·rfl
 ·rename_i hn
  induction l with
  | nil=>rfl
  | cons a l ih=>
   obtain⟨k,u⟩:=a
   simp only[kF]
   split
   ·rename_i hk
    have:¬k=t:=fun e=>hn (by rw[←hk,e])
    simp only[cS,if_neg this]
    exact ih
   ·simp only[cS]
    split
    ·rfl
    ·exact ih
theorem Gt {l:List (Nat×Row)} {r q:Nat} (h:r≠q):aL (aQ l r) q=aL l q:=by
 induction l with
 | nil=>rfl
 | cons a l ih=>
  obtain⟨k,u⟩:=a
  simp only[aQ]
  split
  ·rename_i hk
   have:¬k=q:=fun e=>h (by rw[←hk,e])
   simp only[aL,if_neg this]
   exact ih
  ·simp only[aL]
   split
   ·rfl
   ·exact ih
theorem uW {D:Nat→Bool} {l:List (Nat×Row)} {o:Option (Nat×Row)} {q:Nat}:aL (nV D l o) q=match o with
  | none=>aL l q
  | some (r,row)=>if r=q then some (row.clip D)else aL l q:=by
 cases o with
 | none=>rfl
 | some a=>
  obtain⟨r,row⟩:=a
  simp only[nV,aL]
  split
  ·rfl
  ·rename_i h;exact Gt h
theorem Same.add {σ τ:St} (h:Same σ τ) (d:Nat) (D:Nat→Bool) (E:Eff):Same (σ.add d D E) (τ.add d D E):=by
 refine⟨fun t=>?_,fun r=>?_⟩
 ·simp only[St.add,sP,h.fr]
 ·simp only[St.add,uW]
  split
  ·exact h.st r
  ·simp only[h.st]
theorem JV {σ:St} {d d':Nat} {D D':Nat→Bool} {E E':Eff} (hd:d≠d') (hr:∀r row r' row',E.nr=some (r,row)→E'.nr=some (r',row')→r≠r'):
  Same ((σ.add d D E).add d' D' E') ((σ.add d' D' E').add d D E):=by
 refine⟨fun t=>?_,fun q=>?_⟩
 ·simp only[St.add,sP]
  by_cases h1:d=t
  ·subst h1
   rw[if_pos rfl,if_neg (Ne.symm hd),if_pos rfl]
  ·by_cases h2:d'=t
   ·subst h2;simp[hd]
   ·simp[h1,h2]
 ·simp only[St.add,uW]
  cases he:E.nr with
  | none=>rfl
  | some a=>
   obtain⟨r,row⟩:=a
   cases he':E'.nr with
   | none=>rfl
   | some b=>
    obtain⟨r',row'⟩:=b
    have hne:=hr r row r' row' he he'
    simp only
    by_cases h1:r=q
    ·subst h1;rw[if_pos rfl,if_neg (Ne.symm hne),if_pos rfl]
    ·by_cases h2:r'=q
     ·subst h2;simp[hne]
     ·simp[h1,h2]
theorem Db {P:Program} {N:List Nat} {K:St→Prop} (hK:∀σ τ,Same σ τ→K σ→K τ):∀{L:List GI} {σ τ:St},Same σ τ→J3 P N L σ K→J3 P N L τ K
 | [],_,_,h,hk=>hK _ _ h hk
 | i::L,σ,τ,h,hk=>by
  obtain⟨E,h1,h2⟩:=hk
  exact⟨E,by rw[←h.norm];exact h1,Db hK (h.add _ _ _) h2⟩
structure Indep (i j:GI):Prop where
 d:i.d≠j.d
 own:i.own≠j.own
 u:j.d∉i.U
 u':i.d∉j.U
 r:j.own∉i.R
 r':i.own∉j.R
theorem Dp {σ:St} {d:Nat} {D:Nat→Bool} {E:Eff} {U R:List Nat} (hd:d∉U) (hr:∀r row,E.nr=some (r,row)→r∉R):(σ.add d D E).norm U R=σ.norm U R:=by
 have h1:iG (σ.add d D E).fr U=iG σ.fr U:=vG fun t ht=>by
  simp only[St.add,sP]
  rw[if_neg fun e=>hd (by rw[e];exact ht)]
 have h2:eF (σ.add d D E).st R=eF σ.st R:=uV fun r hr'=>by
  simp only[St.add,uW]
  split
  ·rfl
  ·rename_i r0 row he
   rw[if_neg fun e=>hr r0 row he (by rw[e];exact hr')]
 unfold St.norm
 rw[h1,h2]
theorem IH {P:Program} {N:List Nat} {K:St→Prop} (hK:∀σ τ,Same σ τ→K σ→K τ) {i j:GI} {L:List GI} {σ:St} (h:Indep i j) (hk:J3 P N (i::j::L) σ K):J3 P N (j::i::L) σ K:=by
 obtain⟨E,h1,E',h2,h3⟩:=hk
 have o1:∀r row,E.nr=some (r,row)→r=i.own:=fun r row hn=>(Co h1 hn).1
 rw[Dp h.u' fun r row hn=>by rw[o1 r row hn];exact h.r']at h2
 have o2:∀r row,E'.nr=some (r,row)→r=j.own:=fun r row hn=>(Co h2 hn).1
 refine⟨E',h2,E,?_,Db hK (JV h.d fun r row r' row' a b=>by rw[o1 r row a,o2 r' row' b];exact h.own) h3⟩
 rw[Dp h.u fun r row hn=>by rw[o2 r row hn];exact h.r]
 exact h1
theorem AR {P:Program} {N:List Nat} {K:St→Prop} (hK:∀σ τ,Same σ τ→K σ→K τ) {j:GI}:∀{L1 L2:List GI} {σ:St},(∀i∈L1,Indep i j)→J3 P N (L1++j::L2) σ K→J3 P N (j::(L1++L2)) σ K
 | [],_,_,_,hk=>hk
 | i::L1,L2,σ,h,hk=>by
  refine IH hK (h i (by simp)) ?_
  obtain⟨E,h1,h2⟩:=hk
  exact⟨E,h1,AR hK (fun k hk=>h k (List.mem_cons_of_mem _ hk)) h2⟩
mutual
theorem rA {D D':Nat→Bool} (h:∀q,D' q=true→D q=true):∀v:AV,(v.clip D).clip D'=v.clip D
 | .un|.pv _|.e0|.eptr _ _ _|.cptr _ _|.ful _=>by simp only[AV.clip]
 | .agg cs|.tup cs|.lit cs|.fn _ cs|.bnd _ cs=>by simp only[AV.clip,qH h cs]
 | .row r _ _|.ptr r _|.rptr r _ _|.mp r|.it r=>by
  simp only[AV.clip]
  cases hD:D r
  ·have:D' r=false:=by
    cases hD':D' r
    ·rfl
    ·rw[h r hD']at hD;cases hD
   simp only[Bool.false_eq_true,if_false,AV.clip,this]
  ·simp only[if_true,AV.clip]
 | .whn _ v=>by simp only[AV.clip,rA h v]
theorem qH {D D':Nat→Bool} (h:∀q,D' q=true→D q=true):∀l:List AV,AV.clips D' (AV.clips D l)=AV.clips D l
 | []=>rfl
 | v::l=>by simp only[AV.clips,rA h v,qH h l]
end
theorem zP {D D':Nat→Bool} (h:∀q,D' q=true→D q=true) (row:Row):(row.clip D).clip D'=row.clip D:=by
 cases row with
 | mit m n rem cur=>
  simp only[Row.clip]
  cases hD:D m
  ·have:D' m=false:=by
    cases hD':D' m
    ·rfl
    ·rw[h m hD']at hD;cases hD
   simp only[Bool.false_eq_true,if_false,Row.clip,this]
  ·simp only[if_true,Row.clip]
 | mid m n bs rem cur=>
  simp only[Row.clip]
  cases hD:D m
  ·have:D' m=false:=by
    cases hD':D' m
    ·rfl
    ·rw[h m hD']at hD;cases hD
   simp only[Bool.false_eq_true,if_false,Row.clip,this]
  ·simp only[if_true,Row.clip]
 | _=>simp only[Row.clip,qH h]
structure NoRef (r:Nat) (σ:St):Prop where
 fr:∀k v,(k,v)∈σ.fr→v.clip (only r)=v
 st:∀q row,(q,row)∈σ.st→q≠r∧row.clip (only r)=row
theorem Bk {D:Nat→Bool}:∀{l:List (Nat×AV)},(∀k v,(k,v)∈l→v.clip D=v)→iH D l=l
 | [],_=>rfl
 | (k,v)::l,h=>by simp only[iH,h k v (by simp),Bk fun k v hm=>h k v (List.mem_cons_of_mem _ hm)]
theorem AX {D:Nat→Bool}:∀{l:List (Nat×Row)},(∀k v,(k,v)∈l→v.clip D=v)→eG D l=l
 | [],_=>rfl
 | (k,v)::l,h=>by simp only[eG,h k v (by simp),AX fun k v hm=>h k v (List.mem_cons_of_mem _ hm)]
theorem yO {r:Nat}:∀{l:List (Nat×Row)},(∀k v,(k,v)∈l→k≠r)→aQ l r=l
 | [],_=>rfl
 | (k,v)::l,h=>by simp only[aQ,if_neg (h k v (by simp)),yO fun k v hm=>h k v (List.mem_cons_of_mem _ hm)]
theorem NoRef.new {r:Nat} {σ:St} (h:NoRef r σ) (row:Row):σ.newRow r row=⟨σ.fr,(r,row)::σ.st⟩:=by
 unfold St.newRow
 rw[Bk h.fr,yO fun k v hm=>(h.st k v hm).1,AX fun k v hm=>(h.st k v hm).2]
theorem Kept.rfl' {x:Cx}:Kept x x:=⟨Nat.le_refl _,fun _ _ _=>rfl,fun _ _ h=>h⟩
theorem SRel.weak {e:Env} {σ τ:St} {x:Cx} {a:Act} (h:SRel e σ x a) (hfr:∀k v,(k,v)∈τ.fr→∃u D,(k,u)∈σ.fr∧v=u.clip D) (hst:∀r row,(r,row)∈τ.st→∃u D,(r,u)∈σ.st∧row=u.clip D)
  (hk:τ.st.map (·.1)=σ.st.map (·.1)):SRel e τ x a:=
 have hm:∀r row,(r,row)∈τ.st→∃row',(r,row')∈σ.st:=fun r row hm=>let⟨u,_,h1,_⟩:=hst r row hm;⟨u,h1⟩
 {defers:=h.defers
  size:=h.size
  fr:=fun k v hm=>by
   obtain⟨u,D,h1,rfl⟩:=hfr k v hm
   obtain⟨cv,h2,h3⟩:=h.fr k u h1
   exact⟨cv,h2,aB.clip Kept.rfl' (fun _ _=>rfl) u h3⟩
  st:=fun r row hm=>by
   obtain⟨u,D,h1,rfl⟩:=hst r row hm
   exact Row.clip_rel Kept.rfl' (fun _ _=>rfl) (fun _=>rfl) (h.st r u h1)
  keys:=by rw[hk];exact h.keys
  inj:=fun r row r' row' h1 h2=>let⟨u,k1⟩:=hm r row h1;let⟨u',k2⟩:=hm r' row' h2;h.inj r u r' u' k1 k2
  F:=fun b=>by
   rw[h.F b]
   have key:∀{s t:List (Nat×Row)},s.map (·.1)=t.map (·.1)→d6 s x.ρ b→d6 t x.ρ b:=by
    intro s t hst ⟨r,row,h1,h2⟩
    have:r∈t.map (·.1):=by rw[←hst];exact List.mem_map.2 ⟨_,h1,rfl⟩
    obtain⟨⟨r',row'⟩,h3,rfl⟩:=List.mem_map.1 this
    exact⟨_,row',h3,h2⟩
   constructor
   ·exact Or.imp id (key hk.symm)
   ·exact Or.imp id (key hk)
  own:=fun r row h1 hok=>let⟨u,k1⟩:=hm r row h1;h.own r u k1 hok
  f0:=h.f0
  tabs:=h.tabs
  below:=h.below
  fix:=h.fix
  small:=h.small }
theorem Al (v:AV):v=v.clip (fun _=>false):=(nJ v).symm
theorem zN (row:Row):row=row.clip (fun _=>false):=by
 cases row<;>simp only[Row.clip,dJ,Bool.false_eq_true,if_false]
theorem SRel.add {e:Env} {σ:St} {x:Cx} {a:Act} {d:Nat} {D:Nat→Bool} {E:Eff} (h:SRel e (σ.app d E) x a) (hn:∀r row,E.nr=some (r,row)→NoRef r σ):SRel e (σ.add d D E) x a:=by
 cases he:E.nr with
 | none=>
  simp only[St.app,he]at h
  refine h.weak (fun k v hm=>?_) (fun r row hm=>?_) ?_
  ·simp only[St.add,gB]at hm
   rcases List.mem_cons.1 hm with hm|hm
   ·injection hm with h1 h2
    subst h1;subst h2
    exact⟨E.v,D,by simp only[St.put,gB];exact List.mem_cons_self,rfl⟩
   ·exact⟨v,fun _=>false,by simp only[St.put,gB];exact List.mem_cons_of_mem _ hm,Al v⟩
  ·simp only[St.add,he,nV]at hm
   exact⟨row,fun _=>false,hm,zN row⟩
  ·simp only[St.add,he,nV,St.put]
 | some q=>
  obtain⟨r,row⟩:=q
  have hr:=hn r row he
  simp only[St.app,he,hr.new]at h
  have hdel:aQ σ.st r=σ.st:=yO fun k v hm=>(hr.st k v hm).1
  refine h.weak (fun k v hm=>?_) (fun q row' hm=>?_) ?_
  ·simp only[St.add,gB]at hm
   rcases List.mem_cons.1 hm with hm|hm
   ·injection hm with h1 h2
    subst h1;subst h2
    exact⟨E.v,D,by simp only[St.put,gB];exact List.mem_cons_self,rfl⟩
   ·exact⟨v,fun _=>false,by simp only[St.put,gB];exact List.mem_cons_of_mem _ hm,Al v⟩
  ·simp only[St.add,he,nV,hdel]at hm
   rcases List.mem_cons.1 hm with hm|hm
   ·injection hm with h1 h2
    subst h1;subst h2
    exact⟨row,D,by simp only[St.put];exact List.mem_cons_self,rfl⟩
   ·exact⟨row',fun _=>false,by simp only[St.put];exact List.mem_cons_of_mem _ hm,zN row'⟩
  ·simp only[St.add,he,nV,hdel,St.put,List.map_cons]
theorem NoRef.add {q:Nat} {σ:St} {d:Nat} {D:Nat→Bool} {E:Eff} (h:NoRef q σ) (hD:D q=true) (hq:∀r row,E.nr=some (r,row)→r≠q):NoRef q (σ.add d D E):=by
 have hD':∀p,only q p=true→D p=true:=fun p hp=>by
  simp only[only,beq_iff_eq]at hp
  rw[hp];exact hD
 refine⟨fun k v hm=>?_,fun p row hm=>?_⟩
 ·simp only[St.add,gB]at hm
  rcases List.mem_cons.1 hm with hm|hm
  ·injection hm with h1 h2
   subst h2
   exact rA hD' _
  ·exact h.fr k v (fS hm).1
 ·simp only[St.add]at hm
  cases he:E.nr with
  | none=>rw[he]at hm;exact h.st p row hm
  | some b=>
   obtain⟨r,MV⟩:=b
   rw[he]at hm
   simp only[nV]at hm
   rcases List.mem_cons.1 hm with hm|hm
   ·injection hm with h1 h2
    subst h1;subst h2
    exact⟨hq _ MV he,zP hD' _⟩
   ·exact h.st p row (bE hm).1
def s5 (N:List Nat):List (Nat×Row)→List (Nat×Row)
 | []=>[]
 | (r,row)::l=>if iS N r then s5 N l else(r,row.clip (iS N))::s5 N l
def St.strip (σ:St) (N:List Nat):St:=⟨iH (iS N) σ.fr,s5 N σ.st⟩
theorem jE {N:List Nat}:∀{l:List (Nat×Row)} {r:Nat} {row:Row},(r,row)∈s5 N l→iS N r=false∧∃u,(r,u)∈l∧row=u.clip (iS N)
 | [],_,_,h=>by cases h
 | (q,u)::l,r,row,h=>by
  simp only[s5]at h
  split at h
  ·obtain⟨h1,u',h2,h3⟩:=jE h
   exact⟨h1,u',List.mem_cons_of_mem _ h2,h3⟩
  ·rename_i hq
   rcases List.mem_cons.1 h with h|h
   ·injection h with h1 h2
    subst h1
    exact⟨by simpa using hq,u,by simp,h2⟩
   ·obtain⟨h1,u',h2,h3⟩:=jE h
    exact⟨h1,u',List.mem_cons_of_mem _ h2,h3⟩
theorem sK {N:List Nat}:∀{l:List (Nat×Row)},(l.map (·.1)).Nodup→((s5 N l).map (·.1)).Nodup
 | [],_=>by simp[s5]
 | (q,u)::l,h=>by
  simp only[List.map_cons,List.nodup_cons]at h
  simp only[s5]
  split
  ·exact sK h.2
  ·simp only[List.map_cons,List.nodup_cons]
   refine⟨fun hm=>?_,sK h.2⟩
   obtain⟨⟨q',row⟩,h1,h2⟩:=List.mem_map.1 hm
   have h2':q'=q:=h2
   subst h2'
   obtain⟨_,u',h3,_⟩:=jE h1
   exact h.1 (List.mem_map.2 ⟨_,h3,rfl⟩)
theorem SRel.strip {e:Env} {σ:St} {x:Cx} {a:Act} (h:SRel e σ x a) (N:List Nat):∃y,y.w=x.w∧SRel e (σ.strip N) y a:=by
 have k:Kept x ⟨x.w,fun b=>e.F0 b∨d6 (σ.strip N).st x.ρ b,x.ρ⟩:=⟨Nat.le_refl _,fun _ _ _=>rfl,fun b _ hb=>(h.F b).2 (hb.imp id fun⟨r,row,h1,h2⟩=>let⟨_,u,h3,_⟩:=jE h1;⟨r,u,h3,h2⟩)⟩
 have hm:∀r row,(r,row)∈(σ.strip N).st→∃row',(r,row')∈σ.st:=fun r row hm=>let⟨_,u,h1,_⟩:=jE hm;⟨u,h1⟩
 exact⟨⟨x.w,fun b=>e.F0 b∨d6 (σ.strip N).st x.ρ b,x.ρ⟩,rfl,{
  defers:=h.defers
  size:=h.size
  fr:=fun t v hm=>by
   obtain⟨u,h1,rfl⟩:=lM hm
   obtain⟨cv,h2,h3⟩:=h.fr t u h1
   exact⟨cv,h2,aB.clip k (fun _ _=>rfl) u h3⟩
  st:=fun r row hm=>by
   obtain⟨_,u,h1,rfl⟩:=jE hm
   exact Row.clip_rel k (fun _ _=>rfl) (fun _=>rfl) (h.st r u h1)
  keys:=sK h.keys
  inj:=fun r row r' row' h1 h2=>let⟨u,k1⟩:=hm r row h1;let⟨u',k2⟩:=hm r' row' h2;h.inj r u r' u' k1 k2
  F:=fun b=>Iff.rfl
  own:=fun r row h1 hok=>let⟨u,k1⟩:=hm r row h1;h.own r u k1 hok
  f0:=h.f0
  tabs:=h.tabs
  below:=h.below
  fix:=h.fix
  small:=h.small }⟩
theorem DY {σ:St} {N:List Nat} {r:Nat} (h:iS N r=true):NoRef r (σ.strip N):=by
 have hD:∀p,only r p=true→iS N p=true:=fun p hp=>by
  simp only[only,beq_iff_eq]at hp
  rw[hp];exact h
 refine⟨fun k v hm=>?_,fun q row hm=>?_⟩
 ·obtain⟨u,_,rfl⟩:=lM hm
  exact rA hD u
 ·obtain⟨h1,u,_,rfl⟩:=jE hm
  refine⟨fun e=>?_,zP hD u⟩
  rw[e,h]at h1;cases h1
end Go.Vc

namespace Go.Vc
open Go.RowKit
set_option linter.constructorNameAsVariable false
def lT (sz:Nat) (l:List Nat):Array Bool:=⟨(List.range sz).map (iS l)⟩
theorem EX {sz:Nat} {l:List Nat}:(lT sz l).size=sz:=by simp[lT]
theorem q7 {sz:Nat} {l:List Nat} {i:Nat} (d:Bool) (h:i<sz):(lT sz l).getD i d=iS l i:=by
 simp[lT,Array.getD_eq_getD_getElem?,h]
theorem G1 {sz:Nat} {l:List Nat} {i:Nat} (d:Bool) (h:¬i<sz):(lT sz l).getD i d=d:=by
 simp[lT,Array.getD_eq_getD_getElem?,h]
def OP (P:Program) (owns:List Nat) (n:Nat) (ops:Array Oper) (N:List Nat) (x:Nat×List Nat×List Nat):Option (Nat×GI):=match ops[x.1]? with
 | some o=>match eT P owns n ops o with
  | some ⟨some d,g,op⟩=>if BQ x.2.1 g op&&(!m7 op||iS N (H2 d op))then some (x.1,⟨d,g,op,x.2.1,x.2.2⟩)else none
  | _=>none
 | none=>none
def C0 (P:Program) (owns:List Nat) (n:Nat) (ops:Array Oper) (N:List Nat):List (Nat×List Nat×List Nat)→Option (List (Nat×GI))
 | []=>some []
 | x::l=>match OP P owns n ops N x,C0 P owns n ops N l with
  | some a,some r=>some (a::r)
  | _,_=>none
def tE (ops:Array Oper) (D:List Nat) (k:Nat):Bool:=match ops[k]? with
 | some o=>o.after.toList.any fun e=>Region.binds .any e&&iS D e.on
 | none=>false
def iA (ops:Array Oper):List Nat→List Nat→List Nat
 | [],D=>D
 | k::r,D=>if tE ops D k then iA ops r (k::D)else iA ops r D
def CX (l D:List Nat):List Nat:=l.filter fun x => !iS D x
def pK (ops:Array Oper) (ids:List Nat) (a b:Nat×GI):Bool:=
 !(a.2.d==b.2.d) && !(a.2.own==b.2.own) && !iS a.2.U b.2.d && !iS a.2.R b.2.own&&
  ((!iS b.2.U a.2.d && !iS b.2.R a.2.own)||(!(a.1==b.1)&&iS (iA ops ids [a.1]) b.1))
def xG (ops:Array Oper) (ids:List Nat):List (Nat×GI)→Bool
 | []=>true
 | a::l=>l.all (pK ops ids a)&&xG ops ids l
def uO (ops:Array Oper):List Nat→List Nat→Bool
 | _,[]=>true
 | pre,i::l=>iS (Region.ready .any ops (lT ops.size pre)) i&&uO ops (i::pre) l
def C3:IOp→Bool
 | .q (.mv _)=>true
 | .q (.ext _ _)=>true
 | _=>false
def Ie (ops:Array Oper) (h:Nat):Bool:=match ops[h]? with
 | some oi=>(List.range ops.size).all fun j=>iS (iA ops (List.range ops.size) [h]) j||iS (iA ops (List.range ops.size) [j]) h||(match ops[j]? with|some oj=>oi.apart ops oj|none=>false)
 | none=>false
def H5 (ops:Array Oper) (p:Nat×GI):Bool:=p.2.g.isNone&&C3 p.2.op&&Ie ops p.1
def Es (ops:Array Oper) (ids:List Nat) (G:List (Nat×GI)):Bool:=G.all fun p=>(Region.ready .any ops (lT ops.size (CX ids (iA ops ids [p.1])))).all (iS ids)||H5 ops p
def F2 (P:Program) (owns:List Nat) (n:Nat) (ops:Array Oper) (N:List Nat) (l:List (Nat×List Nat×List Nat)):Option (List (Nat×GI)):=match C0 P owns n ops N l with
 | some G=>if uO ops [] (l.map (·.1))&&Es ops (l.map (·.1)) G&&xG ops (l.map (·.1)) G then some G else none
 | none=>none
section
variable {P:Program} {owns:List Nat} {ops:Array Oper} {N:List Nat} {e:Env} {Q:Exit→Act→World→Prop} {calm:Nat→Bool} {K:St→Prop}
structure GOk (P:Program) (owns:List Nat) (n:Nat) (ops:Array Oper) (N:List Nat) (p:Nat×GI):Prop where
 is:∃o,ops[p.1]?=some o∧eT P owns n ops o=some ⟨some p.2.d,p.2.g,p.2.op⟩
 uses:BQ p.2.U p.2.g p.2.op=true
 row:m7 p.2.op=true→iS N p.2.own=true
theorem DB {n:Nat}:∀{l:List (Nat×List Nat×List Nat)} {G:List (Nat×GI)},C0 P owns n ops N l=some G→G.map (·.1)=l.map (·.1)∧∀p∈G,GOk P owns n ops N p
 | [],G,h=>by simp only[C0,Option.some.injEq]at h;subst h;exact⟨rfl,fun p hp=>by cases hp⟩
 | x::l,G,h=>by
  simp only[C0]at h
  split at h
  ·rename_i a r h1 h2
   injection h with h;subst h
   obtain⟨h3,h4⟩:=DB h2
   unfold OP at h1
   split at h1
   ·rename_i o ho
    split at h1
    ·rename_i d g op hi
     split at h1
     ·rename_i hc
      simp only[Bool.and_eq_true,Bool.or_eq_true,Bool.not_eq_true']at hc
      injection h1 with h1;subst h1
      refine⟨by simp[h3],fun p hp=>?_⟩
      rcases List.mem_cons.1 hp with rfl|hp
      ·exact⟨⟨o,ho,hi⟩,hc.1,fun hm=>hc.2.resolve_left fun hf=>(by rw[hm]at hf;cases hf)⟩
      ·exact h4 p hp
     ·cases h1
    ·cases h1
   ·cases h1
  ·cases h
theorem AZ {l l':Array Bool} {j:Nat} (h:j∈Region.ready .any ops l) (hs:∀i,l.getD i false=true→l'.getD i false=true) (hj:l'.getD j true=false):j∈Region.ready .any ops l':=by
 rw[mem_ready]at h ⊢
 obtain⟨_,o,ho,h⟩:=h
 exact⟨hj,o,ho,fun e he hb=>hs _ (h e he hb)⟩
theorem yS {l:Array Bool} {j:Nat} (h:j∈Region.ready .any ops l):j<ops.size:=by
 rw[mem_ready]at h
 obtain⟨_,o,ho,_⟩:=h
 exact(Array.getElem?_eq_some_iff.1 ho).1
structure Left (ops:Array Oper) (ids:List Nat) (L:List Nat) (listed:Array Bool):Prop where
 size:listed.size=ops.size
 at_:∀i,i<ops.size→listed.getD i false=(iS ids i && !iS L i)
 down:∀k o,ops[k]?=some o→listed.getD k false=true→∀e∈o.after,Region.binds .any e=true→listed.getD e.on false=true
theorem zH {listed:Array Bool} {D:List Nat} {k:Nat} (hd:∀o,ops[k]?=some o→listed.getD k false=true→∀e∈o.after,Region.binds .any e=true→listed.getD e.on false=true)
  (hD:∀i∈D,listed.getD i false=false) (h:tE ops D k=true):listed.getD k false=false:=by
 unfold tE at h
 split at h
 ·rename_i o ho
  obtain⟨e,he,h⟩:=List.any_eq_true.1 h
  simp only[Bool.and_eq_true]at h
  cases hl:listed.getD k false with
  | false=>rfl
  | true=>
   have:=hd o ho hl e (by simpa using he) h.1
   rw[hD _ (bU.1 h.2)]at this
   cases this
 ·cases h
theorem xQ {ids L:List Nat} {listed:Array Bool} (h:Left ops ids L listed):∀{r D:List Nat},(∀i∈D,listed.getD i false=false)→∀i∈iA ops r D,listed.getD i false=false
 | [],D,hD=>hD
 | k::r,D,hD=>by
  simp only[iA]
  split
  ·rename_i hw
   refine xQ h fun i hi=>?_
   rcases List.mem_cons.1 hi with rfl|hi
   ·exact zH (fun o ho=>h.down _ o ho) hD hw
   ·exact hD i hi
  ·exact xQ h hD
theorem t6 {ids L:List Nat} {listed:Array Bool} (h:Left ops ids L listed) {j:Nat} (hj:j∈Region.ready .any ops listed):∀{r D:List Nat},(∀i∈D,listed.getD i false=false)→j∈iA ops r D→j∈D
 | [],D,_,hm=>hm
 | k::r,D,hD,hm=>by
  simp only[iA]at hm
  split at hm
  ·rename_i hw
   have hk:=zH (fun o ho=>h.down _ o ho) hD hw
   have hkj:j∈k::D:=t6 h hj (fun i hi=>by
    rcases List.mem_cons.1 hi with rfl|hi
    ·exact hk
    ·exact hD i hi) hm
   rcases List.mem_cons.1 hkj with e|hkj
   ·exfalso
    subst e
    unfold tE at hw
    split at hw
    ·rename_i o ho
     obtain⟨e,he,h1⟩:=List.any_eq_true.1 hw
     simp only[Bool.and_eq_true]at h1
     obtain⟨_,o',ho',hall⟩:=mem_ready.1 hj
     rw[ho]at ho'
     injection ho' with ho'
     subst ho'
     have:=hall e (by simpa using he) h1.1
     rw[hD _ (bU.1 h1.2)]at this
     cases this
    ·cases hw
   ·exact hkj
  ·exact t6 h hj hD hm
theorem Left.lt {ids L:List Nat} {listed:Array Bool} (h:Left ops ids L listed) {i:Nat} (hi:listed.getD i false=true):i<ops.size:=by
 refine Classical.byContradiction fun hn=>?_
 have:listed[i]?=none:=Array.getElem?_eq_none (by have:=h.size;omega)
 simp[Array.getD_eq_getD_getElem?,this]at hi
theorem Left.un {ids L:List Nat} {listed:Array Bool} (h:Left ops ids L listed) {i:Nat} (hi:i<ops.size):listed.getD i true=(iS ids i && !iS L i):=by
 rw[←h.at_ i hi]
 have hi':i<listed.size:=by rw[h.size];exact hi
 have:listed[i]?=some listed[i]:=Array.getElem?_eq_getElem hi'
 simp[Array.getD_eq_getD_getElem?,this]
theorem A8 {l D:List Nat} {x:Nat}:x∈CX l D↔x∈l∧x∉D:=by
 simp[CX,List.mem_filter,iF]
theorem JE {G:List (Nat×GI)} {p:Nat→Prop}:(∃q∈G,p q.1)→∃pre q post,G=pre++q::post∧p q.1∧∀r∈pre,¬p r.1:=by
 induction G with
 | nil=>rintro⟨q,hq,_⟩;cases hq
 | cons a G ih=>
  rintro⟨q,hq,hp⟩
  by_cases ha:p a.1
  ·exact⟨[],a,G,rfl,ha,fun r hr=>by cases hr⟩
  ·rcases List.mem_cons.1 hq with rfl|hq
   ·exact absurd hp ha
   ·obtain⟨pre,q',post,h1,h2,h3⟩:=ih ⟨q,hq,hp⟩
    refine⟨a::pre,q',post,by rw[h1];rfl,h2,fun r hr=>?_⟩
    rcases List.mem_cons.1 hr with rfl|hr
    ·exact ha
    ·exact h3 r hr
theorem A1:∀{l pre pre2 post:List Nat} {i:Nat},uO ops pre l=true→l=pre2++i::post→∃pre',(∀x,x∈pre'↔x∈pre∨x∈pre2)∧i∈Region.ready .any ops (lT ops.size pre')
 | [],pre,pre2,post,i,_,e=>by simp at e
 | a::l,pre,[],post,i,h,e=>by
  simp only[List.nil_append,List.cons.injEq]at e
  obtain⟨rfl,rfl⟩:=e
  simp only[uO,Bool.and_eq_true]at h
  exact⟨pre,fun x=>by simp,bU.1 h.1⟩
 | a::l,pre,b::pre2,post,i,h,e=>by
  simp only[List.cons_append,List.cons.injEq]at e
  obtain⟨rfl,e⟩:=e
  simp only[uO,Bool.and_eq_true]at h
  obtain⟨pre',h1,h2⟩:=A1 h.2 e
  refine⟨pre',fun x=>?_,h2⟩
  rw[h1 x]
  simp only[List.mem_cons]
  constructor
  ·rintro((h|h)|h)
   ·exact .inr (.inl h)
   ·exact .inl h
   ·exact .inr (.inr h)
  ·rintro(h|h|h)
   ·exact .inl (.inr h)
   ·exact .inl (.inl h)
   ·exact .inr h
theorem zS {ids:List Nat}:∀{G:List (Nat×GI)},xG ops ids G=true→G.Pairwise fun a b=>pK ops ids a b=true
 | [],_=>List.Pairwise.nil
 | a::l,h=>by
  simp only[xG,Bool.and_eq_true,List.all_eq_true]at h
  exact List.Pairwise.cons (fun b hb=>h.1 b hb) (zS h.2)
theorem wP {l:List (Nat×AV)} {t:Nat}:∀{U:List Nat},cS (iG l U) t=if t∈U then cS l t else none
 | []=>rfl
 | u::U=>by
  have ih:=wP (l:=l) (t:=t) (U:=U)
  simp only[iG]
  by_cases hu:u=t
  ·subst hu
   cases hs:cS l u with
   | none=>
    simp only[ih,hs]
    simp
   | some v=>simp[cS]
  ·have hne:¬t=u:=fun e=>hu e.symm
   cases hs:cS l u with
   | none=>simp only[ih,List.mem_cons,hne,false_or]
   | some v=>simp only[cS,if_neg hu,ih,List.mem_cons,hne,false_or]
theorem Ac:∀{l:List (Nat×AV)} {t:Nat},bC l t=(cS l t).getD .un
 | [],t=>rfl
 | (k,v)::l,t=>by
  simp only[bC,cS]
  split
  ·rfl
  ·exact Ac
theorem n8 {l:List (Nat×Row)} {r:Nat} {row:Row}:∀{R:List Nat},aL (eF l R) r=some row→aL l r=some row
 | [],h=>by simp[eF,aL]at h
 | q::R,h=>by
  simp only[eF]at h
  split at h
  ·exact n8 h
  ·split at h
   ·rename_i v hv
    simp only[aL]at h
    split at h
    ·rename_i hq
     subst hq
     rw[hv];exact h
    ·exact n8 h
   ·exact n8 h
theorem Jd (σ:St) (U R:List Nat):Ext U (σ.norm U R) σ:=
 ⟨fun t ht=>by simp only[St.norm,Ac,wP,if_pos ht],fun r row h=>n8 h⟩
theorem G9 [EP e P] {σ:St} {x:Cx} {a:Act} {o:Oper} {i:Inst} {is:List Inst} (hi:eT P owns e.n ops o=some i) (hc:i.op.quiet=true∨i.op.soft=true) (h:SRel e σ x a) (hk:aX P (i::is) σ K):
  if Region.wanted o (yielded ops a.tmps)then o.wp P a x.w (fun a' w'=>Agr x.w w'∧gK P e is K a' w') Q else Agr x.w x.w∧gK P e is K (a.put o.dst undef) x.w:=by
 rcases hc with hq|hs
 ·obtain⟨cv,σ',hy,h1,h2⟩:=lL hi hq h hk
  rcases hy with⟨hw,hr⟩|⟨hw,hv⟩
  ·rw[hw,if_pos rfl]
   exact aT (hr x.w (Agr.refl _)) ⟨Agr.refl _,σ',x,h1,rfl,h2⟩
  ·rw[hw,if_neg (by simp)]
   subst hv
   exact⟨Agr.refl _,σ',x,h1,rfl,h2⟩
 ·exact vE hi hs h hk Q
theorem ER {ids L:List Nat} {listed:Array Bool} (hl:Left ops ids L listed) {a b:Nat×GI} (h:pK ops ids a b=true) (hr:b.1∈Region.ready .any ops listed) (ha:listed.getD a.1 false=false):Indep a.2 b.2:=by
 simp only[pK,Bool.and_eq_true,Bool.or_eq_true,Bool.not_eq_true',beq_eq_false_iff_ne]at h
 obtain⟨⟨⟨⟨h1,h2⟩,h3⟩,h4⟩,h5⟩:=h
 rcases h5 with⟨h5,h6⟩|⟨h5,h6⟩
 ·exact⟨h1,h2,iF.1 h3,iF.1 h5,iF.1 h4,iF.1 h6⟩
 ·have:=t6 hl hr (r:=ids) (D:=[a.1]) (fun i hi=>by simp at hi;rw[hi];exact ha) (bU.1 h6)
  simp only[List.mem_cons,List.not_mem_nil,or_false]at this
  exact absurd this.symm h5
theorem Ir {σ:St} {x:Cx} {a:Act} {q:Go.Vc.Q} {o:Oper} (hf:C3 (.q q)=true) (hof:IOp.of P owns o=some (.q q)) (h:SRel e σ x a) (hp:q.pre σ):
  ∃cv,aB x (q.val σ) cv∧∀w',(execOp a.eval o).run P w'=.ok (.value cv) w':=by
 obtain⟨hcd,hp⟩:=hp
 cases hop:o.op with
 | move y=>
  simp only[IOp.of,hop]at hof
  split at hof
  ·rename_i z' hz
   injection hof with hof;injection hof with hof
   subst hof
   exact⟨_,Opd.of_sv h hz hcd,fun w'=>by simp[execOp,hop]⟩
  ·cases hof
 | assign y=>
  simp only[IOp.of,hop]at hof
  split at hof
  ·rename_i z' hz
   injection hof with hof;injection hof with hof
   subst hof
   exact⟨_,Opd.of_sv h hz hcd,fun w'=>by simp[execOp,hop]⟩
  ·cases hof
 | extract y i=>
  simp only[IOp.of,hop]at hof
  split at hof
  ·rename_i z' hz
   injection hof with hof;injection hof with hof
   subst hof
   have hy:=Opd.of_sv h hz hcd
   simp only[Go.Vc.Q.val]at hp ⊢
   generalize z'.sv σ=v at hp hy ⊢
   unfold HS at hp
   split at hp
   ·simp only[aB]at hy
    obtain⟨cs,e,h⟩:=hy
    obtain⟨c,h1,h2⟩:=h.at_ hp
    exact⟨c,h2,fun w'=>by simp[execOp,hop,e,Instr.extract,h1]⟩
   ·simp only[aB,aG]at hy
    obtain⟨cs,e,h⟩:=hy
    obtain⟨c,h1,h2⟩:=h.at_ hp
    exact⟨c,by simpa only[HR,aB]using h2,fun w'=>by simp[execOp,hop,e,Instr.extract,h1]⟩
   ·exact hp.elim
  ·cases hof
 | _=>
  exfalso
  simp only[IOp.of,hop]at hof
  repeat' split at hof
  all_goals first|contradiction|(cases hof;done)|(simp at hof;done)|(injection hof with hof;injection hof with hof;subst hof;simp[C3]at hf;done)
theorem Hj {σ:St} {x:Cx} {a:Act} {o:Oper} {d:Nat} {op:IOp} {E:Eff} (hi:eT P owns e.n ops o=some ⟨some d,none,op⟩) (hf:C3 op=true) (h:SRel e σ x a) (hE:o5 P σ d none op E):
  ∃cv,YieldsIf P ops (fun _=>True) o cv a∧SRel e (σ.app d E) x (a.put o.dst cv):=by
 obtain⟨h1,h2,h3,h4⟩:=fW hi
 simp only at h1 h2 h3
 cases op with
 | q q=>
  simp only[o5]at hE
  obtain⟨hp,rfl⟩:=hE
  obtain⟨cv,k1,k2⟩:=Ir hf h1 h hp
  rw[←h3]
  exact⟨cv,.inl ⟨fG (jO h2) _,fun w _=>k2 w⟩,h.put (h4 d h3.symm) k1⟩
 | _=>simp[C3]at hf
theorem wB:∀(fuel:Nat) (listed:Array Bool) (a:Act) (w:World),mA P ops Q calm fuel listed a w→gI P ops Q calm (fun _=>True) fuel listed a w
 | 0,_,_,_,h=>h
 | fuel+1,_,_,_,h=>⟨h.1,fun i hi=>wpOp_mono (fun a' w' h'=>⟨h'.1,trivial,wB fuel _ a' w' h'.2⟩) (h.2 i hi)⟩
theorem vM {r D:List Nat} {d:Nat} (hd:d∈D):d∈iA ops r D:=by
 induction r generalizing D with
 | nil=>exact hd
 | cons k r ih=>
  simp only[iA]
  split
  ·exact ih (List.mem_cons_of_mem _ hd)
  ·exact ih hd
theorem sR:∀{r D D0:List Nat},(∀d∈D,d∈D0∨∀od,ops[d]?=some od→∃e∈od.after,Region.binds .any e=true∧e.on∈iA ops r D)→∀d∈iA ops r D,d∈D0∨∀od,ops[d]?=some od→∃e∈od.after,Region.binds .any e=true∧e.on∈iA ops r D
 | [],D,D0,h,d,hd=>h d hd
 | k::r,D,D0,h,d,hd=>by
  simp only[iA]at h hd ⊢
  split
  ·rename_i hw
   rw[if_pos hw]at h hd
   refine sR (fun d hd=>?_) d hd
   rcases List.mem_cons.1 hd with rfl|hd
   ·right
    intro od hod
    unfold tE at hw
    rw[hod]at hw
    obtain⟨e,he,h1⟩:=List.any_eq_true.1 hw
    simp only[Bool.and_eq_true]at h1
    exact⟨e,by simpa using he,h1.1,vM (List.mem_cons_of_mem _ (bU.1 h1.2))⟩
   ·exact h d hd
  ·rename_i hw
   rw[if_neg hw]at h hd
   exact sR h d hd
theorem Hk (hsel:Region.noSelect ops=true) (hQ:∀c a w,¬Q (.panic c) a w) {ids L:List Nat} {listed:Array Bool} (hl:Left ops ids L listed) {h:Nat} (hr:h∈Region.ready .any ops listed) (hf:Ie ops h=true) {oi:Oper} (hi:ops[h]?=some oi) {cv:Value} {a:Act} {w:World} {fuel:Nat}
  (hy:YieldsIf P ops (fun _=>True) oi cv a) (H:mA P ops Q calm fuel (listed.setIfInBounds h true) (a.put oi.dst cv) w):mA P ops Q calm (fuel+1) listed a w:=by
 have hlt:=yS hr
 have hun:listed.getD h false=false:=by
  have:=(mem_ready.1 hr).1
  rw[hl.un hlt]at this
  rw[hl.at_ h hlt];exact this
 refine j3 _ _ _ _ (iQ (T:=fun _=>True) (D:=iS (iA ops (List.range ops.size) [h])) hi (Region.noSelect_spec hsel) hQ (fun d hd hne od hod=>?_) fuel listed a w (fun d hd=>?_) (bU.2 (vM (by simp))) (fun j oj hoj hj hju=>⟨fun _ _ _ _ _=>trivial,?_⟩) hr trivial trivial hy (wB _ _ _ _ H))
 ·rcases sR (D0:=[h]) (fun d hd=>.inl hd) d (bU.1 hd)with h1|h1
  ·exact absurd (by simpa using h1) hne
  ·obtain⟨e,he,hb,hm⟩:=h1 od hod
   exact⟨e,he,hb,bU.2 hm⟩
 ·exact xQ hl (fun i hi=>by simp at hi;rw[hi];exact hun) d (bU.1 hd)
 ·have hjs:=(Array.getElem?_eq_some_iff.1 hoj).1
  unfold Ie at hf
  rw[hi]at hf
  have:=List.all_eq_true.1 hf j (List.mem_range.2 hjs)
  rw[hj,Bool.false_or,Bool.or_eq_true]at this
  rcases this with h1|h1
  ·exfalso
   have hjf:listed.getD j false=false:=by
    rw[hl.un hjs]at hju
    rw[hl.at_ j hjs];exact hju
   have:=t6 hl hr (r:=List.range ops.size) (D:=[j]) (fun i hi=>by simp at hi;rw[hi];exact hjf) (bU.1 h1)
   have e:h=j:=by simpa using this
   subst e
   rw[iF]at hj
   exact hj (vM (by simp))
  ·rw[hoj]at h1
   exact h1
theorem Hh [EP e P] {G:List (Nat×GI)} {ids:List Nat} {rest:Nat} (hids:G.map (·.1)=ids) (hG:∀p∈G,GOk P owns e.n ops N p) (hpre:uO ops [] ids=true) (hlone:Es ops ids G=true) (hsel:Region.noSelect ops=true) (hQ:∀c a w,¬Q (.panic c) a w)
  (hpair:G.Pairwise fun a b=>pK ops ids a b=true) (hK:∀σ τ,Same σ τ→K σ→K τ)
  (hrest:∀σ x a,SRel e σ x a→K σ→mA P ops Q calm rest (lT ops.size ids) a x.w):
  ∀(m:Nat) (L:List (Nat×GI)) (listed:Array Bool) (σ:St) (x:Cx) (a:Act),L.length=m→L.Sublist G→Left ops ids (L.map (·.1)) listed→SRel e σ x a→
   J3 P N (L.map (·.2)) σ K→(∀p∈L,m7 p.2.op=true→NoRef p.2.own σ)→mA P ops Q calm (m+rest) listed a x.w:=by
 intro m
 induction m with
 | zero=>
  intro L listed σ x a hm hL hl h hk _
  have:L=[]:=List.eq_nil_of_length_eq_zero hm
  subst this
  have hls:listed=lT ops.size ids:=by
   refine Array.ext (by rw[hl.size,EX]) fun i h1 h2=>?_
   have hi:i<ops.size:=by rw[←hl.size];exact h1
   have e1:=hl.at_ i hi
   have e2:=q7 (l:=ids) false hi
   simp only[List.map_nil,iS,Bool.not_false,Bool.and_true]at e1
   rw[Array.getD_eq_getD_getElem?,Array.getElem?_eq_getElem h1,Option.getD_some]at e1
   rw[Array.getD_eq_getD_getElem?,Array.getElem?_eq_getElem h2,Option.getD_some]at e2
   rw[e1,e2]
  rw[hls,Nat.zero_add]
  exact hrest σ x a h hk
 | succ m ih=>
  intro L listed σ x a hm hL hl h hk hn
  have hsub:∀p∈L,p∈G:=fun p hp=>hL.subset hp
  have hidL:∀i,i∈L.map (·.1)→i∈ids:=fun i hi=>by
   obtain⟨p,hp,rfl⟩:=List.mem_map.1 hi
   rw[←hids]
   exact List.mem_map.2 ⟨p,hsub p hp,rfl⟩
  have hne:∃p,p∈L:=by
   cases L with
   | nil=>simp at hm
   | cons p _=>exact⟨p,by simp⟩
  obtain⟨p0,hp0⟩:=hne
  rw[show m+1+rest=(m+rest)+1 by omega]
  have hready:∃q∈L,q.1∈Region.ready .any ops listed:=by
   obtain⟨pre,q,post,h1,h2,h3⟩:=JE (G:=G) (p:=fun i=>i∈L.map (·.1)) ⟨p0,hsub p0 hp0,List.mem_map.2 ⟨p0,hp0,rfl⟩⟩
   have hid:ids=pre.map (·.1)++q.1::post.map (·.1):=by rw[←hids,h1];simp
   obtain⟨pre',h4,h5⟩:=A1 hpre hid
   have hq:=yS h5
   have:q.1∈Region.ready .any ops listed:=by
    refine AZ h5 (fun i hi=>?_) ?_
    ·have hlt:i<ops.size:=by
      refine Classical.byContradiction fun hlt=>?_
      rw[G1 false hlt]at hi;cases hi
     rw[q7 false hlt,bU,h4]at hi
     rcases hi with hi|hi
     ·cases hi
     ·rw[hl.at_ i hlt,Bool.and_eq_true,bU,Bool.not_eq_true',iF]
      refine⟨by rw[hid];exact List.mem_append_left _ hi,fun hin=>?_⟩
      obtain⟨r,hr,e⟩:=List.mem_map.1 hi
      exact h3 r hr (by rw[e];exact hin)
    ·rw[hl.un hq,Bool.and_eq_false_iff]
     right
     rw[Bool.not_eq_false',bU]
     exact h2
   obtain⟨p,hp,he⟩:=List.mem_map.1 h2
   exact⟨p,hp,by rw[he];exact this⟩
  have exec:∀pj∈L,pj.1∈Region.ready .any ops listed→∃o E,ops[pj.1]?=some o∧eT P owns e.n ops o=some ⟨some pj.2.d,pj.2.g,pj.2.op⟩∧o5 P σ pj.2.d pj.2.g pj.2.op E∧
    ∀a' w',(Agr x.w w'∧gK P e [] (fun σ'=>∀e y a,SRel e σ' y a→SRel e (σ.app pj.2.d E) y a) a' w')→(calm pj.1=true→Agr x.w w')∧mA P ops Q calm (m+rest) (listed.setIfInBounds pj.1 true) a' w':=by
   intro pj hpj hj
   obtain⟨L1,L2,rfl⟩:=List.append_of_mem hpj
   have hpw:=List.Pairwise.sublist hL hpair
   rw[List.pairwise_append]at hpw
   obtain⟨hpw1,hpw2,hpw3⟩:=hpw
   rw[List.pairwise_cons]at hpw2
   have hnd:∀p∈L1++L2,p.1≠pj.1:=by
    intro p hp e
    have key:∀{a b:Nat×GI},pK ops ids a b=true→a∈G→b∈G→a.1≠b.1:=by
     intro a b hab ha hb e
     obtain⟨o,h1,h2⟩:=(hG a ha).is
     obtain⟨o',h3,h4⟩:=(hG b hb).is
     rw[e,h3]at h1
     injection h1 with h1
     subst h1
     rw[h4]at h2
     injection h2 with h2
     injection h2 with h2
     injection h2 with h2
     simp only[pK,Bool.and_eq_true,Bool.not_eq_true',beq_eq_false_iff_ne]at hab
     exact hab.1.1.1.1 h2.symm
    rcases List.mem_append.1 hp with hp|hp
    ·exact key (hpw3 p hp pj (by simp)) (hsub p (by simp[hp])) (hsub pj (by simp)) e
    ·exact key (hpw2.1 p hp) (hsub pj (by simp)) (hsub p (by simp[hp])) e.symm
   have hind:∀p∈L1,Indep p.2 pj.2:=by
    intro p hp
    refine ER hl (hpw3 p hp pj (by simp)) hj ?_
    obtain⟨o,ho,_⟩:=(hG p (hsub p (by simp[hp]))).is
    rw[hl.at_ _ (Array.getElem?_eq_some_iff.1 ho).1,Bool.and_eq_false_iff,Bool.not_eq_false',bU]
    exact .inr (List.mem_map.2 ⟨p,by simp[hp],rfl⟩)
   rw[List.map_append,List.map_cons]at hk
   have hk2:=AR hK (fun i hi=>by obtain⟨p,hp,rfl⟩:=List.mem_map.1 hi;exact hind p hp) hk
   obtain⟨E,h1,h2⟩:=hk2
   rw[←List.map_append]at h2
   have hg:=hG pj (hsub pj (by simp))
   have h3:=JK (Jd σ pj.2.U pj.2.R) hg.uses h1
   obtain⟨o,ho,hinst⟩:=hg.is
   have hrow:∀r row,E.nr=some (r,row)→r=pj.2.own∧m7 pj.2.op=true:=fun r row hr=>Co h3 hr
   have hno:∀r row,E.nr=some (r,row)→NoRef r σ:=fun r row hr=>by
    obtain⟨rfl,hm⟩:=hrow r row hr
    exact hn pj (by simp) hm
   have hnew:∀p∈L1++L2,m7 p.2.op=true→NoRef p.2.own (σ.add pj.2.d (pj.2.out N) E):=by
    intro p hp hm
    have hpG:p∈L1++pj::L2:=by
     rcases List.mem_append.1 hp with hp|hp
     ·simp[hp]
     ·simp[hp]
    have hN:=(hG p (hsub p hpG)).row hm
    have hff:pj.2.own≠p.2.own∧p.2.own∉pj.2.R:=by
     rcases List.mem_append.1 hp with hp|hp
     ·exact⟨Ne.symm (hind p hp).own,(hind p hp).r'⟩
     ·have:=hpw2.1 p hp
      simp only[pK,Bool.and_eq_true,Bool.not_eq_true',beq_eq_false_iff_ne]at this
      exact⟨this.1.1.1.2,iF.1 this.1.2⟩
    refine(hn p hpG hm).add ?_ fun r row hr=>?_
    ·simp only[GI.out,Bool.and_eq_true,Bool.not_eq_true',beq_eq_false_iff_ne]
     exact⟨hN,iF.2 hff.2,hff.1⟩
    ·rw[(hrow r row hr).1];exact hff.1
   have hleft:Left ops ids ((L1++L2).map (·.1)) (listed.setIfInBounds pj.1 true):=by
    refine⟨by simp[hl.size],fun i hi=>?_,fun k ok hok hk e he hb=>?_⟩
    rotate_left
    ·by_cases hkj:k=pj.1
     ·subst hkj
      obtain⟨_,o',ho',hall⟩:=mem_ready.1 hj
      rw[hok]at ho'
      injection ho' with ho'
      subst ho'
      exact getD_set_true (hall e he hb)
     ·rw[getD_set_ne false (Ne.symm hkj)]at hk
      exact getD_set_true (hl.down k ok hok hk e he hb)
    by_cases hij:pj.1=i
    ·subst hij
     have e1:(listed.setIfInBounds pj.1 true).getD pj.1 false=true:=by
      simp[Array.getD_eq_getD_getElem?,hl.size,hi]
     rw[e1]
     symm
     rw[Bool.and_eq_true,bU,Bool.not_eq_true',iF]
     refine⟨hidL _ (List.mem_map.2 ⟨pj,by simp,rfl⟩),fun hm=>?_⟩
     obtain⟨p,hp,e⟩:=List.mem_map.1 hm
     exact hnd p hp e
    ·rw[getD_set_ne false hij,hl.at_ i hi]
     congr 1
     congr 1
     rw[Bool.eq_iff_iff,bU,bU]
     simp only[List.map_append,List.map_cons,List.mem_append,List.mem_cons]
     constructor
     ·rintro(h|h|h)
      ·exact .inl h
      ·exact absurd h.symm hij
      ·exact .inr h
     ·rintro(h|h)
      ·exact .inl h
      ·exact .inr (.inr h)
   have hLs:(L1++L2).Sublist G:=by
    refine List.Sublist.trans ?_ hL
    exact List.Sublist.append (List.Sublist.refl _) (List.sublist_cons_self _ _)
   have hlen:(L1++L2).length=m:=by
    simp only[List.length_append,List.length_cons]at hm ⊢
    omega
   have step:∀a' w',(Agr x.w w'∧gK P e [] (fun σ'=>∀e y a,SRel e σ' y a→SRel e (σ.app pj.2.d E) y a) a' w')→(calm pj.1=true→Agr x.w w')∧mA P ops Q calm (m+rest) (listed.setIfInBounds pj.1 true) a' w':=by
    rintro a' w' ⟨g1,σ',y,g2,rfl,g3⟩
    exact⟨fun _=>g1,ih _ _ _ y a' hlen hLs hleft ((g3 e y a' g2).add hno) h2 hnew⟩
   exact⟨o,E,ho,hinst,h3,step⟩
  by_cases hfl:∃p∈L,H5 ops p=true∧p.1∈Region.ready .any ops listed
  ·obtain⟨p,hpL,hpf,hpr⟩:=hfl
   obtain⟨o,E,ho,hinst,h3,step⟩:=exec p hpL hpr
   unfold H5 at hpf
   simp only[Bool.and_eq_true,Option.isNone_iff_eq_none]at hpf
   rw[hpf.1.1]at hinst h3
   obtain⟨cv,hy,hs⟩:=Hj hinst hpf.1.2 h h3
   exact Hk hsel hQ hl hpr hpf.2 ho hy (step _ _ ⟨Agr.refl _,_,x,hs,rfl,fun e y a h=>h⟩).2
  ·obtain⟨q0,hq0,hqr⟩:=hready
   refine⟨fun h0=>(by rw[h0]at hqr;cases hqr),fun j hj=>?_⟩
   have hloq:(Region.ready .any ops (lT ops.size (CX ids (iA ops ids [q0.1])))).all (iS ids)=true:=by
    have:=List.all_eq_true.1 hlone _ (hsub q0 hq0)
    rw[Bool.or_eq_true]at this
    rcases this with h1|h1
    ·exact h1
    ·exact absurd ⟨q0,hq0,h1,hqr⟩ hfl
   clear hp0 p0
   obtain⟨p0,hp0,hp0e⟩:∃p,p∈L∧p=q0:=⟨q0,hq0,rfl⟩
   subst hp0e
   have hjs:=yS hj
   have hjL:j∈L.map (·.1):=by
    refine Classical.byContradiction fun hjn=>?_
    have hh:p0.1∈ids:=hidL _ (List.mem_map.2 ⟨p0,hp0,rfl⟩)
    have hlo:=hloq
    have hun:=(mem_ready.1 hj).1
    rw[hl.un hjs,iF.2 hjn,Bool.not_false,Bool.and_true]at hun
    have h0f:listed.getD p0.1 false=false:=by
     obtain⟨o,ho,_⟩:=(hG p0 (hsub p0 hp0)).is
     rw[hl.at_ _ (Array.getElem?_eq_some_iff.1 ho).1,Bool.and_eq_false_iff,Bool.not_eq_false',bU]
     exact .inr (List.mem_map.2 ⟨p0,hp0,rfl⟩)
    have hde:=xQ hl (r:=ids) (D:=[p0.1]) (fun i hi=>by simp at hi;rw[hi];exact h0f)
    have hjr:j∈Region.ready .any ops (lT ops.size (CX ids (iA ops ids [p0.1]))):=by
     refine AZ hj (fun i hi=>?_) ?_
     ·have hlt:=hl.lt hi
      have hi':=hi
      rw[hl.at_ i hlt,Bool.and_eq_true,bU,Bool.not_eq_true',iF]at hi
      rw[q7 false hlt,bU,A8]
      exact⟨hi.1,fun hc=>by rw[hde i hc]at hi';cases hi'⟩
     ·rw[q7 true hjs,iF,A8]
      exact fun hc=>iF.1 hun hc.1
    have:=List.all_eq_true.1 hlo j hjr
    rw[hun]at this
    cases this
   obtain⟨pj,hpj,rfl⟩:=List.mem_map.1 hjL
   obtain⟨o,E,ho,hinst,h3,step⟩:=exec pj hpj hj
   have hv:=G9 (Q:=Q) hinst (JJ h3) h (Om h3)
   unfold wpOp
   simp only[ho]
   split
   ·rename_i hw
    rw[if_pos hw]at hv
    exact .inl (Oper.wp_mono step hv)
   ·rename_i hw
    rw[if_neg hw]at hv
    exact step _ _ hv
end
end Go.Vc
