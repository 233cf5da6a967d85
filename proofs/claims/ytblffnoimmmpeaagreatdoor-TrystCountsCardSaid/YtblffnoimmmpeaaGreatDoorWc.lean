/- A part of the proofs of the seat YtblffnoimmmpeaaGreatDoor: the contracts of functions, each proved out of its code. -/
import Derived.Test.YtblffnoimmmpeaaGreatDoorWb
import Derived.Test.YtblffnoimmmpeaaGreatDoorWa
import Derived.Test.YtblffnoimmmpeaaGreatDoorProg
import Derived.Test.YtblffnoimmmpeaaGreatDoorVc
import Derived.Test.YtblffnoimmmpeaaGreatDoorRows
import Derived.LaidHandle
import Derived.MakeChecks
namespace Go.Vc
open Go.Proofs
set_option linter.unusedSimpArgs false
set_option linter.unusedVariables false
set_option maxRecDepth 10000
def Eg (s:Ro) (id:Int):Ro×Int:=if(lR s.out id).2=0 then({ s with out:=(lR s.out id).1 },0)else(s,(lR s.out id).2)
theorem RW (s:Ro) (id:Int) (h:RoOk s):Fn Tryz.prog 15 [s.pv,pU id] (.pv (.tup [(Eg s id).1.pv,pI (Eg s id).2])) []:=by
 refine c15.r [] (by simp) ?_
 have h7:=HI s h
 have h56:=RB s.out id (by have:=eL h.out;omega)
 simp only[go_sem,M15]
 refine aA (by simp only[go_sem]) (by simp only[go_sem]<;>rfl) (h7) ⟨rfl,trivial⟩ trivial ?_
 simp only[go_sem]
 refine aC (by simp only[go_sem]) rfl (h56) (.inl rfl) trivial ?_
 simp only[go_sem]
 unfold Eg
 refine⟨fun he=>by rw[if_neg he],fun he=>by rw[if_pos he]⟩
theorem Ry (x:Ot) (n:Int):Fn Tryz.prog 59 [x.pv,pU n] (.pv (pI (oV x.id n))) []:=by
 refine c59.r [] (by simp) ?_
 simp only[go_sem,M59]
 refine aA (by simp only[go_sem]) (by simp only[go_sem]<;>rfl) (OX x.id n) ⟨rfl,trivial⟩ trivial ?_
 simp only[go_sem]
def tB (s:Ro) (id:Int):Ro×Bool×Int:=
 if(mV s.out id s.now).err≠0 then(s,false,(mV s.out id s.now).err)else
 if(mV s.out id s.now).up=true then(if 100≤s.gone.length then(s,false,6)else({ s with out:=(mV s.out id s.now).l,gone:=eZ s.gone (rH s.gone id) (s.out.getD (bY s.out id).toNat default) },true,0))else
 ({ s with out:=(mV s.out id s.now).l },false,0)
theorem RU (s:Ro) (id:Int) (h:RoOk s):Fn Tryz.prog 16 [s.pv,pU id] (.pv (.tup [(tB s id).1.pv,pB (tB s id).2.1,pI (tB s id).2.2])) []:=by
 refine c16.r [] (by simp) ?_
 have hol:=eL h.out
 have hgl:=eL h.gone
 have h7:=HI s h
 have h57:=RA s.out id s.now (by omega)
 simp only[go_sem,M16]
 refine aA (by simp only[go_sem]) (by simp only[go_sem]<;>rfl) (h7) ⟨rfl,trivial⟩ trivial ?_
 simp only[go_sem]
 refine aC (by simp only[go_sem]) rfl (h57) (.inl rfl) trivial ?_
 simp only[go_sem]
 unfold tB
 refine⟨fun he=>by rw[if_pos he],fun he=>?_⟩
 rw[if_neg (fun h=>h he)]
 refine⟨fun hu=>?_,fun hu=>by rw[if_neg (by simp[hu]),hu]⟩
 rw[if_pos hu]
 refine⟨fun hf=>by rw[if_pos (by omega)],fun hf=>?_⟩
 rw[if_neg (by omega)]
 obtain⟨b,hb⟩:=Mm 59 Ry s.gone id (by omega) (eJ h.gone)
 refine aA (by simp only[go_sem]) (by simp only[go_sem]<;>rfl) (hb) ⟨rfl,trivial⟩ trivial ?_
 simp only[go_sem]
 have hfo:¬bY s.out id<0:=fun hneg=>by
  unfold mV at hu
  rw[if_pos hneg]at hu
  split at hu<;>cases hu
 obtain⟨k,hk,hkf⟩:∃k,∃h:k<s.out.length,bY s.out id=(k:Int):=by
  rcases eY (fun x:Ot=>decide (x.id=id)) s.out with⟨h1,_⟩|⟨n,h,h1,_⟩
  ·exact absurd (show bY s.out id<0 by unfold bY;omega) hfo
  ·exact⟨n,h,h1⟩
 have h63:=HO s.out id (by omega)
 rw[hkf]at h63 ⊢
 refine aC (by simp only[go_sem]) rfl (Ec s.gone (by omega)) (.inl rfl) trivial ?_
 simp only[go_sem]
 refine aA (by simp only[go_sem]) (by simp only[go_sem]<;>rfl) (h63) ⟨rfl,trivial⟩ trivial ?_
 simp only[go_sem,eU,aK hk,Int.toNat_natCast,aM hk]
 refine⟨by omega,?_⟩
 have hp:rH s.gone id≤s.gone.length:=(List.takeWhile_prefix _).length_le
 have hS:=Mj (s.gone.map Ot.pv) (eU s.gone) (Ot.pv s.out[k]) (eU [s.out[k]]) (rH s.gone id) (by simpa using hp) (by simp;omega)
 rw[List.length_map]at hS
 refine aP (fun _=>1045) (by simp only[go_sem]) (by simp only[go_sem]<;>rfl) hS rfl (by intro e he;simp only[List.mem_cons,List.not_mem_nil,or_false]at he;subst he;simp only[go_sem]) (by simp) (by simp) (by simp) (by intro e he _;decide) ?_
 simp only[go_sem]
 rw[mZ (f:=Ot.pv),hu]
def nX (s:Ro) (id:Int):Ro×Int:=
 if bY s.gone id<0 then(s,4)else
 if(sJ s.out (s.gone.getD (bY s.gone id).toNat default) s.now).2≠0 then(s,(sJ s.out (s.gone.getD (bY s.gone id).toNat default) s.now).2)else
 ({ s with out:=(sJ s.out (s.gone.getD (bY s.gone id).toNat default) s.now).1,gone:=xB s.gone (bY s.gone id).toNat },0)
theorem RT (s:Ro) (id:Int) (h:RoOk s):Fn Tryz.prog 17 [s.pv,pU id] (.pv (.tup [(nX s id).1.pv,pI (nX s id).2])) []:=by
 refine c17.r [] (by simp) ?_
 have hol:=eL h.out
 have hgl:=eL h.gone
 have h7:=HI s h
 have h63:=HO s.gone id (by omega)
 simp only[go_sem,M17]
 refine aA (by simp only[go_sem]) (by simp only[go_sem]<;>rfl) (h7) ⟨rfl,trivial⟩ trivial ?_
 simp only[go_sem]
 refine aA (by simp only[go_sem]) (by simp only[go_sem]<;>rfl) (h63) ⟨rfl,trivial⟩ trivial ?_
 simp only[go_sem]
 unfold nX
 refine⟨fun he=>by rw[if_pos he],fun he=>?_⟩
 rw[if_neg he]
 obtain⟨k,hk,hkf⟩:∃k,∃h:k<s.gone.length,bY s.gone id=(k:Int):=by
  rcases eY (fun x:Ot=>decide (x.id=id)) s.gone with⟨h1,_⟩|⟨n,h,h1,_⟩
  ·exact absurd (show bY s.gone id<0 by unfold bY;omega) he
  ·exact⟨n,h,h1⟩
 have h64:=Rx s.out s.gone[k] s.now (by omega)
 rw[hkf]
 simp only[go_sem,eU,aK hk,Int.toNat_natCast,aM hk]
 refine⟨by omega,?_⟩
 refine aC (by simp only[go_sem]) rfl (h64) (.inl rfl) trivial ?_
 simp only[go_sem]
 refine⟨fun hf=>by rw[if_pos hf],fun hf=>?_⟩
 rw[if_neg (fun h=>h hf)]
 refine aC (by simp only[go_sem]) rfl (Ec s.gone (by omega)) (.inl rfl) trivial ?_
 simp only[go_sem]
 have h:=Mi (s.gone.map Ot.pv) (eU s.gone) k (by simpa using hk) (by simp;omega)
 rw[List.length_map]at h
 refine⟨⟨by omega,by omega⟩,aP (fun _=>1040) (by simp only[go_sem]) (by simp only[go_sem]<;>rfl) h rfl (by intro e he;simp only[List.mem_cons,List.not_mem_nil,or_false]at he;subst he;simp only[go_sem]) (by simp) (by simp) (by simp) (by intro e he _;decide) ?_⟩
 simp only[go_sem]
 have e3:(List.map Ot.pv s.gone).length=s.gone.length:=List.length_map _
 rw[←List.append_assoc,List.take_append_of_le_length (by rw[List.length_append,List.length_take,List.length_drop];omega),List.take_of_length_le (by rw[List.length_append,List.length_take,List.length_drop];omega)]
 rw[←List.map_take,←List.map_drop,←List.map_append]
 rfl
end Go.Vc

namespace Go.Vc
open Go.Proofs
set_option linter.unusedSimpArgs false
set_option linter.unusedVariables false
set_option maxRecDepth 10000
theorem MN (a:ByteArray):Fn Tryz.prog 100 [pS a] (.pv (pB false)) []:=by
 refine c100.r [] (by simp) ?_
 simp only[go_sem,M100]
def CO (a b:ByteArray):Int:=if lS a b=true then -1 else if a=b then 0 else 1
theorem LM {a b:ByteArray}:CO a b<0↔lS a b=true:=by unfold CO;split<;>(try split)<;>simp_all
theorem RF (a b:ByteArray):Fn Tryz.prog 38 [pS a,pS b] (.pv (pI (CO a b))) []:=by
 refine c38.r [] (by simp) ?_
 simp only[go_sem,M38]
 refine aA (by simp only[go_sem]) (by simp only[go_sem]<;>rfl) (MN a) ⟨rfl,trivial⟩ trivial ?_
 simp only[go_sem]
 refine aA (by simp only[go_sem]) (by simp only[go_sem]<;>rfl) (MN b) ⟨rfl,trivial⟩ trivial ?_
 simp only[go_sem]
 unfold CO lS
 refine⟨fun h=>by rw[if_pos h],fun h=>⟨fun h1=>by rw[if_neg (by rw[h];simp),if_neg h1.2],fun h1=>by rw[if_neg (by rw[h];simp),if_pos (h1.resolve_left (by rw[h];simp))]⟩⟩
theorem O0 (x:Su) (n:ByteArray):Fn Tryz.prog 37 [x.pv,pS n] (.pv (pI (CO x.d.name n))) []:=by
 refine c37.r [] (by simp) ?_
 simp only[go_sem,M37]
 refine aA (by simp only[go_sem]) (by simp only[go_sem]<;>rfl) (RF x.d.name n) ⟨rfl,trivial⟩ trivial ?_
 simp only[go_sem]
theorem gU {a b c:ByteArray} (h1:lS a b=true) (h2:lS b c=true):lS a c=true:=zE h1 h2
def oY (l:List Su) (n:ByteArray):Nat:=(l.takeWhile (fun y=>lS y.d.name n)).length
def yI (l:List Su) (n:ByteArray):Bool:=decide (oY l n<l.length)&&decide (CO (l.getD (oY l n) default).d.name n=0)
theorem KJ {α:Type} {p:α→Bool} {l:List α} {i:Nat} (h0:i≤l.length) (h1:∀j (h:j<l.length),j<i→p l[j]=true) (h2:∀h:i<l.length,p l[i]=false):(l.takeWhile p).length=i:=by
 induction l generalizing i with
 | nil=>simp at h0;simp[h0]
 | cons a l ih=>
  cases i with
  | zero=>
   have:=h2 (by simp)
   simp at this
   simp[List.takeWhile_cons,this]
  | succ i=>
   have ha:=h1 0 (by simp) (by omega)
   simp at ha
   simp only[List.takeWhile_cons,ha,if_true,List.length_cons]
   rw[ih (by simpa using h0) (fun j hj hji=>by have:=h1 (j+1) (by simpa using hj) (by omega);simpa using this) (fun hl=>by have:=h2 (by simpa using hl);simpa using this)]
theorem RH (l:List Su) (n:ByteArray) (hl:l.length<100000) (hs:l.Pairwise mP):Fn Tryz.prog 36 [J4 l,pS n,.fn 37 []] (.pv (.tup [pI (oY l n),pB (yI l n)])) []:=by
 have ord:∀i j (hi:i<l.length) (hj:j<l.length),i<j→lS l[i].d.name l[j].d.name=true:=fun i j hi hj hij=>List.pairwise_iff_getElem.1 hs i j hi hj hij
 refine c36.r [] (by simp) ?_
 simp only[go_sem,M36]
 refine aZ (T:=Nat×Nat) (fun t=>⟨[(0,.pv (J4 l)),(1,.pv (pS n)),(2,.pv (.fn 37 [])),(8,.pv (pI l.length)),(9,.pv (pI t.1)),(10,.pv (pI t.2))],[]⟩)
  (fun t=>t.1≤t.2∧t.2≤l.length∧(∀j (h:j<l.length),j<t.1→lS l[j].d.name n=true)∧(∀j (h:j<l.length),t.2≤j→lS l[j].d.name n=false)) (fun t=>t.2-t.1) (0,l.length) rfl ⟨Nat.zero_le _,Nat.le_refl _,fun j _ h=>absurd h (by omega),fun j h h2=>absurd h (by omega)⟩ ?_
 intro ⟨i,j⟩ ⟨hij,hj,h1,h2⟩
 simp only at hij hj h1 h2 ⊢
 by_cases hlt:i<j
 ·have hm:(i+j) / 2<l.length:=by omega
  obtain⟨m,hme⟩:∃m,m=(i+j) / 2:=⟨_,rfl⟩
  rw[←hme]at hm
  have e1:((i:Int)+(j:Int)).fdiv (2^1)=(m:Int):=by
   rw[Int.fdiv_eq_ediv_of_nonneg _ (by omega)];omega
  simp only[go_sem,B36_0,kC,e1,aK hm,show(i:Int)<(j:Int)by omega]
  refine⟨⟨by omega,by omega⟩,⟨by omega,by omega⟩,⟨by omega,by omega⟩,by omega,?_⟩
  refine aA (by simp only[go_sem]) (by simp only[go_sem]<;>rfl) (O0 l[m] n) ⟨rfl,trivial⟩ trivial ?_
  simp only[go_sem]
  rw[LM]
  refine⟨fun hc=>⟨⟨by omega,by omega⟩,(m+1,j),rfl,⟨by show m+1≤j;omega,hj,fun q hq hqm=>?_,h2⟩,by show j-(m+1)<j-i;omega⟩,fun hc=>⟨(i,m),rfl,⟨by show i≤m;omega,by show m≤_;omega,h1,fun q hq hqm=>?_⟩,by show m-i<j-i;omega⟩⟩
  ·by_cases e:q=m
   ·subst e;exact hc
   ·have hqm':q<m+1:=hqm
    exact gU (ord q m hq hm (by omega)) hc
  ·by_cases e:q=m
   ·subst e;simpa using hc
   ·have hqm':m≤q:=hqm
    cases hb:lS l[q].d.name n with
    | false=>rfl
    | true=>exact absurd (gU (ord m q hm hq (by omega)) hb) hc
 ·have:i=j:=by omega
  subst this
  have hp:oY l n=i:=KJ hj h1 (fun h=>h2 i h (Nat.le_refl _))
  unfold yI
  rw[hp]
  by_cases hil:i<l.length
  ·simp only[go_sem,B36_0,R36_0,kC,aK hil,show ¬(i:Int)<(i:Int)by omega,show(i:Int)<(l.length:Int)by omega]
   refine aF (by simp only[go_sem]) (by simp only[go_sem]) (by simp only[go_sem]<;>rfl) (fun _=>O0 l[i] n) rfl ?_
   simp only[go_sem,hil]
   rw[aM hil]
  ·simp only[go_sem,B36_0,R36_0,kC,show ¬(i:Int)<(i:Int)by omega,show ¬(i:Int)<(l.length:Int)by omega]
   refine aF (p:=pI 0) (by simp only[go_sem]) (by simp only[go_sem]) (by simp only[go_sem]<;>rfl) (fun h=>absurd h (by simp only[go_sem])) rfl ?_
   simp only[go_sem,hil]
def HV (c:AV) (p:PV):Prop:=∀(x:Cx) (cv:Value),aB x c cv→aB x (.pv p) cv
theorem fP (p:PV):HV (.pv p) p:=fun _ _ h=>h
theorem FX:HV .e0 (.lst []):=fun x cv h=>by
 simp only[aB]at h
 obtain⟨a,rfl⟩:=h
 simp only[aB,aG]
 exact⟨a,0,0,rfl,rfl,Nat.le_refl _,fun h=>absurd h (by omega)⟩
inductive Lesss:List AV→List PV→Prop where
 | nil:Lesss [] []
 | cons {c:AV} {p:PV} {cs:List AV} {ps:List PV}:HV c p→Lesss cs ps→Lesss (c::cs) (p::ps)
theorem An {x:Cx}:∀{cs:List AV} {ps:List PV},Lesss cs ps→∀{b o:Nat},aO x cs b o→aN x.w x.F ps b o
 | _,_,.nil,_,_,_=>by simp only[aN]
 | _,_,.cons h hs,b,o,hc=>by
  simp only[aO]at hc
  obtain⟨⟨v,h1,h2⟩,h3⟩:=hc
  simp only[aN]
  have:=h x v h2
  simp only[aB]at this
  exact⟨⟨v,h1,this⟩,An hs h3⟩
theorem Jj {cs:List AV} {ps:List PV} (h:Lesss cs ps):HV (.lit [.agg cs]) (.lst [.agg ps]):=fun x cv hv=>by
 simp only[aB]at hv
 obtain⟨a,n,c,rfl,h1,h2,h3⟩:=hv
 simp only[aB,aG]
 refine⟨a,n,c,rfl,h1,h2,fun h0=>?_⟩
 obtain⟨b,o,rfl,h4,h5,h6⟩:=h3 h0
 simp only[aS,and_true]at h6
 exact⟨b,o,rfl,h4,h5,by simp only[aJ,and_true];exact An h h6⟩
theorem j4.less3 {P:Program} {f:FuncId} {a b c:AV} {p:PV} {st st':List (Nat×Row)} {v:AV} (h:j4 P f [a,b,.pv p] st v st') (hl:HV c p):j4 P f [a,b,c] st v st':=
 ⟨h.1,fun x vs h1 h2 h3 h4=>h.2 x vs h1 h2 h3 (by
  simp only[aD]at h4 ⊢
  obtain⟨u,r,e,k,u2,r2,e2,k2,u3,r3,e3,k3,k4⟩:=h4
  exact⟨u,r,e,k,u2,r2,e2,k2,u3,r3,e3,hl x u3 k3,k4⟩)⟩
theorem Nn (l:List Su) (hl:l.length<100000):Fn Tryz.prog 40 [J4 l] (.row 0 0 l.length) [(15,l.map Su.pv)]:=v1 c40.r l (kC l) hl (by decide) (by decide)
theorem PB {ps:List PV} {st:List (Nat×Row)} {r off n:Nat} {xs:List PV} (hst:(r,.slf 15 xs)∈st) (hw:cY 15 ps):J2 Tryz.prog 101 [.pv (.lst ps),.row r off n] st (aY false):=
 iR 25 46 4 Tryz.func101 (by decide) rfl (by kernel_rfl) (by kernel_rfl) (by kernel_rfl) (by kernel_rfl) hst hw (by decide)
def wZ (d:Df):Su:=⟨d,[],[],0,0,0,0,0⟩
def D8 (s:Ro) (d:Df):Ro×Int:=
 if sB d=false then(s,1)else if yI s.su d.name=true then(s,5)else if 8≤s.su.length then(s,6)else({ s with su:=eZ s.su (oY s.su d.name) (wZ d) },0)
theorem R0 (s:Ro) (d:Df) (h:RoOk s) (hd:SmD d):Fn Tryz.prog 11 [s.pv,d.pv] (.pv (.tup [(D8 s d).1.pv,pI (D8 s d).2])) []:=by
 refine c11.r [] (by simp) ?_
 have hl:=h.sul
 have h7:=HI s h
 have h35:=Gj d hd
 have h36:=RH s.su d.name (by omega) h.suo
 simp only[go_sem,M11]
 refine aA (by simp only[go_sem]) (by simp only[go_sem]<;>rfl) (h7) ⟨rfl,trivial⟩ trivial ?_
 simp only[go_sem]
 refine aF (by simp only[go_sem]) (by simp only[go_sem]) (by simp only[go_sem]<;>rfl) (fun _=>h35) rfl ?_
 simp only[go_sem]
 unfold D8
 refine⟨fun hm=>by rw[if_pos hm],fun hm=>?_⟩
 rw[if_neg (by rw[hm];simp)]
 refine aA (by simp only[go_sem]) (by simp only[go_sem]<;>rfl) (h36) ⟨rfl,trivial⟩ trivial ?_
 simp only[go_sem]
 refine⟨fun hf=>by rw[if_pos hf],fun hf=>?_⟩
 rw[if_neg (by rw[hf];simp)]
 refine⟨fun h8=>by rw[if_pos (by omega)],fun h8=>?_⟩
 rw[if_neg (by omega)]
 refine cC (by simp only[go_sem]) rfl (Nn s.su (by omega)) (.inl rfl) trivial ?_
 simp only[go_sem]
 have hp:oY s.su d.name≤s.su.length:=(List.takeWhile_prefix _).length_le
 have hS:=yJ (by decide) (by decide) (kC [default]) c39.s PB (s.su.map Su.pv) (kC s.su) (Su.pv (wZ d)) (kC [wZ d]) (oY s.su d.name) (by simpa using hp) (by simp;omega)
 rw[List.length_map]at hS
 have hS:=hS.less3 (Jj (cs:=[.pv (pS d.name),.pv (ss d.globs),.pv (HF d.wh),.pv (pS d.key),.pv (pS d.j.kind),.pv (pI d.j.parts),.pv (pI d.j.need),.pv (pI d.j.window),.e0,.e0,.pv (pI 0),.pv (pI 0),.pv (pI 0),.pv (pI 0),.pv (pI 0)])
  (.cons (fP _) (.cons (fP _) (.cons (fP _) (.cons (fP _) (.cons (fP _) (.cons (fP _) (.cons (fP _) (.cons (fP _) (.cons FX (.cons FX (.cons (fP _) (.cons (fP _) (.cons (fP _) (.cons (fP _) (.cons (fP _) .nil))))))))))))))))
 refine aP (fun _=>1034) (by simp only[go_sem]) (by simp only[go_sem]<;>rfl) hS rfl (by intro e he;simp only[List.mem_cons,List.not_mem_nil,or_false]at he;subst he;simp only[go_sem]) (by simp) (by simp) (by simp) (by intro e he _;decide) ?_
 simp only[go_sem]
 rw[mZ (f:=Su.pv)]
end Go.Vc

namespace Go.Vc
open Go.Proofs
set_option linter.unusedSimpArgs false
set_option linter.unusedVariables false
set_option maxRecDepth 10000
theorem Am {l:List La} (h:dV l=true):l.length<100000:=by
 simp only[dV,Bool.and_eq_true,decide_eq_true_eq]at h;omega
def MX (s:Ro) (e:Ev):Ro×Int×Int:=
 if(uM s.la e.producer e.seq).2≠0 then(s,(uM s.la e.producer e.seq).1,(uM s.la e.producer e.seq).2)else
 if(o7 s.tp e).2.2≠0 then(s,0,(o7 s.tp e).2.2)else
 if(s4 s.la ⟨e.producer,e.seq,(o7 s.tp e).2.1⟩).2≠0 then(s,0,(s4 s.la ⟨e.producer,e.seq,(o7 s.tp e).2.1⟩).2)else
 ({ s with tp:=(o7 s.tp e).1,la:=(s4 s.la ⟨e.producer,e.seq,(o7 s.tp e).2.1⟩).1 },(o7 s.tp e).2.1,0)
def D9 (s:Ro) (o:ByteArray):Ro×Int×Int:=
 if(bS (cF o)).2.2≠0 then(s,0,(bS (cF o)).2.2)else if(bS (cF o)).2.1≠o.size then(s,0,2)else MX s (bS (cF o)).1
theorem O3 (s:Ro) (o:ByteArray) (h:RoOk s) (ho:o.size≤1000):Fn Tryz.prog 10 [s.pv,pS o] (.pv (.tup [(D9 s o).1.pv,pI (D9 s o).2.1,pI (D9 s o).2.2])) []:=by
 refine c10.r [] (by simp) ?_
 have h7:=HI s h
 have h31:=HP o (by omega)
 have hok:=@nW (cF o)
 unfold D9
 generalize bS (cF o)=T at h31 hok ⊢
 obtain⟨e,n,err⟩:=T
 simp only at h31 hok ⊢
 simp only[go_sem,M10]
 refine aA (by simp only[go_sem]) (by simp only[go_sem]<;>rfl) (h7) ⟨rfl,trivial⟩ trivial ?_
 simp only[go_sem]
 refine aC (by simp only[go_sem]) rfl (h31) (.inl rfl) trivial ?_
 simp only[go_sem]
 refine⟨fun he=>by rw[if_pos (by omega)],fun he=>?_⟩
 obtain⟨hm,hn,hsz⟩:=hok (by omega)
 rw[if_neg (by omega)]
 refine⟨fun hz=>by rw[if_pos (by omega)],fun hz=>?_⟩
 rw[if_neg (by omega)]
 have h32:=O1 s.la e.producer e.seq (Am h.la) hn.seq0 hn.seq1
 have h33:=RJ s.tp e h.tp hm hn
 have h34:=RI s.la ⟨e.producer,e.seq,(o7 s.tp e).2.1⟩ (Am h.la) hn.seq0 hn.seq1
 unfold MX
 refine aA (by simp only[go_sem]) (by simp only[go_sem]<;>rfl) (h32) ⟨rfl,trivial⟩ trivial ?_
 simp only[go_sem]
 refine⟨fun ha=>by rw[if_pos ha],fun ha=>?_⟩
 rw[if_neg (fun h=>h ha)]
 refine aC (by simp only[go_sem]) rfl (h33) (.inl rfl) trivial ?_
 simp only[go_sem]
 refine⟨fun ha=>by rw[if_pos ha],fun ha=>?_⟩
 rw[if_neg (fun h=>h ha)]
 refine aC (by simp only[go_sem]) rfl (h34) (.inl rfl) trivial ?_
 simp only[go_sem]
 refine⟨fun ha=>by rw[if_pos ha],fun ha=>?_⟩
 rw[if_neg (fun h=>h ha)]
end Go.Vc

namespace Go.Vc
open Go.Proofs
set_option linter.unusedSimpArgs false
set_option linter.unusedVariables false
set_option maxRecDepth 10000
theorem Jb (j:Jn) (now:Int) (l:List In):(kE j now l).length≤dG l:=by
 unfold kE dG
 rw[List.length_flatten,List.map_map]
 induction l with
 | nil=>simp
 | cons a l ih=>
  simp only[List.map_cons,List.sum_cons,Function.comp_apply]
  have:=List.length_take_le' (bN j now a.l) a.l
  omega
theorem Ok {now:Int} {tp:List Tp} {x:Su} (h:SuOk now tp x) {t:Int} (h0:0≤now) (h1:now≤t) (h2:t≤1099511627775):nZ x.d.j x.ins_ t=⟨gP x.d.j t x.ins_,kE x.d.j t x.ins_,true⟩:=by
 unfold nZ
 rw[if_pos]
 refine⟨h.ins,by simp[dW];omega,?_⟩
 rw[List.any_eq_false]
 intro y hy
 obtain⟨_,hne,_⟩:=oE h.ins hy
 obtain⟨i,hi,rfl⟩:=List.mem_iff_getElem.1 hy
 rw[Hp _ hne]
 have hp:0<(x.ins_[i]).l.length:=List.length_pos_iff.2 hne
 have:=h.ids _ (Ds hi (List.getElem_mem (show(x.ins_[i]).l.length-1<(x.ins_[i]).l.length by omega)))
 rw[aM (show(x.ins_[i]).l.length-1<(x.ins_[i]).l.length by omega)]
 simp only[decide_eq_true_eq]
 omega
def CP (now:Int) (x:Su):Su:={ x with ins_:=gP x.d.j now x.ins_,over:=x.over+(kE x.d.j now x.ins_).length }
def kY (now:Int) (l:List Su) (i:Nat):List Su:=(l.take i).map (CP now)++l.drop i
theorem jI (now:Int) (l:List Su) (i:Nat):(kY now l i).length=l.length:=by simp[kY];omega
theorem JU {now:Int} {l:List Su} {i:Nat} (h:i<l.length):(kY now l i)[i]'(by rw[jI];exact h)=l[i]:=by
 unfold kY
 rw[List.getElem_append_right (by simp;omega)]
 simp[Nat.min_eq_left (Nat.le_of_lt h)]
theorem HB {now:Int} {l:List Su} {i:Nat} (h:i<l.length):(kY now l i).set i (CP now l[i])=kY now l (i+1):=by
 unfold kY
 rw[List.set_append_right _ _ (by simp;omega),List.length_map,List.length_take,Nat.min_eq_left (Nat.le_of_lt h),Nat.sub_self,List.drop_eq_getElem_cons h,List.set_cons_zero,List.take_succ_eq_append_getElem h,List.map_append,List.append_assoc]
 rfl
def x4 (s:Ro) (d:Int):Ro×Int:=if d<0∨1099511627775-s.now<d then(s,1)else({ s with now:=s.now+d,su:=s.su.map (CP (s.now+d)) },0)
theorem RR (s:Ro) (d:Int) (h:RoOk s):Fn Tryz.prog 19 [s.pv,pI d] (.pv (.tup [(x4 s d).1.pv,pI (x4 s d).2])) []:=by
 refine c19.r [] (by simp) ?_
 have hl:=h.sul
 have h7:=HI s h
 have hn0:=h.n0
 have hn1:=h.n1
 simp only[go_sem,M19]
 refine aA (by simp only[go_sem]) (by simp only[go_sem]<;>rfl) (h7) ⟨rfl,trivial⟩ trivial ?_
 simp only[go_sem]
 unfold x4
 refine⟨fun hd=>⟨by omega,by omega⟩,fun hd=>by rw[if_pos hd],fun hd=>?_⟩
 rw[if_neg (by omega)]
 refine⟨⟨by omega,by omega⟩,?_⟩
 obtain⟨now,hnow⟩:∃now,now=s.now+d:=⟨_,rfl⟩
 rw[←hnow]
 refine aC (by simp only[go_sem]) rfl (Nn s.su (by omega)) (.inl rfl) trivial ?_
 simp only[go_sem]
 refine bK (T:=Nat) [2,4,6,39,40] [2,4,6,1035] (fun i=>⟨[(2,.ptr 2 0),(4,.ptr 4 0),(6,.ptr 6 0),(39,.pv (pI s.su.length)),(40,.pv (pI i))],[(2,.box s.av),(4,.box [.pv (pI 0),.e0,.e0,.e0,.pv (pI 0),.e0,.e0,.e0]),
  (6,.box [.pv (pI now),.pv (uJ s.tp),.pv (ls s.la),.row 1035 0 s.su.length,.pv (pI s.total),.pv (os s.out),.pv (os s.gone),.pv (J9 s.dead)]),(1035,.sl 15 ((kY now s.su i).map Su.pv))]⟩) (fun i=>i≤s.su.length) (fun i=>s.su.length-i) 0 ?_ (Nat.zero_le _) ?_
 ·simp only[go_sem,kY]
 intro i hi
 by_cases hlt:i<s.su.length
 ·have hx:=h.su _ (List.getElem_mem hlt)
  have hea:(kY now s.su i)[i]'(by rw[jI];exact hlt)=s.su[i]:=JU hlt
  have hin:=hx.insl
  have h69:=Rt s.su[i].d.j s.su[i].ins_ now (by omega) hin.2
  rw[Ok hx h.n0 (by omega) (by omega)]at h69
  simp only[go_sem,B19_0,kC,jI,aK (show i<(kY now s.su i).length by rw[jI];exact hlt),hea,show(i:Int)<(s.su.length:Int)by omega]
  refine⟨hlt,hlt,?_⟩
  refine aC (by simp only[go_sem]) rfl (h69) (.inl rfl) trivial ?_
  have g1:(List.map Su.pv (kY now s.su i)).getD i default=Su.pv s.su[i]:=by rw[aK (show i<(kY now s.su i).length by rw[jI];exact hlt),hea]
  have g2:∀p,((List.map Su.pv (kY now s.su i)).set i p).getD i default=p:=fun p=>nH (by rw[List.length_map,jI];exact hlt)
  have hov:=Jb s.su[i].d.j now s.su[i].ins_
  have b1:=hx.big
  have b2:=hx.cnt
  have b3:=hx.i0
  have b4:=hx.v0
  simp only[go_sem,AP,g1,g2,List.set_set,List.length_set,jI,List.set_cons_succ]
  refine⟨hlt,hlt,⟨by omega,by omega⟩,hlt,⟨by omega,by omega⟩,i+1,?_,by omega,by omega⟩
  rw[←HB hlt,List.map_set]
  rfl
 ·obtain rfl:i=s.su.length:=by omega
  simp only[go_sem,B19_0,R19_0,kY,show ¬(s.su.length:Int)<(s.su.length:Int)by omega]
  rw[List.drop_length,List.append_nil,List.take_of_length_le (by simp)]
end Go.Vc

namespace Go.Vc
open Go.Proofs
set_option linter.unusedSimpArgs false
set_option linter.unusedVariables false
set_option maxRecDepth 10000
def dB (n:ByteArray) (u:Int) (x:Su):Int:=if BP x.d n=true then(if rV x.offs n<u then rV x.offs n else u)else u
def iZ (s:Ro) (t:Tp):Int:=s.su.foldl (dB t.name) t.end_
theorem z8 {n:ByteArray} {u:Int} {l:List Su} {i:Nat} (h:i<l.length):(l.take (i+1)).foldl (dB n) u=dB n ((l.take i).foldl (dB n) u) l[i]:=by
 rw[List.take_succ_eq_append_getElem h,List.foldl_append];rfl
theorem Ru (s:Ro) (t:Tp) (h:RoOk s) (ht:TpOk t):Fn Tryz.prog 68 [s.pv,t.pv] (.pv (pI (iZ s t))) []:=by
 refine c68.r [] (by simp) ?_
 have hl:=h.sul
 have h123:=MH t ht
 have hsz:=fH ht.name
 simp only[go_sem,M68]
 refine aA (by simp only[go_sem]) (by simp only[go_sem]<;>rfl) (h123) ⟨rfl,trivial⟩ trivial ?_
 simp only[go_sem]
 refine bK (T:=Nat) [3,5,11,12,13] [3] (fun i=>⟨[(3,.ptr 3 0),(5,.pv (pI ((s.su.take i).foldl (dB t.name) t.end_))),(11,.pv (J4 s.su)),(12,.pv (pI s.su.length)),(13,.pv (pI i))],[(3,.box [.pv (pS t.name),.pv (pI t.first),.pv (ss t.log)])]⟩) (fun i=>i≤s.su.length) (fun i=>s.su.length-i) 0 ?_ (Nat.zero_le _) ?_
 ·simp only[go_sem]
  rfl
 intro i hi
 by_cases hlt:i<s.su.length
 ·have hx:=h.su _ (List.getElem_mem hlt)
  have h124:=QD s.su[i].d t.name hx.sm hx.may (by omega)
  have h104:=MM s.su[i].offs t.name (by have:=sT hx.of;omega)
  simp only[go_sem,B68_0,kC,aK hlt,show(i:Int)<(s.su.length:Int)by omega]
  refine aA (by simp only[go_sem]) (by simp only[go_sem]<;>rfl) (h124) ⟨rfl,trivial⟩ trivial ?_
  simp only[go_sem]
  refine⟨fun hw=>?_,fun hw=>⟨⟨by omega,by omega⟩,i+1,?_,by omega,by omega⟩⟩
  ·refine aA (by simp only[go_sem]) (by simp only[go_sem]<;>rfl) (h104) ⟨rfl,trivial⟩ trivial ?_
   simp only[go_sem]
   refine⟨⟨by omega,by omega⟩,i+1,?_,by omega,by omega⟩
   rw[z8 hlt,dB,if_pos hw]
   rfl
  ·rw[z8 hlt,dB,if_neg (by rw[hw];simp)]
   rfl
 ·obtain rfl:i=s.su.length:=by omega
  simp only[go_sem,B68_0,R68_0,show ¬(s.su.length:Int)<(s.su.length:Int)by omega]
  rfl
theorem GW {l:List Of} (h:d7 l=true) (n:ByteArray):0≤rV l n:=by
 unfold rV
 split
 ·exact Int.le_refl _
 ·rename_i hp
  rcases nG l n with⟨h1,_⟩|⟨k,hk,h1,_⟩
  ·omega
  ·rw[h1]
   simp only[d7,Bool.and_eq_true,List.all_eq_true]at h
   have:=h.1.2 _ (List.getElem_mem hk)
   simp only[Ax,Bool.and_eq_true,decide_eq_true_eq]at this
   simp only[Int.toNat_natCast,aM hk]
   exact this.2
theorem Dw {n:ByteArray}:∀(l:List Su) (u:Int),(∀x∈l,d7 x.offs=true)→0≤u→0≤l.foldl (dB n) u∧l.foldl (dB n) u≤u
 | [],u,_,h=>⟨h,Int.le_refl _⟩
 | x::l,u,hx,h=>by
  have h1:=GW (hx x List.mem_cons_self) n
  have h2:0≤dB n u x∧dB n u x≤u:=by
   unfold dB
   split
   ·split
    ·omega
    ·omega
   ·omega
  have h3:=Dw (n:=n) l (dB n u x) (fun y hy=>hx y (List.mem_cons_of_mem _ hy)) h2.1
  simp only[List.foldl_cons]
  omega
theorem Dv {s:Ro} (h:RoOk s) {t:Tp} (ht:TpOk t):0≤iZ s t∧iZ s t≤t.end_:=by
 have h1:=ht.first
 exact Dw s.su t.end_ (fun x hx=>(h.su x hx).of) (by unfold Tp.end_;omega)
theorem IK {t:Tp} {n:Int} (h0:0≤n) (h1:n≤t.end_):CQ [t] t.name n=([mO t n],0):=by
 have hf:cM [t] t.name=0:=by
  rcases gE [t] t.name with⟨_,h⟩|⟨k,hk,h,_⟩
  ·exact absurd rfl (h t (by simp))
  ·have:k=0:=by simp at hk;omega
   rw[h,this];rfl
 unfold CQ
 rw[hf,if_neg (by omega)]
 simp only[Int.toNat_zero,List.getD_cons_zero,List.set_cons_zero]
 rw[if_neg (by omega)]
theorem Jp {l:List PV} {i:Nat} {p:PV} (h:i<l.length):cR l i [p]=l.set i p:=by
 unfold cR
 rw[List.set_eq_take_append_cons_drop,if_pos h]
 simp
def vX (s:Ro) (i:Nat):List Tp:=(s.tp.take i).map (fun t=>mO t (iZ s t))++s.tp.drop i
def xE (s:Ro):Ro:={ s with tp:=s.tp.map fun t=>mO t (iZ s t) }
theorem Bg (s:Ro) (i:Nat):(vX s i).length=s.tp.length:=by simp[vX];omega
theorem G7 {s:Ro} {i:Nat} (h:i<s.tp.length):(vX s i).set i (mO s.tp[i] (iZ s s.tp[i]))=vX s (i+1):=by
 unfold vX
 rw[List.set_append_right _ _ (by simp;omega),List.length_map,List.length_take,Nat.min_eq_left (Nat.le_of_lt h),Nat.sub_self,List.drop_eq_getElem_cons h,List.set_cons_zero,List.take_succ_eq_append_getElem h,List.map_append,List.append_assoc]
 rfl
theorem RS (s:Ro) (h:RoOk s):Fn Tryz.prog 18 [s.pv] (.pv (.tup [(xE s).pv,pI 0])) []:=by
 refine c18.r [] (by simp) ?_
 have h7:=HI s h
 have htl:=h.tp.len
 simp only[go_sem,M18]
 refine aA (by simp only[go_sem]) (by simp only[go_sem]<;>rfl) (h7) ⟨rfl,trivial⟩ trivial ?_
 simp only[go_sem]
 refine aC (by simp only[go_sem]) rfl (OW s.tp (by omega)) (.inl rfl) trivial ?_
 simp only[go_sem]
 refine bK (T:=Nat) [1,2,4,19,20,21] [1,2,4,1016] (fun i=>⟨[(1,.ptr 1 0),(2,.ptr 2 0),(4,.ptr 4 0),(19,.pv (uJ s.tp)),(20,.pv (pI s.tp.length)),(21,.pv (pI i))],[(1,.box s.av),(2,.box [.pv (pI 0),.e0,.e0,.e0,.pv (pI 0),.e0,.e0,.e0]),
  (4,.box [.pv (pI s.now),.row 1016 0 s.tp.length,.pv (ls s.la),.pv (J4 s.su),.pv (pI s.total),.pv (os s.out),.pv (os s.gone),.pv (J9 s.dead)]),(1016,.sl 3 ((vX s i).map Tp.pv))]⟩) (fun i=>i≤s.tp.length) (fun i=>s.tp.length-i) 0 ?_ (Nat.zero_le _) ?_
 ·simp only[go_sem,vX]
 intro i hi
 by_cases hlt:i<s.tp.length
 ·have ht:=h.tp.one _ (List.getElem_mem hlt)
  have h68:=Ru s s.tp[i] h ht
  have hle:=Dv h ht
  have e1:=ht.first
  have e2:=ht.len
  have e3:=ht.last
  have hend:s.tp[i].end_≤1099511627775:=by unfold Tp.end_;omega
  have h67:=Rv [s.tp[i]] s.tp[i].name (iZ s s.tp[i]) ⟨by simp,fun t ht'=>by simp at ht';rw[ht'];exact ht,List.pairwise_singleton _ _⟩ (by omega)
  rw[IK hle.1 hle.2]at h67
  simp only[go_sem,B18_0,dF,Bg,aK hlt,show(i:Int)<(s.tp.length:Int)by omega]
  refine⟨⟨by omega,by omega⟩,⟨by omega,by omega⟩,?_⟩
  refine aA (by simp only[go_sem]) (by simp only[go_sem]<;>rfl) (h68) ⟨rfl,trivial⟩ trivial ?_
  have hone:List.drop i (List.take ((i:Int)+1).toNat (List.map Tp.pv s.tp))=[Tp.pv s.tp[i]]:=by
   rw[show((i:Int)+1).toNat=i+1 by omega,List.take_succ_eq_append_getElem (by simpa using hlt),List.drop_append_of_le_length (by simp;omega),List.drop_of_length_le (by simp;omega),List.getElem_map];rfl
  simp only[go_sem,hone]
  refine aC (by simp only[go_sem]) rfl (h67) (.inl rfl) trivial ?_
  simp only[go_sem]
  refine⟨⟨by omega,by omega⟩,⟨by omega,by omega⟩,by omega,dF [_],1,by omega,Nat.min_eq_left (by omega),⟨by omega,by omega⟩,i+1,?_,by omega,by omega⟩
  rw[←G7 hlt,List.map_set,←Jp (by rw[List.length_map,Bg];exact hlt)]
  rfl
 ·obtain rfl:i=s.tp.length:=by omega
  simp only[go_sem,B18_0,R18_0,vX,show ¬(s.tp.length:Int)<(s.tp.length:Int)by omega]
  rw[List.drop_length,List.append_nil,List.take_of_length_le (by simp)]
  rfl
end Go.Vc

namespace Go.Vc
open Go.Proofs
set_option linter.unusedSimpArgs false
set_option linter.unusedVariables false
set_option maxRecDepth 10000
theorem jS (a:ByteArray):lS a a=false:=nK _
theorem xR {a b:ByteArray} (h:lS a b=false) (hn:a≠b):lS b a=true:=zG h fun e=>hn (toList_inj e)
theorem FK {α:Type} {p:α→Bool} {x:α}:∀l:List α,eZ l (l.takeWhile p).length x=l.takeWhile p++x::l.dropWhile p
 | []=>rfl
 | a::l=>by
  have ih:=FK (p:=p) (x:=x) l
  by_cases h:p a=true
  ·simp only[eZ,List.takeWhile_cons,List.dropWhile_cons,h,if_true,List.length_cons,List.take_succ_cons,List.drop_succ_cons,List.cons_append]at ih ⊢
   rw[ih]
  ·simp[eZ,List.takeWhile_cons,List.dropWhile_cons,h]
theorem Em {α:Type} {p:α→Bool}:∀{l:List α} {a:α},a∈l.takeWhile p→p a=true
 | [],a,h=>by simp at h
 | b::l,a,h=>by
  by_cases hb:p b=true
  ·rw[List.takeWhile_cons,if_pos hb]at h
   rcases List.mem_cons.1 h with rfl|h
   ·exact hb
   ·exact Em h
  ·rw[List.takeWhile_cons,if_neg hb]at h;cases h
theorem Cp {α:Type} {p:α→Bool}:∀{l:List α} {a:α} {r:List α},l.dropWhile p=a::r→p a=false
 | [],a,r,h=>by simp at h
 | b::l,a,r,h=>by
  by_cases hb:p b=true
  ·rw[List.dropWhile_cons,if_pos hb]at h;exact Cp h
  ·rw[List.dropWhile_cons,if_neg hb]at h
   injection h with h1 h2
   subst h1
   simpa using hb
theorem qN {α:Type} {R:α→α→Prop} {p:α→Bool} {x:α} {l:List α} (hl:l.Pairwise R) (h1:∀y∈l,p y=true→R y x) (h2:∀y∈l,p y=false→R x y) (tr:∀a b,R x a→R a b→R x b):
  (eZ l (l.takeWhile p).length x).Pairwise R:=by
 rw[FK]
 have hs:l.takeWhile p++l.dropWhile p=l:=List.takeWhile_append_dropWhile
 have hl':=hl
 rw[←hs]at hl'
 obtain⟨a1,a2,a3⟩:=List.pairwise_append.1 hl'
 have hm:∀y∈l.dropWhile p,y∈l:=fun y hy=>(List.dropWhile_sublist p).subset hy
 have hx:∀y∈l.dropWhile p,R x y:=by
  intro y hy
  cases hd:l.dropWhile p with
  | nil=>rw[hd]at hy;cases hy
  | cons a r=>
   rw[hd]at hy a2 hm
   have ha:=h2 a (hm a List.mem_cons_self) (Cp hd)
   rcases List.mem_cons.1 hy with rfl|hy
   ·exact ha
   ·exact tr a y ha ((List.pairwise_cons.1 a2).1 y hy)
 refine List.pairwise_append.2 ⟨a1,List.pairwise_cons.2 ⟨hx,a2⟩,fun y hy z hz=>?_⟩
 rcases List.mem_cons.1 hz with rfl|hz
 ·exact h1 y ((List.takeWhile_sublist p).subset hy) (Em hy)
 ·exact a3 y hy z hz
theorem cK {α:Type} {l:List α} {i:Nat} {x y:α}:y∈eZ l i x↔y=x∨y∈l:=by
 unfold eZ
 rw[List.mem_append,List.mem_cons]
 constructor
 ·rintro(h|h|h)
  ·exact .inr (List.mem_of_mem_take h)
  ·exact .inl h
  ·exact .inr (List.mem_of_mem_drop h)
 ·rintro(h|h)
  ·exact .inr (.inl h)
  ·rw[←List.take_append_drop i l,List.mem_append]at h
   rcases h with h|h
   ·exact .inl h
   ·exact .inr (.inr h)
theorem uN {α:Type} {R:α→α→Prop} {l:List α} (h:l.Pairwise R) {i:Nat} (hi:i<l.length) {y:α} (h1:∀a,R a l[i]→R a y) (h2:∀a,R l[i] a→R y a):(l.set i y).Pairwise R:=by
 rw[List.pairwise_iff_getElem]at h ⊢
 intro a b ha hb hab
 rw[List.length_set]at ha hb
 rw[List.getElem_set,List.getElem_set]
 by_cases e1:i=a
 ·subst e1
  rw[if_pos rfl,if_neg (by omega)]
  exact h2 _ (h i b ha hb hab)
 ·rw[if_neg e1]
  by_cases e2:i=b
  ·subst e2
   rw[if_pos rfl]
   exact h1 _ (h a i ha hb hab)
  ·rw[if_neg e2]
   exact h a b ha hb hab
theorem fO {α:Type} {l:List α} {i:Nat} {x y:α} (h:y∈l.set i x):y=x∨y∈l:=(List.mem_or_eq_of_mem_set h).symm
theorem EC {tp:List Tp} (ht:TpsOk tp) {n:ByteArray} {m:Int}:(∃k,∃h:k<tp.length,cM tp n=k∧m≤(tp[k]).end_)↔∃t∈tp,t.name=n∧m≤t.end_:=by
 constructor
 ·rintro⟨k,h,hf,hm⟩
  rcases gE tp n with⟨h1,_⟩|⟨k',hk,h1,h2⟩
  ·omega
  ·obtain rfl:k'=k:=by omega
   exact⟨_,List.getElem_mem h,h2,hm⟩
 ·rintro⟨t,hmem,hn,hm⟩
  rcases gE tp n with⟨_,h2⟩|⟨k,hk,h1,h2⟩
  ·exact absurd hn (h2 t hmem)
  ·obtain⟨j,hj,rfl⟩:=List.mem_iff_getElem.1 hmem
   have:j=k:=by
    rcases Nat.lt_trichotomy j k with h|h|h
    ·have:=List.pairwise_iff_getElem.1 ht.ord j k hj hk h
     rw[Eh,hn,h2,jS]at this;cases this
    ·exact h
    ·have:=List.pairwise_iff_getElem.1 ht.ord k j hk hj h
     rw[Eh,hn,h2,jS]at this;cases this
   subst this
   exact⟨j,hk,h1,hm⟩
def Ns (l m:List Tp):Prop:=∀t∈l,∃u∈m,u.name=t.name∧t.end_≤u.end_
theorem SuOk.grow {now:Int} {tp tp':List Tp} {x:Su} (h:SuOk now tp x) (ht:TpsOk tp) (ht':TpsOk tp') (hg:Ns tp tp'):SuOk now tp' x:=
 {sm:=h.sm,may:=h.may,f0:=h.f0,f3:=h.f3,of:=h.of,p0:=h.p0,i0:=h.i0,v0:=h.v0,cnt:=h.cnt,ins:=h.ins,ids:=h.ids,big:=h.big
  at_:=fun o ho=>(EC ht').2 (by
   obtain⟨t,hm,hn,hle⟩:=(EC ht).1 (h.at_ o ho)
   obtain⟨u,hu,hun,hue⟩:=hg t hm
   exact⟨u,hu,by rw[hun,hn],by omega⟩) }
theorem FY {e:Ev} (hm:iU e=true) (hn:EvN e):OfOk (bQ (eM e)) e.topic:=by
 obtain⟨h1,h2⟩:=IL hm hn
 refine⟨?_,?_,?_⟩
 ·rw[dR,h1]
 ·rw[dR,h1];rfl
 ·rw[dR,h1]
theorem LQ {l:List Tp} {e:Ev} (h:TpsOk l) (hm:iU e=true) (hn:EvN e) (he:(o7 l e).2.2=0):TpsOk (o7 l e).1∧0≤(o7 l e).2.1∧Ns l (o7 l e).1:=by
 have hlo:=FY hm hn
 have htop:=(jM hm).1
 unfold o7 at he ⊢
 split
 ·rename_i h1
  rw[if_pos h1]at he
  split
  ·rename_i h2;rw[if_pos h2]at he;cases he
  ·rename_i h2
   have hno:∀x∈l,x.name≠e.topic:=by
    rcases gE l e.topic with⟨_,h3⟩|⟨k,hk,h3,_⟩
    ·exact h3
    ·omega
   refine⟨⟨?_,?_,?_⟩,Int.le_refl _,fun t ht=>⟨t,cK.2 (.inr ht),rfl,Int.le_refl _⟩⟩
   ·rw[gX ((List.takeWhile_sublist _).length_le)];omega
   ·intro t ht
    rcases cK.1 ht with rfl|ht
    ·exact⟨htop,Int.le_refl _,by simp,by simp,fun o ho=>by rw[List.mem_singleton]at ho;subst ho;exact hlo⟩
    ·exact h.one t ht
   ·exact qN (R:=Eh) h.ord (fun y _ hy=>hy) (fun y hy hp=>xR hp (hno y hy)) fun a b h1 h2=>gU h1 h2
 ·rename_i h1
  rw[if_neg h1]at he
  split
  ·rename_i h2;rw[if_pos h2]at he;cases he
  ·rename_i h2
   rcases gE l e.topic with⟨h3,_⟩|⟨k,hk,h3,h4⟩
   ·omega
   ·rw[h3,Int.toNat_natCast,aM hk]at h2 ⊢
    have ht:=h.one _ (List.getElem_mem hk)
    obtain⟨t,htk⟩:∃t,t=l[k]:=⟨_,rfl⟩
    rw[←htk]at ht h2 h4 ⊢
    have g1:=ht.first
    have g2:=ht.len
    have g3:=ht.last
    unfold Tp.end_ at h2
    have hnew:TpOk { t with log:=t.log++[bQ (eM e)] }:=⟨ht.name,g1,by simp;omega,by simp;omega,fun o ho=>by
     rcases List.mem_append.1 ho with ho|ho
     ·exact ht.log o ho
     ·rw[List.mem_singleton]at ho;subst ho;show OfOk _ t.name;rw[h4];exact hlo⟩
    refine⟨⟨by rw[List.length_set];exact h.len,?_,?_⟩,?_,?_⟩
    ·intro u hu
     rcases fO hu with rfl|hu
     ·exact hnew
     ·exact h.one u hu
    ·exact uN h.ord hk (fun a ha=>by rw[←htk]at ha;exact ha) fun a ha=>by rw[←htk]at ha;exact ha
    ·show 0≤t.end_;unfold Tp.end_;omega
    ·intro u hu
     obtain⟨j,hj,rfl⟩:=List.mem_iff_getElem.1 hu
     by_cases e1:k=j
     ·subst e1
      refine⟨{ t with log:=t.log++[bQ (eM e)] },List.mem_iff_getElem.2 ⟨k,by rw[List.length_set];exact hk,by rw[List.getElem_set_self]⟩,by rw[←htk],?_⟩
      rw[←htk];unfold Tp.end_;simp;omega
     ·exact⟨l[j],List.mem_iff_getElem.2 ⟨j,by rw[List.length_set];exact hj,by rw[List.getElem_set_ne e1]⟩,rfl,Int.le_refl _⟩
theorem Bw {l:List La} (h1:l.length≤50) (h2:∀x∈l,Aw x=true) (h3:l.Pairwise (fun a b=>lS a.p b.p=true)):dV l=true:=by
 refine(gM l).2 ⟨h1,fun i hi=>?_⟩
 unfold HD
 rw[aM hi,h2 _ (List.getElem_mem hi),Bool.true_and]
 by_cases h0:i=0
 ·rw[decide_eq_true h0];rfl
 ·rw[aM (show i-1<l.length by omega),List.pairwise_iff_getElem.1 h3 (i-1) i (by omega) hi (by omega),Bool.or_true]
theorem Ff {l:List La} (h:dV l=true):∀x∈l,Aw x=true:=fun x hx=>by
 obtain⟨i,hi,rfl⟩:=List.mem_iff_getElem.1 hx
 have:=((gM l).1 h).2 i hi
 unfold HD at this
 rw[aM hi,Bool.and_eq_true]at this
 exact this.1
theorem Fe {l:List La} (h:dV l=true):l.Pairwise (fun a b=>lS a.p b.p=true):=by
 have key:∀d i (hi:i+(d+1)<l.length),lS (l[i]).p (l[i+(d+1)]).p=true:=by
  intro d
  induction d with
  | zero=>
   intro i hi
   have:=((gM l).1 h).2 (i+1) hi
   unfold HD at this
   rw[aM hi,Bool.and_eq_true,show i+1-1=i by omega,aM (show i<l.length by omega),decide_eq_false (by omega),Bool.false_or]at this
   exact this.2
  | succ d ih=>
   intro i hi
   have h1:=ih i (by omega)
   have:=((gM l).1 h).2 (i+(d+1+1)) hi
   unfold HD at this
   rw[aM hi,Bool.and_eq_true,show i+(d+1+1)-1=i+(d+1)by omega,aM (show i+(d+1)<l.length by omega),decide_eq_false (by omega),Bool.false_or]at this
   exact gU h1 this.2
 rw[List.pairwise_iff_getElem]
 intro i j hi hj hij
 obtain⟨d,rfl⟩:∃d,j=i+(d+1):=⟨j-i-1,by omega⟩
 exact key d i hj
theorem IM {l:List La} {x:La} (he:(s4 l x).2=0):dV (s4 l x).1=true:=by
 unfold s4 at he ⊢
 by_cases h1:(uM l x.p x.n).2≠0
 ·rw[if_pos h1]at he;exact absurd he h1
 rw[if_neg h1]at he ⊢
 have hask:dV l=true∧b8 x.p=true∧1≤x.n:=by
  by_cases h:dV l=false∨b8 x.p=false∨x.n<1
  ·exfalso;apply h1;unfold uM;rw[if_pos h];decide
  ·refine⟨?_,?_,?_⟩
   ·cases hc:dV l with
    | true=>rfl
    | false=>exact absurd (.inl hc) h
   ·cases hc:b8 x.p with
    | true=>rfl
    | false=>exact absurd (.inr (.inl hc)) h
   ·exact Classical.byContradiction fun hc=>h (.inr (.inr (by omega)))
 obtain⟨c1,c2,c3⟩:=hask
 have c4:=Fe c1
 have c5:=Ff c1
 have c6:=((gM l).1 c1).1
 by_cases h2:x.o<0
 ·rw[if_pos h2]at he;cases he
 rw[if_neg h2]at he ⊢
 have hx:Aw x=true:=by unfold Aw;rw[c2,decide_eq_true c3,decide_eq_true (by omega)];rfl
 by_cases h3:0≤v6 l x.p
 ·rw[if_pos h3]
  rcases tX l x.p with⟨h4,_⟩|⟨k,hk,h4,h5,_⟩
  ·omega
  ·rw[h4,Int.toNat_natCast]
   refine Bw (by rw[List.length_set];exact c6) (fun y hy=>?_) (uN c4 hk (fun a ha=>by rw[h5]at ha;exact ha) fun a ha=>by rw[h5]at ha;exact ha)
   rcases fO hy with rfl|hy
   ·exact hx
   ·exact c5 y hy
 rw[if_neg h3]at he ⊢
 by_cases h4:50≤l.length
 ·rw[if_pos h4]at he;cases he
 rw[if_neg h4]
 have hno:∀y∈l,y.p≠x.p:=by
  rcases tX l x.p with⟨_,h5⟩|⟨k,hk,h5,_⟩
  ·exact h5
  ·omega
 refine Bw (by rw[gX ((List.takeWhile_sublist _).length_le)];omega) (fun y hy=>?_) (qN c4 (fun y _ hy=>hy) (fun y hy hp=>xR hp (hno y hy)) fun a b h1 h2=>gU h1 h2)
 rcases cK.1 hy with rfl|hy
 ·exact hx
 ·exact c5 y hy
def dd (s:Ro) (n:ByteArray):Nat:=s.dead.countP fun x=>decide (x.sub=n)
def cnt (s:Ro) (n:ByteArray):Int:=match s.su.find? (fun x=>decide (x.d.name=n))with
 | some x=>x.passes+dd s n+x.taken
 | none=>0
structure RoB (k:Int) (s:Ro):Prop where
 t:s.total≤k
 su:∀x∈s.su,x.taken≤k∧x.passes≤k
theorem RoB.mono {k m:Int} {s:Ro} (h:RoB k s) (hk:k≤m):RoB m s:=⟨Int.le_trans h.t hk,fun x hx=>⟨Int.le_trans (h.su x hx).1 hk,Int.le_trans (h.su x hx).2 hk⟩⟩
theorem zC {s s':Ro} (h1:s'.su=s.su) (h2:s'.dead=s.dead) (n:ByteArray):cnt s' n=cnt s n:=by unfold cnt dd;rw[h1,h2]
theorem KM {l:List Su} (h:l.Pairwise mP) {x y:Su} (hx:x∈l) (hy:y∈l) (e:x.d.name=y.d.name):x=y:=by
 obtain⟨i,hi,rfl⟩:=List.mem_iff_getElem.1 hx
 obtain⟨j,hj,rfl⟩:=List.mem_iff_getElem.1 hy
 rcases Nat.lt_trichotomy i j with h1|h1|h1
 ·have:=List.pairwise_iff_getElem.1 h i j hi hj h1
  rw[mP,e,jS]at this;cases this
 ·subst h1;rfl
 ·have:=List.pairwise_iff_getElem.1 h j i hj hi h1
  rw[mP,e,jS]at this;cases this
theorem jA {s:Ro} (h:s.su.Pairwise mP) {x:Su} (hx:x∈s.su):cnt s x.d.name=x.passes+dd s x.d.name+x.taken:=by
 unfold cnt
 cases hf:s.su.find? (fun y=>decide (y.d.name=x.d.name))with
 | none=>
  have:=List.find?_eq_none.1 hf x hx
  simp at this
 | some y=>
  have h1:=List.mem_of_find?_eq_some hf
  have h2:=List.find?_some hf
  rw[KM h h1 hx (by simpa using h2)]
theorem nU {s:Ro} {n:ByteArray} (h:∀x∈s.su,x.d.name≠n):cnt s n=0:=by
 unfold cnt
 rw[List.find?_eq_none.2 fun x hx=>by simpa using h x hx]
structure KeptR (k:Int) (s s':Ro):Prop where
 ok:RoOk s'
 b:RoB (k+1) s'
 cnt:∀n,Go.Vc.cnt s' n=Go.Vc.cnt s n
theorem KeptR.self {k:Int} {s:Ro} (h:RoOk s) (hb:RoB k s):KeptR k s s:=⟨h,hb.mono (by omega),fun _=>rfl⟩
theorem NI {k:Int} {s:Ro} (h:RoOk s) (hb:RoB k s) (o:ByteArray):KeptR k s (D9 s o).1:=by
 unfold D9
 split
 ·exact .self h hb
 rename_i h1
 split
 ·exact .self h hb
 obtain⟨hm,hn,_⟩:=nW (Classical.not_not.1 h1)
 unfold MX
 split
 ·exact .self h hb
 split
 ·exact .self h hb
 rename_i h4
 split
 ·exact .self h hb
 rename_i h5
 obtain⟨g1,g2,g3⟩:=LQ h.tp hm hn (Classical.not_not.1 h4)
 refine⟨{ h with tp:=g1,la:=IM (Classical.not_not.1 h5),su:=fun x hx=>(h.su x hx).grow h.tp g1 g3 },⟨by have:=hb.t;simp only;omega,fun x hx=>(hb.mono (by omega)).su x hx⟩,fun n=>zC rfl rfl n⟩
end Go.Vc

namespace Go.Vc
open Go.Proofs
set_option maxRecDepth 100000
def M41:MC:=(.seq (.reg [vI 2 0,qi 4 (.mv (.c (.pointer none))),kI 5 0] [] [1,2] [2,200000]) (.seq (.seq (.reg [lI 8 2 8,cI 9 7 [.t 8],oJ 10 .neq 9 0] [] [1,2,10] [2,1009,200000]) (.cond (.t 10) (.seq (.reg [qi 4 (.mv (.c (.pointer none))),kI 5 1] [] [4,5] [20,1014,1027,200000]) .ret) .skip)) (.seq (.reg [fI 11 2 3,lJ 12 11 1,mi 13 1,cI 14 74 [.t 12,.t 13],mi 6 14] [] [2,6] [2,1014,200000]) (.seq (.seq (.reg [mi 15 6,oJ 16 .lss 15 0] [] [2,6,16] [2,1014,200000]) (.cond (.t 16) (.seq (.reg [qi 4 (.mv (.c (.pointer none))),kI 5 4] [] [4,5] [20,1014,1027,200000]) .ret) .skip)) (.seq (.reg [lI 17 2 8,mi 18 6,qi 19 (.mk [.pv (.sc (.int .i64 0)),.e0,.e0,.e0,.pv (.sc (.int .i64 0)),.e0,.e0,.e0,.pv (.sc (.int .i64 0))] [(0,8,(.t 17)),(8,1,(.t 18))]),vI 20 19,mi 7 20] [] [7] [20,1014,1027,200000]) (.seq (.reg [mi 21 7,mi 22 7,hI 23 22,fI 24 23 0,fI 25 24 3,lJ 26 25 1,cI 27 40 [.t 26],hI 28 21,fI 29 28 0,fI 30 29 3,⟨none,none,.st (.t 30) (.t 27) 1⟩] [] [7] [20,1014,1027,200000]) (.seq (.reg [mi 31 7,mi 4 31,kI 5 0] [] [4,5] [20,1014,1027,200000]) .ret)))))))
theorem c41:Cd 41 32 [RV.tmp 4,RV.tmp 5] M41:=cO [] (rn [] [] 9 M41) Tryz.func41 (by kernel_rfl) Tryz.ntmps41
def M46:MC:=(.seq (.reg [qi 2 (.mv (.c (.pointer none)))] [] [0] [150000,200000]) (.seq (.reg [mi 3 0,hI 4 3,fI 5 4 0,fI 6 5 3,lJ 7 6 1,mi 8 0,hI 9 8,fI 10 9 8,lJ 11 10 1,qi 12 (.ia (.t 7) (.t 11) 15),mi 2 12] [] [2] [150000,200000]) .ret))
theorem c46:Cd 46 13 [RV.tmp 2] M46:=cO [] (rn [] [(1,[(0,1567),(1,1566),(2,1564),(3,1560),(4,1552),(5,2016),(6,1984),(7,1920),(8,1792),(9,1536),(10,1024)],2047)] 2 M46) Tryz.func46 (by kernel_rfl) Tryz.ntmps46
def B112_0:MC:=(.seq (.reg [oI 19 .lss 18 17] [] [0,1,8,16,17,18,19] [15,1058,150000,200000]) (.seq (.cond (.t 19) .skip (.exit 0)) (.seq (.block 1 (.seq (.reg [mi 20 18,qi 21 (.ia (.t 16) (.t 18) 3),lI 22 21 3,aI 10 [.pv (.sc (.int .i64 0)),.pv (.sc (.int .u64 0)),.pv (.sc (.int .i64 0))],mi 9 20,⟨none,none,.st (.t 10) (.t 22) 3⟩] [] [0,1,8,9,10,16,17,18] [10,15,1058,150000,200000]) (.reg [mi 23 8,mi 24 9,fI 25 10 1,lJ 26 25 1,qi 27 (.ia (.t 23) (.t 24) 1),⟨none,none,.st (.t 27) (.t 26) 1⟩] [] [0,1,8,16,17,18] [15,1058,150000,200000]))) (.reg [oJ 28 .add 18 1,mi 18 28] [] [0,1,8,16,17,18] [15,1058,150000,200000]))))
def R112_0:MC:=(.seq (.reg [mi 29 0,hI 30 29,fI 31 30 0,fI 32 31 4,lJ 33 32 1,oJ 34 .add 33 1,hI 35 29,fI 36 35 0,fI 37 36 4,⟨none,none,.st (.t 37) (.t 34) 1⟩] [(15,15,0)] [0,1,8] [15,1058,150000,200000]) (.seq (.reg [mi 39 0,hI 40 39,fI 41 40 0,fI 42 41 5,lJ 43 42 1,mi 44 0,hI 45 44,fI 46 45 0,fI 47 46 4,lJ 48 47 1,qi 49 (.conv .u64 (.t 48)),mi 50 1,mi 51 8,mi 52 0,hI 53 52,fI 54 53 0,fI 55 54 0,lJ 56 55 1,qi 57 (.mk [.pv (.sc (.int .u64 0)),.pv (.sc (.string ⟨#[]⟩)),.e0,.pv (.sc (.int .i64 0)),.pv (.sc (.int .i64 0))] [(0,1,(.t 49)),(1,1,(.t 50)),(2,1,(.t 51)),(4,1,(.t 56))]),cI 58 168 [.t 43,.t 57],mi 38 58,xI 59 38 0,xI 60 38 1,mi 11 59,mi 12 60] [] [0,11,12] [1058,150000,200000]) (.seq (.seq (.reg [mi 61 12,oJ 62 .neq 61 0] [] [0,11,12,62] [1058,150000,200000]) (.cond (.t 62) (.seq (.reg [mi 63 12,kI 6 0,mi 7 63] [] [6,7] [1058,150000,200000]) .ret) .skip)) (.seq (.reg [mi 64 0,mi 65 11,hI 66 64,fI 67 66 0,fI 68 67 5,⟨none,none,.st (.t 68) (.t 65) 1⟩] [] [] [1058,150000,200000]) (.seq (.reg [kI 6 3,kI 7 0] [] [6,7] [1058,150000,200000]) .ret)))))
def M112:MC:=(.seq (.reg [kI 6 0,kI 7 0] [] [0,1,2] [1058,150000,200000]) (.seq (.reg [mi 13 2,nI 14 13 false,⟨some 15,none,.mks (.t 14) (.t 14) 1 8 (.sc (.int .u64 0))⟩,mi 8 15] [] [0,1,2,8] [15,1058,150000,200000]) (.seq (.seq (.reg [mi 16 2,nI 17 16 false,kI 18 0] [] [0,1,8,16,17,18] [15,1058,150000,200000]) (.block 0 (.loop B112_0))) R112_0)))
theorem c112:Cd 112 69 [RV.tmp 6,RV.tmp 7] M112:=cO [] (rn [] [(8,[(0,33030175),(1,33030174),(2,33030172),(3,33030168),(4,33030160),(5,33294304),(6,33294272),(7,33294208),(8,33294080),(9,33293824),(10,33293312),(11,33294336),(12,33296384),(13,33546240),(14,33538048),(15,33521664),(16,33488896),(17,33423360),(18,33292288),(19,0),(20,32505856),(21,27262976),(22,20971520),(23,25165824),(24,16777216)],33554431)] 13 M112) Tryz.func112 (by kernel_rfl) Tryz.ntmps112
end Go.Vc

namespace Go.Vc
open Go.Proofs
set_option linter.unusedSimpArgs false
set_option linter.unusedVariables false
set_option maxRecDepth 10000
abbrev QY (s:Ro) (n:Nat) (at_:Int):Row:=.box [.pv (pI s.now),.pv (uJ s.tp),.pv (ls s.la),.row 150000 0 n,.pv (pI s.total),.pv (os s.out),.pv (os s.gone),.pv (J9 s.dead),.pv (pI at_)]
abbrev dk (s:Ro) (at_:Int):List (Nat×Row):=[(150000,.sl 15 (s.su.map Su.pv)),(200000,QY s s.su.length at_)]
theorem Fr (s:Ro) (i:Nat) (hi:i<s.su.length) (hl:s.su.length<100000):j4 Tryz.prog 46 [.ptr 200000 0] (dk s i) (.rptr 150000 i 0) (dk s i):=by
 refine c46.s (by simp) (by simp) ?_
 simp only[go_sem,M46]
 omega
theorem AN (s:Ro) (n:ByteArray) (h:RoOk s) (hp:0≤gJ s.su n):j4 Tryz.prog 41 [.pv s.pv,.pv (pS n)] [] (.tup [.ptr 20 0,.pv (pI 0)]) [(1027,.sl 15 (s.su.map Su.pv)),(20,.box [.pv (pI s.now),.pv (uJ s.tp),.pv (ls s.la),.row 1027 0 s.su.length,.pv (pI s.total),.pv (os s.out),.pv (os s.gone),.pv (J9 s.dead),.pv (pI (gJ s.su n))])]:=by
 refine c41.s (by simp) (by simp) ?_
 simp only[go_sem,M41]
 refine aA (by simp only[go_sem]) (by simp only[go_sem]<;>rfl) (HI s h) ⟨rfl,trivial⟩ trivial ?_
 simp only[go_sem]
 refine aA (by simp only[go_sem]) (by simp only[go_sem]<;>rfl) (Nk s.su n (by have:=h.sul;omega)) ⟨rfl,trivial⟩ trivial ?_
 simp only[go_sem,show ¬gJ s.su n<0 by omega]
 refine aC (by simp only[go_sem]) rfl (Nn s.su (by have:=h.sul;omega)) (.inl rfl) trivial ?_
 simp only[go_sem]
 done
end Go.Vc

namespace Go.Vc
open Go.Proofs
set_option linter.unusedSimpArgs false
set_option linter.unusedVariables false
set_option maxRecDepth 10000
def tC (s:Ro) (n:ByteArray) (l:List Kp):Ro×Int×Int:=
 if(sZ s.out ⟨s.total+1,n,l.map (·.id),0,s.now⟩).2≠0 then({ s with total:=s.total+1 },0,(sZ s.out ⟨s.total+1,n,l.map (·.id),0,s.now⟩).2)
 else({ s with total:=s.total+1,out:=(sZ s.out ⟨s.total+1,n,l.map (·.id),0,s.now⟩).1 },3,0)
def pG (l:List Kp) (i:Nat):List PV:=(l.take i).map (fun k=>pU k.id)++List.replicate (l.length-i) (pU 0)
theorem Hb {l:List Kp} {i:Nat} (h:i<l.length):(pG l i).set i (pU l[i].id)=pG l (i+1):=by
 unfold pG
 rw[List.set_append_right _ _ (by simp;omega),List.length_map,List.length_take,Nat.min_eq_left (Nat.le_of_lt h),Nat.sub_self,show l.length-i=(l.length-(i+1))+1 by omega,List.replicate_succ,List.set_cons_zero,List.take_succ_eq_append_getElem h,List.map_append,List.append_assoc]
 rfl
theorem Hc {l:List Kp} {i:Nat} (h:i≤l.length):(pG l i).length=l.length:=by simp[pG];omega
theorem Hd {l:List Kp} {i:Nat} (h:i<l.length):(pG l i).getD i default=pU 0:=by
 unfold pG
 rw[List.getD_eq_getElem?_getD,List.getElem?_append_right (by simp;omega),List.length_map,List.length_take,Nat.min_eq_left (Nat.le_of_lt h),Nat.sub_self,List.getElem?_replicate,if_pos (by omega)]
 rfl
theorem Oh (s:Ro) (at_:Int) (n:ByteArray) (l:List Kp) (hl:l.length<100000) (ho:s.out.length<100000) (ht:0≤s.total∧s.total≤1000000000000) (m:Nat):
  j4 Tryz.prog 112 [.ptr 200000 0,.pv (pS n),.pv (ks l)] [(150000,.sl 15 (s.su.map Su.pv)),(200000,QY s m at_)] (.pv (.tup [pI (tC s n l).2.1,pI (tC s n l).2.2]))
   [(150000,.sl 15 (s.su.map Su.pv)),(200000,QY (tC s n l).1 m at_)]:=by
 refine c112.s (by simp) (by simp) ?_
 simp only[go_sem,M112]
 refine⟨⟨by omega,by omega,by omega⟩,?_⟩
 refine bK (T:=Nat) [0,1,8,16,17,18] [15,150000,200000] (fun i=>⟨[(0,.ptr 200000 0),(1,.pv (pS n)),(8,.row 15 0 l.length),(16,.pv (ks l)),(17,.pv (pI l.length)),(18,.pv (pI i))],[(15,.sl 1 (pG l i)),(150000,.sl 15 (s.su.map Su.pv)),(200000,QY s m at_)]⟩) (fun i=>i≤l.length) (fun i=>l.length-i) 0 ?_ (Nat.zero_le _) ?_
 ·simp only[go_sem,pG,Nat.sub_zero]
 intro i hi
 by_cases hlt:i<l.length
 ·simp only[go_sem,B112_0,fX,aK hlt,Hc hi,show(i:Int)<(l.length:Int)by omega,Hd hlt]
  refine⟨hlt,⟨by omega,by omega⟩,i+1,?_,by omega,by omega⟩
  rw[Hb hlt]
  rfl
 ·obtain rfl:i=l.length:=by omega
  have e0:pG l l.length=l.map fun k=>pU k.id:=by simp[pG]
  have et:List.take l.length (List.map (fun k:Kp=>pU k.id) l)=(l.map (·.id)).map pU:=by
   rw[List.take_of_length_le (by simp),List.map_map];rfl
  simp only[go_sem,B112_0,R112_0,e0,et,show ¬(l.length:Int)<(l.length:Int)by omega]
  refine⟨⟨by omega,by omega⟩,⟨by omega,by omega⟩,?_⟩
  have h168:=Qh s.out ⟨s.total+1,n,l.map (·.id),0,s.now⟩ ho
  refine aC (by simp only[go_sem]) rfl (h168) (.inl rfl) trivial ?_
  simp only[go_sem,et]
  unfold tC
  refine⟨fun h=>?_,fun h=>?_⟩
  ·rw[if_pos h];exact⟨rfl,rfl⟩
  ·rw[if_neg (fun h2=>h2 h)];exact⟨rfl,rfl⟩
end Go.Vc

namespace Go.Vc
open Go.Proofs
set_option maxRecDepth 100000
def M50:MC:=(.seq (.reg [vI 3 1,kI 4 0,kI 5 0] [] [0,3] [3,1016,1070,1117,150000,200000]) (.seq (.reg [mi 15 0,dI 16 46 [.t 15],mi 6 16] [] [0,3,6] [3,1016,1070,1117,150000,200000]) (.seq (.reg [mi 17 6,hI 18 17,fI 19 18 0,lI 20 19 8,lI 21 3 4,cI 22 109 [.t 20,.t 21],mi 7 22] [] [0,3,6,7] [3,1016,1022,1070,1117,150000,200000]) (.seq (.seq (.grp [8,1029] [⟨24,none,.q (.mv (.t 6)),[6],[1016,1070,1117,150000,200000]⟩,⟨25,none,.q (.nch (.t 24)),[24],[1016,1070,1117,150000,200000]⟩,⟨26,none,.q (.fa (.t 25) 0),[25],[1016,1070,1117,150000,200000]⟩,⟨27,none,.q (.ld (.t 26) 8 true),[26],[1016,1070,1117,150000,200000]⟩,⟨28,none,.q (.ld (.t 3) 4 true),[3],[3]⟩,⟨29,none,.call (.f 110) [.t 27,.t 28],[27,28],[1016,1070,1117,150000]⟩,⟨23,none,.q (.mv (.t 29)),[29],[1029]⟩,⟨30,none,.q (.ext (.t 23) 0),[23],[1029]⟩,⟨31,none,.q (.ext (.t 23) 1),[23],[1029]⟩,⟨8,none,.alloc [.pv (.sc (.bool false)),.pv (.sc (.int .i64 0)),.pv (.sc (.string ⟨#[]⟩))],[],[]⟩] [0,6,7,8,9,30,31] [8,1016,1022,1029,1070,1117,150000,200000]) (.reg [⟨none,none,.st (.t 8) (.t 30) 3⟩,mi 9 31] [] [0,6,7,8,9] [8,1016,1022,1029,1070,1117,150000,200000])) (.seq (.seq (.reg [mi 32 7,oJ 33 .lss 32 0,mi 34 33,gF 35 34 (.mv (.t 9)),gF 36 34 (.not (.t 35)),qi 37 (.pick (.t 34) (.c (.bool true)) (.t 36))] [] [0,6,7,8,37] [8,1016,1022,1029,1070,1117,150000,200000]) (.cond (.t 37) (.seq (.reg [mi 38 6,hI 39 38,fI 40 39 12,lJ 41 40 1,oJ 42 .add 41 1,hI 43 38,fI 44 43 12,⟨none,none,.st (.t 44) (.t 42) 1⟩] [] [] [1016,1070,1117,150000,200000]) (.seq (.reg [kI 4 1,kI 5 0] [] [4,5] [1016,1070,1117,150000,200000]) .ret)) .skip)) (.seq (.reg [mi 45 7,mi 46 6,hI 47 46,fI 48 47 11,lJ 49 48 1,qi 50 (.conv .u64 (.t 49)),qi 51 (.bin .add (.t 50) (.c (.int .u64 1))),mi 52 0,hI 53 52,fI 54 53 0,fI 55 54 0,lJ 56 55 1,qi 57 (.mk [.pv (.sc (.int .i64 0)),.pv (.sc (.int .u64 0)),.pv (.sc (.int .i64 0))] [(0,1,(.t 45)),(1,1,(.t 51)),(2,1,(.t 56))]),aI 10 [.pv (.sc (.int .i64 0)),.pv (.sc (.int .u64 0)),.pv (.sc (.int .i64 0))],⟨none,none,.st (.t 10) (.t 57) 3⟩] [] [0,6,8,10] [8,10,1016,1022,1029,1070,1117,150000,200000]) (.seq (.reg [mi 59 6,hI 60 59,fI 61 60 0,fI 62 61 4,lI 63 62 4,mi 64 6,hI 65 64,fI 66 65 9,lJ 67 66 1,lI 68 8 3,lI 69 10 3,cI 70 111 [.t 63,.t 67,.t 68,.t 69],mi 58 70,xI 71 58 0,xI 72 58 1,xI 73 58 2,xI 74 58 3,mi 11 71,mi 12 72,mi 13 73,mi 14 74] [] [0,6,11,12,13,14] [1016,1070,1117,150000,200000]) (.seq (.seq (.reg [mi 75 14,oJ 76 .neq 75 0] [] [0,6,11,12,13,14,76] [1016,1070,1117,150000,200000]) (.cond (.t 76) (.seq (.reg [mi 77 14,kI 4 0,mi 5 77] [] [4,5] [1016,1070,1117,150000,200000]) .ret) .skip)) (.seq (.reg [mi 78 6,mi 79 11,hI 80 78,fI 81 80 9,⟨none,none,.st (.t 81) (.t 79) 1⟩] [] [0,6,12,13] [1016,1070,1117,150000,200000]) (.seq (.reg [mi 82 6,hI 83 82,fI 84 83 11,lJ 85 84 1,oJ 86 .add 85 1,hI 87 82,fI 88 87 11,⟨none,none,.st (.t 88) (.t 86) 1⟩] [] [0,6,12,13] [1016,1070,1117,150000,200000]) (.seq (.reg [mi 89 6,hI 90 89,fI 91 90 14,lJ 92 91 1,mi 93 13,nI 94 93 false,oI 95 .add 92 94,hI 96 89,fI 97 96 14,⟨none,none,.st (.t 97) (.t 95) 1⟩] [] [0,6,12] [1016,1070,1117,150000,200000]) (.seq (.seq (.reg [mi 98 12,nI 99 98 false,oJ 100 .eql 99 0] [] [0,6,12,100] [1016,1070,1117,150000,200000]) (.cond (.t 100) (.seq (.reg [kI 4 2,kI 5 0] [] [4,5] [1016,1070,1117,150000,200000]) .ret) .skip)) (.seq (.reg [mi 101 6,hI 102 101,fI 103 102 13,lJ 104 103 1,mi 105 12,nI 106 105 false,oI 107 .add 104 106,hI 108 101,fI 109 108 13,⟨none,none,.st (.t 109) (.t 107) 1⟩] [] [0,6,12] [1016,1070,1117,150000,200000]) (.seq (.reg [mi 110 0,mi 111 6,hI 112 111,fI 113 112 0,fI 114 113 0,lJ 115 114 1,mi 116 12,dI 117 112 [.t 110,.t 115,.t 116],xI 118 117 0,xI 119 117 1,mi 4 118,mi 5 119] [] [4,5] [1016,1070,1117,150000,200000]) .ret))))))))))))))
theorem c50:Cd 50 120 [RV.tmp 4,RV.tmp 5] M50:=cO [16,117] (rz [(3,⟨[0,6,7,8,9],[8,1016,1022,1029,1070,1117,150000,200000],[(10,0),(11,2048)],3071,[],some ⟨[8,1029],[(0,[6],[1016,1070,1117,150000,200000]),(1,[24],[1016,1070,1117,150000,200000]),(2,[25],[1016,1070,1117,150000,200000]),(3,[26],[1016,1070,1117,150000,200000]),(4,[3],[3]),(5,[27,28],[1016,1070,1117,150000]),(6,[29],[1029]),(7,[23],[1029]),(8,[23],[1029]),(9,[],[])],[0,6,7,8,9,30,31],[8,1016,1022,1029,1070,1117,150000,200000]⟩⟩)] [(2,[(0,111),(1,110),(2,108),(3,104),(4,112),(5,0),(6,64)],127),(7,[(0,20481),(1,20606),(2,20604),(3,20600),(4,20592),(5,20576),(6,20544),(7,24448),(8,24320),(9,24064),(10,23552),(11,22528),(12,20480),(13,0),(14,0)],16383),(8,[(0,2095135),(1,2095134),(2,2095132),(3,2095128),(4,2095120),(5,2095584),(6,2095552),(7,2095488),(8,2095360),(9,2095616),(10,2096128),(11,0),(12,2093056),(13,1974272),(14,1851392),(15,1605632),(16,1114112),(17,1966080),(18,1835008),(19,1572864),(20,1048576)],2097151)] [0,1,2,0,4,5,6,7,8,9,10,11,12,13,14,15,16,17] M50) Tryz.func50 (by kernel_rfl) Tryz.ntmps50
def M51:MC:=(.seq (.reg [vI 3 1,kI 4 0,kI 5 0] [] [0,3] [3,53,1010,1044,150000,200000]) (.seq (.reg [mi 9 0,dI 10 46 [.t 9],mi 6 10] [] [0,3,6] [3,53,1010,1044,150000,200000]) (.seq (.reg [mi 11 6,hI 12 11,fI 13 12 10,lJ 14 13 1,oJ 15 .add 14 1,hI 16 11,fI 17 16 10,⟨none,none,.st (.t 17) (.t 15) 1⟩] [] [0,3,6] [3,53,1010,1044,150000,200000]) (.seq (.seq (.reg [mi 18 6,hI 19 18,fI 20 19 10,lJ 21 20 1,oJ 22 .lss 21 3] [] [0,3,6,22] [3,53,1010,1044,150000,200000]) (.cond (.t 22) (.seq (.reg [kI 4 4,kI 5 0] [] [4,5] [53,1010,1032,1044,150000,200000]) .ret) .skip)) (.seq (.seq (.reg [mi 23 0,hI 24 23,fI 25 24 0,fI 26 25 7,lJ 27 26 1,nI 28 27 false,oJ 29 .geq 28 40] [] [0,3,6,29] [3,53,1010,1044,150000,200000]) (.cond (.t 29) (.seq (.reg [kI 4 0,kI 5 6] [] [4,5] [53,1010,1032,1044,150000,200000]) .ret) .skip)) (.seq (.reg [lI 31 3 4,cI 32 87 [.t 31],mi 30 32,xI 33 30 0,xI 34 30 1,mi 7 33,mi 8 34] [] [0,6,7,8] [53,1010,1032,1044,150000,200000]) (.seq (.seq (.reg [mi 35 8,oJ 36 .neq 35 0] [] [0,6,7,8,36] [53,1010,1032,1044,150000,200000]) (.cond (.t 36) (.seq (.reg [mi 37 8,kI 4 0,mi 5 37] [] [4,5] [53,1010,1032,1044,150000,200000]) .ret) .skip)) (.seq (.seq (.grp [1044] [⟨38,none,.q (.mv (.t 0)),[0],[53,1010,150000,200000]⟩,⟨39,none,.q (.mv (.t 0)),[0],[53,1010,150000,200000]⟩,⟨40,none,.q (.nch (.t 39)),[39],[53,1010,150000,200000]⟩,⟨41,none,.q (.fa (.t 40) 0),[40],[53,1010,150000,200000]⟩,⟨42,none,.q (.fa (.t 41) 7),[41],[53,1010,150000,200000]⟩,⟨43,none,.q (.ld (.t 42) 1 false),[42],[53,1010,150000,200000]⟩,⟨44,none,.call (.f 44) [.t 43],[43],[53,1010,150000]⟩,⟨45,none,.q (.mv (.t 6)),[6],[53,1010,150000,200000]⟩,⟨46,none,.q (.nch (.t 45)),[45],[53,1010,150000,200000]⟩,⟨47,none,.q (.fa (.t 46) 0),[46],[53,1010,150000,200000]⟩,⟨48,none,.q (.fa (.t 47) 0),[47],[53,1010,150000,200000]⟩,⟨49,none,.q (.ld (.t 48) 1 false),[48],[53,1010,150000,200000]⟩,⟨50,none,.q (.mv (.t 7)),[7],[1032]⟩,⟨51,none,.q (.mk [.pv (.sc (.string ⟨#[]⟩)),.pv (.sc (.string ⟨#[]⟩))] [(0,1,(.t 49)),(1,1,(.t 50))]),[49,50],[53,1010,1032,150000]⟩,⟨52,none,.lits [.t 51] 2,[51],[53,1010,1032,150000]⟩] [38,44,52,53,54,55,56] [53,1010,1044,150000,200000]) (.reg [⟨some 53,none,.app (.t 44) (.t 52) 2 32⟩,hI 54 38,fI 55 54 0,fI 56 55 7,⟨none,none,.st (.t 56) (.t 53) 1⟩] [(1044,1044,0)] [] [53,1010,1044,150000,200000])) (.seq (.reg [kI 4 5,kI 5 0] [] [4,5] [53,1010,1032,1044,150000,200000]) .ret)))))))))
theorem c51:Cd 51 57 [RV.tmp 4,RV.tmp 5] M51:=cO [10] (rz [(10,⟨[],[53,1010,1044,150000,200000],[(15,0),(16,983040),(17,917504),(18,786432),(19,0)],491519,[(1044,1044,0)],some ⟨[1044],[(0,[0],[53,1010,150000,200000]),(1,[0],[53,1010,150000,200000]),(2,[39],[53,1010,150000,200000]),(3,[40],[53,1010,150000,200000]),(4,[41],[53,1010,150000,200000]),(5,[42],[53,1010,150000,200000]),(6,[43],[53,1010,150000]),(7,[6],[53,1010,150000,200000]),(8,[45],[53,1010,150000,200000]),(9,[46],[53,1010,150000,200000]),(10,[47],[53,1010,150000,200000]),(11,[48],[53,1010,150000,200000]),(12,[7],[1032]),(13,[49,50],[53,1010,1032,150000]),(14,[51],[53,1010,1032,150000])],[38,44,52,53,54,55,56],[53,1010,1044,150000,200000]⟩⟩)] [] [0,1,2,3,4,5,6,7,8,9,0,11] M51) Tryz.func51 (by kernel_rfl) Tryz.ntmps51
def M52:MC:=(.seq (.reg [vI 8 3,kI 10 0,kI 11 0] [] [0,1,2,4,8] [8,1031,1040,150000,200000]) (.seq (.reg [mi 17 4,lI 18 8 4,⟨some 19,none,.calls (.t 17) [.t 18]⟩,mi 16 19,xI 20 16 0,xI 21 16 1,mi 12 20,mi 13 21] [] [0,1,2,12,13] [1019,1031,1040,150000,200000]) (.seq (.seq (.reg [mi 22 13,oJ 23 .neq 22 0,mi 24 23,gF 25 24 (.mv (.t 12)),gF 26 24 (.bin .eql (.t 25) (ic 4)),qi 27 (.pick (.t 24) (.c (.bool true)) (.t 26))] [] [0,1,2,12,13,27] [1019,1031,1040,150000,200000]) (.cond (.t 27) (.seq (.reg [mi 28 12,mi 29 13,mi 10 28,mi 11 29] [] [10,11] [1019,1031,1040,150000,200000]) .ret) .skip)) (.seq (.reg [mi 30 0,dI 31 46 [.t 30],mi 14 31] [] [1,2,12,14] [1019,1031,1040,150000,200000]) (.seq (.reg [mi 33 14,hI 34 33,fI 35 34 8,lJ 36 35 1,mi 37 1,mi 38 2,oJ 39 .add 38 1,cI 40 113 [.t 36,.t 37,.t 39],mi 32 40,xI 41 32 0,xI 42 32 1,mi 15 41,mi 13 42] [] [12,13,14,15] [1019,1031,1040,150000,200000]) (.seq (.seq (.reg [mi 43 13,oJ 44 .neq 43 0] [] [12,13,14,15,44] [1019,1031,1040,150000,200000]) (.cond (.t 44) (.seq (.reg [mi 45 13,kI 10 0,mi 11 45] [] [10,11] [1019,1031,1040,150000,200000]) .ret) .skip)) (.seq (.reg [mi 46 14,mi 47 14,mi 48 15,hI 49 46,fI 50 49 10,⟨none,none,.st (.t 50) (ic 0) 1⟩,hI 51 47,fI 52 51 8,⟨none,none,.st (.t 52) (.t 48) 1⟩] [] [12] [1019,1031,1040,150000,200000]) (.seq (.reg [mi 53 12,mi 10 53,kI 11 0] [] [10,11] [1019,1031,1040,150000,200000]) .ret))))))))
theorem c52:Cd 52 54 [RV.tmp 10,RV.tmp 11] M52:=cO [19,31] (rn [] [] 10 M52) Tryz.func52 (by kernel_rfl) Tryz.ntmps52
end Go.Vc

namespace Go.Vc
open Go.Proofs
set_option linter.unusedSimpArgs false
set_option linter.unusedVariables false
set_option maxRecDepth 10000
def AK (x:Su) (e:Ev):Vl:=if x.d.key=⟨#[]⟩then default else(mN e x.d.key).1
def H4 (x:Su) (e:Ev):Bool:=decide (x.d.key=⟨#[]⟩)||(mN e x.d.key).2
def x5 (x:Su):Su:={ x with passes:=x.passes+1 }
def j6 (s:Ro) (x:Su) (p:Int) (e:Ev):FRI:=hZ x.d.j x.ins_ (AK x e) ⟨p,x.taken+1,s.now⟩
def o0 (x:Su) (F:FRI):Su:={ x with ins_:=F.ins_,taken:=x.taken+1,over:=x.over+F.over.length }
def hU (x:Su) (F:FRI):Su:={ o0 x F with fires:=x.fires+F.fired.length }
def dM (s:Ro) (i:Nat) (x:Su):Ro:={ s with su:=s.su.set i x }
def eN (s:Ro) (i:Nat) (x:Su) (p:Int) (e:Ev):Ro×Int×Int:=
 if p<0∨H4 x e=false then(dM s i (x5 x),1,0)
 else if(j6 s x p e).err≠0 then(s,0,(j6 s x p e).err)
 else if(j6 s x p e).fired=[]then(dM s i (o0 x (j6 s x p e)),2,0)
 else tC (dM s i (hU x (j6 s x p e))) x.d.name (j6 s x p e).fired
theorem qV {P:Program} {R:Exit→St→Prop} {σ:St} {d:Nat} {is:List Inst} {vs:List (Nat×Nat×Nat)} {keep rows:List Nat} {k:List KI} {f:Opd} {args:List Opd} {avs:List AV} {r1 r2 r3 r4:Row} {v:AV} {g:FuncId}
  (hF:j4 P g avs [(150000,r1),(200000,r2)] v [(150000,r3),(200000,r4)]) (hc:f.cd σ=true∧e8 σ args=true) (ha:(cA (f.sv σ)).map (fun t=>(t.1,eD σ args++t.2))=some (g,avs))
  (m1:(150000,r1)∈σ.st) (m2:(200000,r2)∈σ.st) (h:aU P R is vs keep rows k (σ.afterS d (fun q=>q) [(150000,r1),(200000,r2)] v [(150000,r3),(200000,r4)])):
  aU P R (⟨some d,none,.calls f args⟩::is) vs keep rows k σ:=by
 refine aP hH hc ha hF (AV.rns_id _) ?_ (by simp) (by simp[hH]) (by simp[hH]) ?_ h
 ·intro e he
  simp only[List.mem_cons,List.not_mem_nil,or_false]at he
  rcases he with rfl|rfl
  ·rw[Row.rn_id];exact m1
  ·rw[Row.rn_id];exact m2
 ·intro e he h9
  simp only[List.mem_cons,List.not_mem_nil,or_false]at he
  rcases he with rfl|rfl
  ·simp[hH]
  ·exact absurd h9 (by simp)
theorem tG (l:List Su) (i:Nat) (x:Su):(l.map Su.pv).set i x.pv=(l.set i x).map Su.pv:=by rw[List.map_set]
theorem y3 (s:Ro) (n:ByteArray) (l:List Kp):(tC s n l).1.su=s.su:=by unfold tC;split<;>rfl
theorem F4 {s:Ro} {x:Su} {p:Int} {e:Ev} (h:(j6 s x p e).err=0):dG x.ins_+1=(j6 s x p e).over.length+(j6 s x p e).fired.length+dG (j6 s x p e).ins_:=by
 have g:=(y6.1 h).perm.length_eq
 rw[List.length_append,List.length_append,List.length_append,p5,p5]at g
 unfold j6
 simp only[List.length_cons,List.length_nil]at g
 omega
theorem Hn {s:Ro} {x:Su} {p:Int} {e:Ev} (h:(j6 s x p e).err=0):(j6 s x p e).fired.length<100000:=by
 have g:=y6.1 h
 have h1:=(cX (lN g.err).1).2.1
 have h2:=(vL x.d.j (cW x.ins_ (AK x e)) ⟨p,x.taken+1,s.now⟩).2.1
 unfold j6
 rw[tY g]
 simp only
 omega
theorem Mk (s:Ro) (i:Nat) (e:Ev) (h:RoOk s) (hi:i<s.su.length) (hm:iU e=true) (hbp:(s.su[i]).passes≤1000000000000):∃p:Int,-1≤p∧p<(s.su[i]).d.wh.length∧
  j4 Tryz.prog 50 [.ptr 200000 0,.pv e.pv] (dk s i) (.pv (.tup [pI (eN s i s.su[i] p e).2.1,pI (eN s i s.su[i] p e).2.2])) (dk (eN s i s.su[i] p e).1 i):=by
 have hx:=h.su _ (List.getElem_mem hi)
 obtain⟨m1,m2,m3,m4,m5⟩:=jM hm
 have s1:=fH m1
 have hl:=h.sul
 obtain⟨p,hp0,hp1,h109⟩:=QK s.su[i].d e hx.sm hx.may (by omega) (by omega)
 refine⟨p,hp0,hp1,?_⟩
 have h110:=QJ s.su[i].d e hx.sm hx.may (by omega)
 have hin:=hx.insl
 have h111:=QI s.su[i].d.j s.su[i].ins_ (AK s.su[i] e) ⟨p,s.su[i].taken+1,s.now⟩ (by omega) hin.2
 have h46:=Fr s i hi (by omega)
 have hg:=aK (f:=Su.pv) hi
 refine c50.s (by simp) (by simp) ?_
 simp only[go_sem,M50]
 refine qV h46 (by simp only[go_sem]) (by simp only[go_sem]<;>rfl) (by simp only[go_sem]) (by simp only[go_sem]) ?_
 obtain⟨x,hxe⟩:∃x,x=s.su[i]:=⟨_,rfl⟩
 rw[←hxe]at hx h109 h110 hin h111 hg hp1 hbp ⊢
 simp only[go_sem,hg]
 refine⟨hi,?_⟩
 refine aA (by simp only[go_sem]) (by simp only[go_sem]<;>rfl) (h109) ⟨rfl,trivial⟩ trivial ?_
 simp only[go_sem,hg]
 refine⟨hi,?_⟩
 have k1:(if x.d.key=⟨#[]⟩then default else(mN e x.d.key).1)=AK x e:=rfl
 have k2:(decide (x.d.key=⟨#[]⟩)||(mN e x.d.key).2)=H4 x e:=rfl
 rw[k1,k2]at h110
 refine cC (by simp only[go_sem]) rfl (h110) (.inl rfl) trivial ?_
 have hset:∀q:PV,((List.map Su.pv s.su).set i q).getD i default=q:=fun q=>nH (by simpa using hi)
 simp only[go_sem,hg,hset,List.set_set,List.length_set,List.length_map,List.set_cons_succ,List.set_cons_zero]
 refine⟨fun hc=>⟨hi,⟨by have:=hx.p0;omega,by omega⟩,hi,?_⟩,fun hc=>?_⟩
 ·unfold eN
  rw[if_pos hc]
  refine⟨rfl,?_,?_⟩
  ·exact congrArg (Row.sl 15) (tG s.su i (x5 x))
  ·unfold dM;simp only[List.length_set]
 have hne:¬(p<0∨H4 x e=false):=by rintro(h|h);exact hc.1 h;rw[hc.2]at h;cases h
 have hbig:=hx.big
 have hcnt:=hx.cnt
 have hi0:=hx.i0
 have hv0:=hx.v0
 refine⟨hi,⟨by omega,by omega⟩,⟨by omega,by omega⟩,hi,hi,?_⟩
 have hF:hZ x.d.j x.ins_ (AK x e) ⟨p,x.taken+1,s.now⟩=j6 s x p e:=rfl
 rw[hF]at h111
 have hfl:=@F4 s x p e
 have hfm:=@Hn s x p e
 have hT:eN s i x p e=if(j6 s x p e).err≠0 then(s,0,(j6 s x p e).err)else if(j6 s x p e).fired=[]then(dM s i (o0 x (j6 s x p e)),2,0)
  else tC (dM s i (hU x (j6 s x p e))) x.d.name (j6 s x p e).fired:=by unfold eN;rw[if_neg hne]
 rw[hT]
 generalize j6 s x p e=F at h111 hfl hfm ⊢
 refine aC (by simp only[go_sem]) rfl (h111) (.inl rfl) trivial ?_
 simp only[go_sem,hg,hset,List.set_set,List.length_set,List.length_map,List.set_cons_succ,List.set_cons_zero]
 refine⟨fun he=>?_,fun he=>?_⟩
 ·rw[if_pos he]
  exact⟨rfl,rfl,rfl⟩
 have hfl:=hfl he
 have hfm:=hfm he
 rw[if_neg (fun h=>h he)]
 refine⟨hi,hi,⟨by omega,by omega⟩,hi,hi,⟨by omega,by omega⟩,hi,fun h0=>?_,fun h0=>?_⟩
 ·have h1:F.fired=[]:=List.length_eq_zero_iff.1 (by omega)
  rw[if_pos h1]
  refine⟨rfl,?_,?_⟩
  ·exact congrArg (Row.sl 15) (tG s.su i (o0 x F))
  ·unfold dM;simp only[List.length_set]
 have h1:¬F.fired=[]:=fun h=>h0 (by rw[h];rfl)
 rw[if_neg h1]
 refine⟨hi,⟨by omega,by omega⟩,hi,hi,?_⟩
 have hoc:=eL h.out
 have h112:=Oh (dM s i (hU x F)) i x.d.name F.fired (by omega) (by show s.out.length<_;omega) ⟨h.t0,h.t1⟩ s.su.length
 have hrow:(List.map Su.pv s.su).set i (hU x F).pv=(dM s i (hU x F)).su.map Su.pv:=tG s.su i (hU x F)
 have hgs:=y3 (dM s i (hU x F)) x.d.name F.fired
 have hlen:(dM s i (hU x F)).su.length=s.su.length:=by unfold dM;simp only[List.length_set]
 refine qV h112 (by simp only[go_sem]) (by simp only[go_sem]<;>rfl) ?_ (List.mem_cons_of_mem _ List.mem_cons_self) ?_
 ·rw[←hrow];exact List.mem_cons_self
 simp only[go_sem]
 rw[hgs,hlen]
 exact⟨rfl,rfl⟩
end Go.Vc

namespace Go.Vc
open Go.Proofs
set_option linter.unusedSimpArgs false
set_option linter.unusedVariables false
set_option maxRecDepth 10000
theorem EM {P:Program} {R:Exit→St→Prop} {σ:St} {d:Nat} {is:List Inst} {vs:List (Nat×Nat×Nat)} {keep rows:List Nat} {k:List KI} {f:Opd} {args:List Opd} {avs:List AV} {r1 r2 r3 r4:Row} {v:AV} {g:FuncId}
  (hF:j4 P g avs [(150000,r1),(200000,r2)] v [(150000,r3),(200000,r4)]) (hc:f.cd σ=true∧e8 σ args=true) (ha:(lW (f.sv σ)).map (fun t=>(t.1,t.2++eD σ args))=some (g,avs))
  (m1:(150000,r1)∈σ.st) (m2:(200000,r2)∈σ.st) (h:aU P R is vs keep rows k (σ.afterS d (fun q=>q) [(150000,r1),(200000,r2)] v [(150000,r3),(200000,r4)])):
  aU P R (⟨some d,none,.calls f args⟩::is) vs keep rows k σ:=by
 refine wH hH hc ha hF (AV.rns_id _) ?_ (by simp) (by simp[hH]) (by simp[hH]) ?_ h
 ·intro e he
  simp only[List.mem_cons,List.not_mem_nil,or_false]at he
  rcases he with rfl|rfl
  ·rw[Row.rn_id];exact m1
  ·rw[Row.rn_id];exact m2
 ·intro e he h9
  simp only[List.mem_cons,List.not_mem_nil,or_false]at he
  rcases he with rfl|rfl
  ·simp[hH]
  ·exact absurd h9 (by simp)
theorem Nm (l:List De) (hl:l.length<100000):Fn Tryz.prog 44 [J9 l] (.row 0 0 l.length) [(2,l.map De.pv)]:=v1 c44.r l (pD l) hl (by decide) (by decide)
def dD (x:Su):Su:={ x with fails:=x.fails+1 }
def jY (s:Ro) (i:Nat) (x:Su) (e:Ev):Ro×Int×Int:=
 if x.fails+1<3 then(dM s i (dD x),4,0)else if 40≤s.dead.length then(dM s i (dD x),0,6)
 else({ dM s i (dD x)with dead:=s.dead++[⟨x.d.name,bQ (eM e)⟩] },5,0)
theorem PQ (s:Ro) (i:Nat) (e:Ev) (h:RoOk s) (hi:i<s.su.length) (hm:iU e=true) (hn:EvN e):
  j4 Tryz.prog 51 [.ptr 200000 0,.pv e.pv] (dk s i) (.pv (.tup [pI (jY s i s.su[i] e).2.1,pI (jY s i s.su[i] e).2.2])) (dk (jY s i s.su[i] e).1 i):=by
 have hx:=h.su _ (List.getElem_mem hi)
 obtain⟨m1,m2,m3,m4,m5⟩:=jM hm
 have s1:=fH m1
 have s2:=fM m2
 have hl:=h.sul
 have hdl:=h.del
 have h46:=Fr s i hi (by omega)
 have hg:=aK (f:=Su.pv) hi
 have h87:=OU e (by omega) hn (by omega) (by omega)
 rw[hm]at h87
 simp only[if_true,eR]at h87
 refine c51.s (by simp) (by simp) ?_
 simp only[go_sem,M51]
 refine qV h46 (by simp only[go_sem]) (by simp only[go_sem]<;>rfl) (by simp only[go_sem]) (by simp only[go_sem]) ?_
 obtain⟨x,hxe⟩:∃x,x=s.su[i]:=⟨_,rfl⟩
 rw[←hxe]at hx hg ⊢
 have hset:∀q:PV,((List.map Su.pv s.su).set i q).getD i default=q:=fun q=>nH (by simpa using hi)
 have f0:=hx.f0
 have f3:=hx.f3
 simp only[go_sem,hg,hset,List.set_set,List.length_set,List.length_map,List.set_cons_succ,List.set_cons_zero]
 have hrow:Row.sl 15 ((s.su.map Su.pv).set i (dD x).pv)=Row.sl 15 ((dM s i (dD x)).su.map Su.pv):=congrArg (Row.sl 15) (tG s.su i (dD x))
 have hlen:(dM s i (dD x)).su.length=s.su.length:=by unfold dM;simp only[List.length_set]
 refine⟨hi,⟨by omega,by omega⟩,hi,hi,fun hc=>?_,fun hc=>⟨fun hd=>?_,fun hd=>?_⟩⟩
 ·unfold jY
  rw[if_pos hc]
  exact⟨rfl,hrow,by rw[hlen];rfl⟩
 ·unfold jY
  rw[if_neg hc,if_pos (by omega)]
  exact⟨rfl,hrow,by rw[hlen];rfl⟩
 have hT:jY s i x e=({ dM s i (dD x)with dead:=s.dead++[⟨x.d.name,bQ (eM e)⟩] },5,0):=by unfold jY;rw[if_neg hc,if_neg (by omega)]
 rw[hT]
 refine aA (by simp only[go_sem]) (by simp only[go_sem]<;>rfl) (h87) ⟨rfl,trivial⟩ trivial ?_
 simp only[go_sem,hg,hset]
 refine cC (by simp only[go_sem]) rfl (Nm s.dead (by omega)) (.inl rfl) trivial ?_
 simp only[go_sem,hg,hset]
 rw[hlen]
 refine⟨by simpa using hi,⟨pD [⟨x.d.name,bQ (eM e)⟩],by omega,by omega⟩,hrow,?_⟩
 rw[List.take_of_length_le (i:=s.dead.length) (by simp),List.take_of_length_le (by simp),show List.map De.pv s.dead++[PV.agg [pS x.d.name,pS (bQ (eM e))]]=List.map De.pv (s.dead++[⟨x.d.name,bQ (eM e)⟩])by simp]
 rfl
def eV (s:Ro) (i:Nat) (x:Su) (what err:Int) (t:ByteArray) (at_:Int):Ro×Int×Int:=
 if err≠0∨what=4 then(s,what,err)else if(iT x.offs t (at_+1)).2≠0 then(s,0,(iT x.offs t (at_+1)).2)
 else(dM s i { x with fails:=0,offs:=(iT x.offs t (at_+1)).1 },what,0)
theorem PP (s s1:Ro) (i:Nat) (t:ByteArray) (at_:Int) (e:Ev) (g:Nat) (what err:Int) (hg:j4 Tryz.prog g [.ptr 200000 0,.pv e.pv] (dk s i) (.pv (.tup [pI what,pI err])) (dk s1 i))
  (hi:i<s1.su.length) (hl:s1.su.length<100000) (ho:(s1.su[i]).offs.length<100000) (ha : -1≤at_∧at_≤1099511627775):
  j4 Tryz.prog 52 [.ptr 200000 0,.pv (pS t),.pv (pI at_),.pv e.pv,.bnd g [.ptr 200000 0]] (dk s i) (.pv (.tup [pI (eV s1 i s1.su[i] what err t at_).2.1,pI (eV s1 i s1.su[i] what err t at_).2.2])) (dk (eV s1 i s1.su[i] what err t at_).1 i):=by
 have h46:=Fr s1 i hi (by omega)
 have hgd:=aK (f:=Su.pv) hi
 have h113:=QH (s1.su[i]).offs t (at_+1) ho
 refine c52.s (by simp) (by simp) ?_
 simp only[go_sem,M52]
 refine EM hg (by simp only[go_sem]) (by simp only[go_sem]<;>rfl) (by simp only[go_sem]) (by simp only[go_sem]) ?_
 simp only[go_sem]
 obtain⟨x,hxe⟩:∃x,x=s1.su[i]:=⟨_,rfl⟩
 rw[←hxe]at ho hgd h113 ⊢
 refine⟨fun hc=>?_,fun hc=>?_⟩
 ·unfold eV
  rw[if_pos hc]
  exact⟨rfl,rfl,rfl⟩
 have hT:eV s1 i x what err t at_=if(iT x.offs t (at_+1)).2≠0 then(s1,0,(iT x.offs t (at_+1)).2)else(dM s1 i { x with fails:=0,offs:=(iT x.offs t (at_+1)).1 },what,0):=by
  unfold eV;rw[if_neg (by rintro(h|h);exact h hc.1;exact hc.2 h)]
 rw[hT]
 refine qV h46 (by simp only[go_sem]) (by simp only[go_sem]<;>rfl) (by simp only[go_sem]) (by simp only[go_sem]) ?_
 have hset:∀q:PV,((List.map Su.pv s1.su).set i q).getD i default=q:=fun q=>nH (by simpa using hi)
 simp only[go_sem,hgd]
 refine⟨hi,⟨by omega,by omega⟩,?_⟩
 refine aC (by simp only[go_sem]) rfl (h113) (.inl rfl) trivial ?_
 simp only[go_sem,hgd,hset,List.set_set,List.length_set,List.length_map,List.set_cons_succ,List.set_cons_zero]
 have hlen:∀y,(dM s1 i y).su.length=s1.su.length:=fun y=>by unfold dM;simp only[List.length_set]
 refine⟨fun he=>?_,fun he=>⟨hi,hi,?_⟩⟩
 ·rw[if_pos he]
  exact⟨rfl,rfl,rfl⟩
 ·rw[if_neg (fun h=>h he),hlen]
  exact⟨rfl,congrArg (Row.sl 15) (tG s1.su i { x with fails:=0,offs:=(iT x.offs t (at_+1)).1 }),rfl⟩
end Go.Vc

namespace Go.Vc
open Go.Proofs
set_option maxRecDepth 100000
def M45:MC:=(.seq (.reg [vI 2 0,bI 3 false] [] [1,2] [2]) (.seq (.reg [fI 4 2 0,lJ 5 4 1,lJ 6 1 1,oI 7 .eql 5 6,mi 3 7] [] [3] []) .ret))
theorem c45:Cd 45 8 [RV.tmp 3] M45:=cO [] (rn [] [] 2 M45) Tryz.func45 (by kernel_rfl) Tryz.ntmps45
def M54:MC:=(.seq (.reg [vI 2 0,bI 3 false] [] [1,2] [2]) (.seq (.reg [fI 4 2 0,lJ 5 4 1,lJ 6 1 1,oI 7 .eql 5 6,mi 3 7] [] [3] []) .ret))
theorem c54:Cd 54 8 [RV.tmp 3] M54:=cO [] (rn [] [] 2 M54) Tryz.func54 (by kernel_rfl) Tryz.ntmps54
def B43_0:MC:=(.seq (.seq (.reg [mi 16 6,mi 17 0,nI 18 17 false,oI 19 .lss 16 18] [] [0,1,5,6,19] [0,1010,200000]) (.cond (.t 19) .skip (.exit 0))) (.seq (.block 1 (.seq (.reg [mi 22 0,mi 23 6,qi 24 (.ia (.t 22) (.t 23) 2),lI 25 24 2,aI 7 [.pv (.sc (.string ⟨#[]⟩)),.pv (.sc (.string ⟨#[]⟩))],⟨none,none,.st (.t 7) (.t 25) 2⟩] [] [0,1,5,6,7] [0,7,1010,200000]) (.seq (.reg [mi 26 1,lI 27 7 2,⟨some 28,none,.call (.t 26) [.t 27]⟩,qi 29 (.not (.t 28))] [] [0,1,5,6,7,29] [0,7,1010,1028,200000]) (.cond (.t 29) (.seq (.reg [mi 30 0,mi 31 5,lI 32 7 2,qi 33 (.ia (.t 30) (.t 31) 2),⟨none,none,.st (.t 33) (.t 32) 2⟩] [] [0,1,5,6] [0,1010,200000]) (.reg [mi 34 5,oJ 35 .add 34 1,mi 5 35] [] [0,1,5,6] [0,1010,200000])) .skip)))) (.reg [mi 20 6,oJ 21 .add 20 1,mi 6 21] [] [0,1,5,6] [0,1010,200000])))
def R43_0:MC:=(.seq (.reg [mi 36 0,mi 37 5,qi 38 (.slc (.t 36) (some (.t 37)) none 2 false),⟨none,none,.clr (.t 38) 2 (.agg [.sc (.string ⟨#[]⟩),.sc (.string ⟨#[]⟩)])⟩] [] [0,5] [0,1010,200000]) (.seq (.reg [mi 39 0,mi 40 5,qi 41 (.slc (.t 39) none (some (.t 40)) 2 false),mi 4 41] [] [4] [0,1010,200000]) .ret))
def M43:MC:=(.seq (.reg [qi 4 (.mv .nil)] [] [0,1] [0,200000]) (.seq (.reg [mi 8 0,mi 9 1,cI 10 53 [.t 8,.t 9],mi 5 10] [] [0,1,5] [0,1010,200000]) (.seq (.seq (.reg [mi 11 5,qi 12 (.bin .eql (.t 11) (.c (.int .i64 (-1))))] [] [0,1,5,12] [0,1010,200000]) (.cond (.t 12) (.seq (.reg [mi 13 0,mi 4 13] [] [4] [0,1010,200000]) .ret) .skip)) (.seq (.seq (.reg [mi 14 5,oJ 15 .add 14 1,mi 6 15] [] [0,1,5,6] [0,1010,200000]) (.block 0 (.loop B43_0))) R43_0))))
theorem c43:Cd 43 42 [RV.tmp 4] M43:=cO [] (rz [] [] [0,1,2,3,4,5,4,6,7,9,10,11,12] M43) Tryz.func43 (by kernel_rfl) Tryz.ntmps43
end Go.Vc

namespace Go.Vc
open Go.Proofs
set_option maxRecDepth 100000
def M12:MC:=(.seq (.reg [vI 2 0,vI 3 1,aI 4 [.pv (.sc (.int .i64 0)),.e0,.e0,.e0,.pv (.sc (.int .i64 0)),.e0,.e0,.e0],kI 5 0] [] [2,3,4] [2,3,4,1011,1033,1043,1045,150001]) (.seq (.reg [lI 9 2 8,lJ 10 3 1,dI 11 41 [.t 9,.t 10],mi 8 11,xI 12 8 0,xI 13 8 1,mi 6 12,mi 7 13] [] [2,3,4,6,7] [2,3,4,1011,1033,1043,1045,150001]) (.seq (.seq (.reg [mi 14 7,oJ 15 .neq 14 0] [] [2,3,4,6,7,15] [2,3,4,1011,1033,1043,1045,150001]) (.cond (.t 15) (.seq (.reg [lI 16 2 8,mi 17 7,⟨none,none,.st (.t 4) (.t 16) 8⟩,mi 5 17] [] [4,5] [3,4,1011,1033,1043,1045,150001]) .ret) .skip)) (.seq (.reg [mi 18 6,mi 19 6,hI 20 19,fI 21 20 0,fI 22 21 3,lJ 23 22 1,mi 24 6,hI 25 24,fI 26 25 8,lJ 27 26 1,mi 28 6,hI 29 28,fI 30 29 8,lJ 31 30 1,oJ 32 .add 31 1,dI 33 42 [.t 23,.t 27,.t 32],hI 34 18,fI 35 34 0,fI 36 35 3,⟨none,none,.st (.t 36) (.t 33) 1⟩] [] [3,4,6] [3,4,1011,1033,1043,1045,150001]) (.seq (.reg [mi 37 6,mi 38 6,hI 39 38,fI 40 39 0,fI 41 40 7,lJ 42 41 1,cI 43 44 [.t 42],qi 44 (.clo 45 [.t 3]),dI 45 43 [.t 43,.t 44],hI 46 37,fI 47 46 0,fI 48 47 7,⟨none,none,.st (.t 48) (.t 45) 1⟩] [] [4,6] [3,4,1011,1033,1043,1045,150001]) (.seq (.reg [mi 49 6,hI 50 49,fI 51 50 0,lI 52 51 8,⟨none,none,.st (.t 4) (.t 52) 8⟩,kI 5 0] [] [4,5] [3,4,1011,1033,1043,1045,150001]) .ret))))))
theorem c12:Cd 12 53 [RV.cell 4 8 true,RV.tmp 5] M12:=cO [11,33,45] (rn [] [(4,[(0,983041),(1,1015870),(2,1015868),(3,1015864),(4,1015856),(5,1015840),(6,1016768),(7,1016704),(8,1016576),(9,1016320),(10,1047552),(11,1046528),(12,1044480),(13,1040384),(14,1032192),(15,0),(16,983040),(17,917504),(18,786432),(19,0)],491519)] 7 M12) Tryz.func12 (by kernel_rfl) Tryz.ntmps12
def M13:MC:=(.seq (.reg [vI 3 0,aI 6 [.pv (.sc (.int .i64 0)),.e0,.e0,.e0,.pv (.sc (.int .i64 0)),.e0,.e0,.e0],kI 7 0,kI 8 0] [] [1,2,3,6] [3,6,1030,1097,150001]) (.seq (.reg [lI 20 3 8,mi 21 1,dI 22 41 [.t 20,.t 21],mi 19 22,xI 23 19 0,xI 24 19 1,mi 9 23,mi 10 24] [] [2,3,6,9,10] [3,6,1022,1030,1045,1078,1097,150001]) (.seq (.seq (.reg [mi 25 10,oJ 26 .neq 25 0] [] [2,3,6,9,10,26] [3,6,1022,1030,1045,1078,1097,150001]) (.cond (.t 26) (.seq (.reg [lI 27 3 8,mi 28 10,⟨none,none,.st (.t 6) (.t 27) 8⟩,kI 7 0,mi 8 28] [] [6,7,8] [6,1022,1030,1045,1078,1097,150001]) .ret) .skip)) (.seq (.reg [mi 29 9,dI 30 46 [.t 29],mi 11 30] [] [2,3,6,9,11] [3,6,1022,1030,1097,150001]) (.seq (.reg [mi 32 11,hI 33 32,fI 34 33 0,lI 35 34 8,mi 36 11,hI 37 36,fI 38 37 8,lJ 39 38 1,mi 40 9,hI 41 40,fI 42 41 0,fI 43 42 1,lJ 44 43 1,cI 45 47 [.t 35,.t 39,.t 44],mi 31 45,xI 46 31 0,xI 47 31 1,xI 48 31 2,mi 12 46,mi 13 47,mi 10 48] [] [2,3,6,9,10,12,13] [3,6,1022,1030,1045,1078,1097,150001]) (.seq (.seq (.reg [mi 49 10,oJ 50 .eql 49 4] [] [2,3,6,9,10,12,13,50] [3,6,1022,1030,1045,1078,1097,150001]) (.cond (.t 50) (.seq (.reg [lI 51 3 8,⟨none,none,.st (.t 6) (.t 51) 8⟩,kI 7 0,kI 8 0] [] [6,7,8] [6,1022,1030,1045,1078,1097,150001]) .ret) .skip)) (.seq (.seq (.reg [mi 52 10,oJ 53 .neq 52 0] [] [2,3,6,9,10,12,13,53] [3,6,1022,1030,1045,1078,1097,150001]) (.cond (.t 53) (.seq (.reg [lI 54 3 8,mi 55 10,⟨none,none,.st (.t 6) (.t 54) 8⟩,kI 7 0,mi 8 55] [] [6,7,8] [6,1022,1030,1045,1078,1097,150001]) .ret) .skip)) (.seq (.reg [mi 57 9,hI 58 57,fI 59 58 0,fI 60 59 1,lJ 61 60 1,mi 62 12,cI 63 48 [.t 61,.t 62],mi 56 63,xI 64 56 0,xI 65 56 1,mi 14 64,mi 15 65] [] [2,3,6,9,12,13,14] [3,6,1022,1030,1045,1063,1097,150001]) (.seq (.reg [mi 67 9,hI 68 67,fI 69 68 0,fI 70 69 1,lJ 71 70 1,mi 72 14,mi 73 14,oJ 74 .add 73 1,qi 75 (.slc (.t 71) (some (.t 72)) (some (.t 74)) 3 false),mi 76 12,mi 77 13,cI 78 49 [.t 75,.t 76,.t 77],mi 66 78,xI 79 66 0,xI 80 66 1,aI 16 [.pv (.sc (.string ⟨#[]⟩)),.pv (.sc (.string ⟨#[]⟩)),.pv (.sc (.int .u64 0)),.e0],⟨none,none,.st (.t 16) (.t 79) 4⟩,mi 10 80] [] [2,3,6,9,10,12,13,16] [3,6,16,1022,1030,1045,1078,1097,150001]) (.seq (.seq (.reg [mi 81 10,oJ 82 .neq 81 0] [] [2,3,6,9,10,12,13,16,82] [3,6,16,1022,1030,1045,1078,1097,150001]) (.cond (.t 82) (.seq (.reg [lI 83 3 8,mi 84 10,⟨none,none,.st (.t 6) (.t 83) 8⟩,kI 7 0,mi 8 84] [] [6,7,8] [6,1022,1030,1045,1078,1097,150001]) .ret) .skip)) (.seq (.reg [mi 85 9,qi 86 (.bnd 50 [.t 85]),mi 17 86] [] [2,3,6,9,12,13,16,17] [3,6,16,1022,1030,1045,1078,1097,150001]) (.seq (.seq (.reg [mi 87 2,qi 88 (.not (.t 87))] [] [3,6,9,12,13,16,17,88] [3,6,16,1022,1030,1045,1078,1097,150001]) (.cond (.t 88) (.reg [mi 89 9,qi 90 (.bnd 51 [.t 89]),mi 17 90] [] [3,6,9,12,13,16,17] [3,6,16,1022,1030,1045,1078,1097,150001]) .skip)) (.seq (.reg [mi 92 9,mi 93 12,mi 94 13,lI 95 16 4,mi 96 17,dI 97 52 [.t 92,.t 93,.t 94,.t 95,.t 96],mi 91 97,xI 98 91 0,xI 99 91 1,mi 18 98,mi 10 99] [] [3,6,9,10,18] [3,6,1022,1030,1045,1078,1097,150001]) (.seq (.seq (.reg [mi 100 10,oJ 101 .neq 100 0] [] [3,6,9,10,18,101] [3,6,1022,1030,1045,1078,1097,150001]) (.cond (.t 101) (.seq (.reg [lI 102 3 8,mi 103 10,⟨none,none,.st (.t 6) (.t 102) 8⟩,kI 7 0,mi 8 103] [] [6,7,8] [6,1022,1030,1045,1078,1097,150001]) .ret) .skip)) (.seq (.reg [mi 104 9,hI 105 104,fI 106 105 0,lI 107 106 8,mi 108 18,⟨none,none,.st (.t 6) (.t 107) 8⟩,mi 7 108,kI 8 0] [] [6,7,8] [6,1022,1030,1045,1078,1097,150001]) .ret)))))))))))))))
theorem c13:Cd 13 109 [RV.cell 6 8 true,RV.tmp 7,RV.tmp 8] M13:=cO [22,30,97] (rn [] [(5,[(0,2088975),(1,2088974),(2,2088972),(3,2088968),(4,2089200),(5,2089184),(6,2089152),(7,2089088),(8,2096896),(9,2096640),(10,2096128),(11,2095104),(12,2093056),(13,0),(14,2080768),(15,1867776),(16,1638400),(17,1179648),(18,1835008),(19,1572864),(20,1048576)],2097151)] 21 M13) Tryz.func13 (by kernel_rfl) Tryz.ntmps13
def M14:MC:=(.seq (.reg [vI 2 0,vI 3 1,aI 4 [.pv (.sc (.int .i64 0)),.e0,.e0,.e0,.pv (.sc (.int .i64 0)),.e0,.e0,.e0],kI 5 0,kI 6 0] [] [2,3,4] [2,3,4,1029,1057,1061,1068,150001]) (.seq (.reg [lI 14 2 8,lJ 15 3 1,dI 16 41 [.t 14,.t 15],mi 13 16,xI 17 13 0,xI 18 13 1,mi 7 17,mi 8 18] [] [2,3,4,7,8] [2,3,4,1016,1029,1043,1057,1061,1068,150001]) (.seq (.seq (.reg [mi 19 8,oJ 20 .neq 19 0] [] [2,3,4,7,8,20] [2,3,4,1016,1029,1043,1057,1061,1068,150001]) (.cond (.t 20) (.seq (.reg [lI 21 2 8,mi 22 8,⟨none,none,.st (.t 4) (.t 21) 8⟩,kI 5 0,mi 6 22] [] [4,5,6] [4,1016,1029,1043,1057,1061,1068,150001]) .ret) .skip)) (.seq (.reg [mi 23 7,hI 24 23,fI 25 24 0,fI 26 25 7,lJ 27 26 1,qi 28 (.clo 54 [.t 3]),cI 29 53 [.t 27,.t 28],mi 9 29] [] [2,4,7,9] [2,4,1016,1029,1057,1061,1068,150001]) (.seq (.seq (.reg [mi 30 9,oJ 31 .lss 30 0] [] [2,4,7,9,31] [2,4,1016,1029,1057,1061,1068,150001]) (.cond (.t 31) (.seq (.reg [lI 32 2 8,⟨none,none,.st (.t 4) (.t 32) 8⟩,kI 5 0,kI 6 4] [] [4,5,6] [4,1016,1029,1043,1057,1061,1068,150001]) .ret) .skip)) (.seq (.reg [mi 34 7,hI 35 34,fI 36 35 0,fI 37 36 7,lJ 38 37 1,mi 39 9,qi 40 (.ia (.t 38) (.t 39) 2),fI 41 40 1,lJ 42 41 1,cI 43 31 [.t 42],mi 33 43,xI 44 33 0,xI 45 33 1,xI 46 33 2,aI 10 [.pv (.sc (.string ⟨#[]⟩)),.pv (.sc (.string ⟨#[]⟩)),.pv (.sc (.int .u64 0)),.e0],⟨none,none,.st (.t 10) (.t 44) 4⟩,mi 11 45,mi 8 46] [] [2,4,7,8,9,10] [2,4,10,1016,1029,1043,1057,1061,1068,150001]) (.seq (.seq (.reg [mi 47 8,oJ 48 .neq 47 0] [] [2,4,7,8,9,10,48] [2,4,10,1016,1029,1043,1057,1061,1068,150001]) (.cond (.t 48) (.seq (.reg [lI 49 2 8,mi 50 8,⟨none,none,.st (.t 4) (.t 49) 8⟩,kI 5 0,mi 6 50] [] [4,5,6] [4,1016,1029,1043,1057,1061,1068,150001]) .ret) .skip)) (.seq (.reg [mi 51 7,mi 52 7,hI 53 52,fI 54 53 0,fI 55 54 7,lJ 56 55 1,cI 57 44 [.t 56],mi 58 9,mi 59 9,oJ 60 .add 59 1,dI 61 55 [.t 57,.t 58,.t 60],hI 62 51,fI 63 62 0,fI 64 63 7,⟨none,none,.st (.t 64) (.t 61) 1⟩] [(1057,1057,0)] [2,4,7,10] [2,4,10,1016,1029,1043,1057,1061,1068,150001]) (.seq (.reg [mi 66 7,lI 67 10 4,dI 68 50 [.t 66,.t 67],mi 65 68,xI 69 65 0,xI 70 65 1,mi 12 69,mi 8 70] [] [2,4,7,8,12] [2,4,1016,1029,1043,1057,1061,1068,150001]) (.seq (.seq (.reg [mi 71 8,oJ 72 .neq 71 0] [] [2,4,7,8,12,72] [2,4,1016,1029,1043,1057,1061,1068,150001]) (.cond (.t 72) (.seq (.reg [lI 73 2 8,mi 74 8,⟨none,none,.st (.t 4) (.t 73) 8⟩,kI 5 0,mi 6 74] [] [4,5,6] [4,1016,1029,1043,1057,1061,1068,150001]) .ret) .skip)) (.seq (.reg [mi 75 7,hI 76 75,fI 77 76 0,lI 78 77 8,mi 79 12,⟨none,none,.st (.t 4) (.t 78) 8⟩,mi 5 79,kI 6 0] [] [4,5,6] [4,1016,1029,1043,1057,1061,1068,150001]) .ret)))))))))))
theorem c14:Cd 14 80 [RV.cell 4 8 true,RV.tmp 5,RV.tmp 6] M14:=cO [16,61,68] (rn [] [] 15 M14) Tryz.func14 (by kernel_rfl) Tryz.ntmps14
end Go.Vc

namespace Go.Vc
open Go.Proofs
set_option linter.unusedSimpArgs false
set_option linter.unusedVariables false
set_option maxRecDepth 10000
theorem Cm (s:Ro) (n:ByteArray) (h:RoOk s) (hp:gJ s.su n<0):j4 Tryz.prog 41 [.pv s.pv,.pv (pS n)] [] (.pv (.tup [.sc (.pointer none),pI 4])) []:=by
 refine c41.s (by simp) (by simp) ?_
 simp only[go_sem,M41]
 refine aA (by simp only[go_sem]) (by simp only[go_sem]<;>rfl) (HI s h) ⟨rfl,trivial⟩ trivial ?_
 simp only[go_sem]
 refine aA (by simp only[go_sem]) (by simp only[go_sem]<;>rfl) (Nk s.su n (by have:=h.sul;omega)) ⟨rfl,trivial⟩ trivial ?_
 simp only[go_sem,hp]
theorem OZ (x:De) (n:ByteArray):Fn Tryz.prog 45 [x.pv,.pt [pS n]] (.pv (pB (decide (x.sub=n)))) []:=by
 refine c45.r [] (by simp) ?_
 simp only[go_sem,M45]
theorem OY (x:De) (n:ByteArray):Fn Tryz.prog 54 [x.pv,.pt [pS n]] (.pv (pB (decide (x.sub=n)))) []:=by
 refine c54.r [] (by simp) ?_
 simp only[go_sem,M54]
def MY (l:List De) (n:ByteArray):Int:=gZ (fun x:De=>decide (x.sub=n)) l
theorem Nl (l:List De) (g:Nat) (hg:∀(x:De) (n:ByteArray),Fn Tryz.prog g [x.pv,.pt [pS n]] (.pv (pB (decide (x.sub=n)))) []) (n:ByteArray) (hl:l.length<100000):Fn Tryz.prog 53 [J9 l,.fn g [.pt [pS n]]] (.pv (pI (MY l n))) []:=
 rZ c53.r l (pD l) (fun _=>rfl) g [.pt [pS n]] (fun x:De=>decide (x.sub=n)) hl (fun x _=>hg x n)
theorem FO (l:List De) (n:ByteArray):(MY l n = -1∧∀x∈l,x.sub≠n)∨∃k,∃h:k<l.length,MY l n=k∧(l[k]).sub=n∧∀j (hj:j<l.length),j<k→(l[j]).sub≠n:=by
 rcases eY (fun x:De=>decide (x.sub=n)) l with⟨h1,h2⟩|⟨n,h,h1,h2,h3⟩
 ·exact .inl ⟨h1,fun x hx=>by simpa using h2 x hx⟩
 ·exact .inr ⟨n,h,h1,by simpa using h2,fun j hj hjn=>by simpa using h3 j hj hjn⟩
theorem PS (xs:List PV) (hx:cY 15 xs) (i:Nat) (hi:i<xs.length) (hl:xs.length<100000):
  ∃d,cY 15 [d]∧j4 Tryz.prog 42 [.row 0 0 xs.length,.pv (pI i),.pv (pI ((i:Int)+1))] [(0,.sl 15 xs)] (.row 0 0 (xs.length-1)) [(0,.sl 15 (xs.take i++(xs.drop (i+1)++[d])))]:=⟨_,kC [default],Ew (by decide) (by decide) (kC [default]) c42.s xs hx i hi hl⟩
theorem PO (xs:List PV) (hx:cY 2 xs) (i:Nat) (hi:i<xs.length) (hl:xs.length<100000):
  ∃d,cY 2 [d]∧j4 Tryz.prog 55 [.row 0 0 xs.length,.pv (pI i),.pv (pI ((i:Int)+1))] [(0,.sl 2 xs)] (.row 0 0 (xs.length-1)) [(0,.sl 2 (xs.take i++(xs.drop (i+1)++[d])))]:=⟨_,pD [default],Ew (by decide) (by decide) (pD [default]) c55.s xs hx i hi hl⟩
def b7 (l:List De) (n:ByteArray):List De:=l.filter fun x => !decide (x.sub=n)
abbrev zD:PV:=.agg [pS ⟨#[]⟩,pS ⟨#[]⟩]
theorem fJ {l:List De} {n:ByteArray} {j:Nat} (h:j<l.length):b7 (l.take (j+1)) n=b7 (l.take j) n++if l[j].sub=n then[]else[l[j]]:=by
 unfold b7
 rw[List.take_succ_eq_append_getElem h,List.filter_append]
 congr 1
 by_cases e:l[j].sub=n<;>simp[e,List.filter_cons]
theorem zX (l:List De) (n:ByteArray) (j:Nat):(b7 (l.take j) n).length≤j:=by
 have h1:=List.length_filter_le (fun x:De => !decide (x.sub=n)) (l.take j)
 rw[List.length_take]at h1
 unfold b7;omega
theorem JC {α:Type} {a g b:List α} {d:α} {k:Nat} (h:k=a.length+g.length):(a++(g++b)).getD k d=b.getD 0 d:=by
 subst h
 rw[List.getD_eq_getElem?_getD,←List.append_assoc,List.getElem?_append_right (by simp),List.getD_eq_getElem?_getD]
 simp
abbrev sF (l:List De) (n:ByteArray) (j:Nat) (g:List PV):List PV:=(b7 (l.take j) n).map De.pv++(g++(l.drop j).map De.pv)
theorem DN {l:List De} {n:ByteArray} {j:Nat} {g:List PV} (hj:j≤l.length) (hg:(b7 (l.take j) n).length+g.length=j):(sF l n j g).length=l.length:=by
 simp only[List.length_append,List.length_map,List.length_drop];omega
theorem JM {l:List De} {n:ByteArray} {j:Nat} {g:List PV} (hj:j<l.length) (hg:(b7 (l.take j) n).length+g.length=j):(sF l n j g).getD j default=(l[j]).pv:=by
 rw[JC (by rw[List.length_map];exact hg.symm),List.drop_eq_getElem_cons hj]
 rfl
theorem LH {l:List De} {n:ByteArray} {j:Nat} {g:List PV} (hj:j<l.length) (h:l[j].sub=n):sF l n j g=sF l n (j+1) (g++[(l[j]).pv]):=by
 unfold sF
 rw[fJ hj,if_pos h,List.append_nil,List.drop_eq_getElem_cons hj,List.map_cons,List.append_assoc,List.singleton_append]
theorem JL {l:List De} {n:ByteArray} {j:Nat} {g:List PV} (hj:j<l.length) (h0:0<g.length) (h:l[j].sub≠n):(sF l n j g).set (b7 (l.take j) n).length (l[j]).pv=sF l n (j+1) (g.tail++[(l[j]).pv]):=by
 unfold sF
 rw[fJ hj,if_neg h,List.set_append_right _ _ (by rw[List.length_map];exact Nat.le_refl _),List.length_map,Nat.sub_self]
 cases g with
 | nil=>simp at h0
 | cons a g=>
  rw[List.drop_eq_getElem_cons hj,List.map_cons,List.cons_append,List.set_cons_zero,List.map_append,List.map_cons,List.map_nil,List.tail_cons]
  simp only[List.append_assoc,List.singleton_append,List.cons_append,List.nil_append]
theorem Hr {l:List De} {n:ByteArray} {j:Nat} {g:List PV} (h0:0<g.length):(sF l n j g).getD (b7 (l.take j) n).length default=g.getD 0 default:=by
 unfold sF
 rw[List.getD_eq_getElem?_getD,List.getElem?_append_right (by rw[List.length_map];exact Nat.le_refl _),List.length_map,Nat.sub_self,List.getElem?_append_left h0,List.getD_eq_getElem?_getD]
theorem Gn {p:PV} (h:p.cells.length=2):∃c d,p=.agg [c,d]:=by
 cases p with
 | agg cs=>
  match cs,h with
  | [c,d],_=>exact⟨c,d,rfl⟩
 | _=>simp[PV.cells]at h
theorem JN {l:List De} {n:ByteArray} {g:List PV} (hg:(b7 (l.take l.length) n).length+g.length=l.length) (z:PV):
  cR (sF l n l.length g) (b7 l n).length (List.replicate (l.length-(b7 l n).length) z)=(b7 l n).map De.pv++List.replicate (l.length-(b7 l n).length) z:=by
 unfold sF cR
 rw[List.take_length]at hg ⊢
 rw[List.drop_length,List.map_nil,List.append_nil,List.take_left' (by rw[List.length_map]),List.drop_of_length_le (by simp;omega),List.append_nil]
theorem PR (l:List De) (n:ByteArray) (hl:l.length<100000):∃g:List PV,j4 Tryz.prog 43 [.row 0 0 l.length,.fn 45 [.ptr 200000 0]] [(0,.sl 2 (l.map De.pv)),(200000,.box [.pv (pS n)])]
  (.row 0 0 (b7 l n).length) [(0,.sl 2 ((b7 l n).map De.pv++g)),(200000,.box [.pv (pS n)])]:=by
 have et:List.take l.length (List.map De.pv l)=List.map De.pv l:=List.take_of_length_le (by simp)
 have h53:=Nl l 45 OZ n hl
 rcases FO l n with⟨h0,hno⟩|⟨k,hk,h0,hkn,hno⟩
 ·refine⟨[],c43.s (by simp) (by simp) ?_⟩
  simp only[go_sem,M43]
  refine aA (by simp only[go_sem]) (by simp only[go_sem,et]<;>rfl) h53 ⟨rfl,trivial⟩ trivial ?_
  have e1:b7 l n=l:=List.filter_eq_self.2 fun x hx=>by simpa using hno x hx
  rw[e1,h0]
  simp only[go_sem,List.append_nil]
 ·refine⟨List.replicate (l.length-(b7 l n).length) zD,c43.s (by simp) (by simp) ?_⟩
  simp only[go_sem,M43]
  refine aA (by simp only[go_sem]) (by simp only[go_sem,et]<;>rfl) h53 ⟨rfl,trivial⟩ trivial ?_
  rw[h0]
  simp only[go_sem]
  refine⟨⟨by omega,by omega⟩,?_⟩
  have ek:b7 (l.take k) n=l.take k:=List.filter_eq_self.2 fun x hx=>by
   obtain⟨j,hj,rfl⟩:=List.mem_iff_getElem.1 hx
   rw[List.length_take]at hj
   rw[List.getElem_take]
   simpa using hno j (by omega) (by omega)
  have ek1:b7 (l.take (k+1)) n=l.take k:=by rw[fJ hk,if_pos hkn,ek,List.append_nil]
  have e0:l.map De.pv=sF l n (k+1) [(l[k]).pv]:=by
   unfold sF
   rw[ek1,List.singleton_append,←List.map_cons (f:=De.pv),←List.drop_eq_getElem_cons hk,←List.map_append,List.take_append_drop]
  have e1:(k:Int)=((b7 (l.take (k+1)) n).length:Int):=by rw[ek1,List.length_take];omega
  rw[e0,e1]
  refine bK (T:=Nat×List PV) [0,1,5,6] [0,200000] (fun t=>⟨[(0,.row 0 0 l.length),(1,.fn 45 [.ptr 200000 0]),(5,.pv (pI (b7 (l.take t.1) n).length)),(6,.pv (pI t.1))],[(0,.sl 2 (sF l n t.1 t.2)),(200000,.box [.pv (pS n)])]⟩)
   (fun t=>t.1≤l.length∧(b7 (l.take t.1) n).length+t.2.length=t.1∧0<t.2.length∧cY 2 t.2) (fun t=>l.length-t.1) (k+1,[(l[k]).pv]) ?_ ⟨by simp only;omega,by simp only[ek1,List.length_take,List.length_singleton];omega,by simp,pD [l[k]]⟩ ?_
  ·have e2:((b7 (l.take (k+1)) n).length:Int)+1=((k+1:Nat):Int):=by rw[ek1,List.length_take];omega
   simp only[go_sem,e2]
  rintro⟨j,g⟩ ⟨hj,hg,hg0,hw⟩
  simp only at hj hg hg0 hw
  by_cases hlt:j<l.length
  ·have hget:=JM hlt hg
   have hln:=DN (l:=l) (n:=n) hj hg
   simp only[go_sem,B43_0,hget,hln,show(j:Int)<(l.length:Int)by omega]
   refine⟨hlt,?_⟩
   refine aA (by simp only[go_sem]) (by simp only[go_sem]<;>rfl) (OZ l[j] n) ⟨rfl,trivial⟩ trivial ?_
   simp only[go_sem,hget,hln]
   have hw1:cY 2 [(l[j]).pv]:=pD [l[j]]
   have hol:=zX l n j
   refine⟨fun h=>?_,fun h=>?_⟩
   ·have hg2:(g.getD 0 default).cells.length=2:=by
     rw[aM hg0];exact(hw _ (List.getElem_mem hg0)).1
    refine⟨by omega,by omega,⟨by omega,by omega⟩,⟨by omega,by omega⟩,(j+1,g.tail++[(l[j]).pv]),?_,⟨by simp only;omega,?_,by simp,?_⟩,by simp only;omega⟩
    ·obtain⟨c,d,hcd⟩:=Gn hg2
     rw[Hr hg0,hcd]
     have e3:=JL (g:=g) hlt hg0 h
     simp only[List.set_cons_zero,List.set_cons_succ]
     rw[show PV.agg [pS l[j].sub,pS l[j].o]=(l[j]).pv from rfl,e3]
     simp only[fJ hlt,if_neg h,List.length_append,List.length_singleton]
     rfl
    ·simp only[fJ hlt,if_neg h,List.length_append,List.length_singleton,List.length_tail]
     omega
    ·exact fun p hp=>(List.mem_append.1 hp).elim (fun hp=>hw p (List.mem_of_mem_tail hp)) fun hp=>hw1 p hp
   ·refine⟨⟨by omega,by omega⟩,(j+1,g++[(l[j]).pv]),?_,⟨by simp only;omega,?_,by simp,?_⟩,by simp only;omega⟩
    ·simp only[←LH (g:=g) hlt h,fJ hlt,if_pos h,List.append_nil]
     rfl
    ·simp only[fJ hlt,if_pos h,List.append_nil,List.length_append,List.length_singleton]
     omega
    ·exact fun p hp=>(List.mem_append.1 hp).elim (fun hp=>hw p hp) fun hp=>hw1 p hp
  ·obtain rfl:j=l.length:=by omega
   have hln:=DN (l:=l) (n:=n) hj hg
   have hol:=zX l n l.length
   rw[List.take_length]at hol
   simp only[go_sem,B43_0,R43_0,hln,show ¬(l.length:Int)<(l.length:Int)by omega]
   refine⟨⟨by omega,by omega⟩,by omega,by omega,by omega,rfl,?_⟩
   rw[JN hg]
end Go.Vc

namespace Go.Vc
open Go.Proofs
set_option linter.unusedSimpArgs false
set_option linter.unusedVariables false
set_option maxRecDepth 10000
theorem mX {P:Program} {R:Exit→St→Prop} {σ:St} {d:Nat} {is:List Inst} {vs:List (Nat×Nat×Nat)} {keep rows:List Nat} {k:List KI} {f:Opd} {args:List Opd} {a b:PV} {r1 r2:Row} {v:AV} {g:FuncId} (B:Nat) (hB:B<150000)
  (hF:j4 P g [.pv a,.pv b] [] v [(1027,r1),(20,r2)]) (hc:f.cd σ=true∧e8 σ args=true) (ha:(cA (f.sv σ)).map (fun t=>(t.1,eD σ args++t.2))=some (g,[.pv a,.pv b]))
  (h:aU P R is vs keep rows k (σ.afterS d (fun q=>if q=20 then B else if q=1027 then 150001 else q) [] v [(1027,r1),(20,r2)])):
  aU P R (⟨some d,none,.calls f args⟩::is) vs keep rows k σ:=by
 refine aP _ hc ha hF rfl (by simp) (by simp) (by simp) (by simp;omega) ?_ h
 intro e he _
 simp only[List.mem_cons,List.not_mem_nil,or_false]at he
 rcases he with rfl|rfl
 ·simp
 ·simp;omega
theorem kO {P:Program} {R:Exit→St→Prop} {σ:St} {d:Nat} {is:List Inst} {vs:List (Nat×Nat×Nat)} {keep rows:List Nat} {k:List KI} {f:Opd} {args:List Opd} {xs ys:List AV} {r1 r2 r3 r4 s1 s2:Row} {v:AV} {g:FuncId} (B:Nat) (hB:B<150000)
  (hF:j4 P g xs [(150000,r1),(200000,r2)] v [(150000,r3),(200000,r4)]) (hc:f.cd σ=true∧e8 σ args=true) (ha:(cA (f.sv σ)).map (fun t=>(t.1,eD σ args++t.2))=some (g,ys))
  (h1:AV.rns (fun q=>if q=200000 then B else if q=150000 then 150001 else q) xs=ys) (e1:r1.rn (fun q=>if q=200000 then B else if q=150000 then 150001 else q)=s1) (e2:r2.rn (fun q=>if q=200000 then B else if q=150000 then 150001 else q)=s2)
  (m1:(150001,s1)∈σ.st) (m2:(B,s2)∈σ.st) (h:aU P R is vs keep rows k (σ.afterS d (fun q=>if q=200000 then B else if q=150000 then 150001 else q) [(150000,r1),(200000,r2)] v [(150000,r3),(200000,r4)])):
  aU P R (⟨some d,none,.calls f args⟩::is) vs keep rows k σ:=by
 refine aP _ hc ha hF h1 ?_ (by simp) (by simp;omega) (by simp;omega) ?_ h
 ·intro e he
  simp only[List.mem_cons,List.not_mem_nil,or_false]at he
  rcases he with rfl|rfl
  ·simp only[e1];exact m1
  ·simp only[e2];exact m2
 ·intro e he h9
  simp only[List.mem_cons,List.not_mem_nil,or_false]at he
  rcases he with rfl|rfl
  ·simp
  ·exact absurd h9 (by simp)
theorem DO {α:Type} {f:α→PV} {l:List α} {k:Nat} {d:PV} (h:k<l.length):List.take (l.length-1) (List.take k (l.map f)++(List.drop (k+1) (l.map f)++[d]))=(l.eraseIdx k).map f:=by
 rw[←List.append_assoc,List.take_append_of_le_length (by simp;omega),List.take_of_length_le (by simp;omega),List.eraseIdx_eq_take_drop_succ,List.map_append,List.map_take,List.map_drop]
def mC (s:Ro) (n:ByteArray):Ro×Int:=if gJ s.su n<0 then(s,4)else({ s with su:=s.su.eraseIdx (gJ s.su n).toNat,dead:=b7 s.dead n },0)
theorem RZ (s:Ro) (n:ByteArray) (h:RoOk s):Fn Tryz.prog 12 [s.pv,pS n] (.pv (.tup [(mC s n).1.pv,pI (mC s n).2])) []:=by
 have hl:=h.sul
 have hdl:=h.del
 refine c12.r [] (by simp) ?_
 simp only[go_sem,M12]
 unfold mC
 rcases nF s.su n with⟨h1,h2⟩|⟨k,hk,h1,h2⟩
 ·refine aP (fun q=>q) (by simp only[go_sem]) (by simp only[go_sem]<;>rfl) (Cm s n h (by omega)) rfl (by simp) (by simp) (by simp) (by simp) (by simp) ?_
  simp only[go_sem]
  rw[if_pos (by omega)]
 ·refine mX 1011 (by decide) (AN s n h (by omega)) (by simp only[go_sem]) (by simp only[go_sem]<;>rfl) ?_
  rw[h1,if_neg (by omega),Int.toNat_natCast]
  simp only[go_sem]
  obtain⟨d,hd,h42⟩:=PS (s.su.map Su.pv) (kC _) k (by simpa using hk) (by simp;omega)
  rw[List.length_map]at h42
  refine⟨⟨by omega,by omega⟩,aP (fun _=>150001) (by simp only[go_sem]) (by simp only[go_sem]<;>rfl) h42 rfl (by intro e he;simp only[List.mem_cons,List.not_mem_nil,or_false]at he;subst he;simp only[go_sem]) (by simp) (by simp) (by simp) (by intro e he _;simp) ?_⟩
  simp only[go_sem]
  refine aC (by simp only[go_sem]) rfl (Nm s.dead (by omega)) (.inl rfl) trivial ?_
  simp only[go_sem]
  obtain⟨g,h43⟩:=PR s.dead n (by omega)
  refine aP (fun q=>if q=0 then 1043 else 3) (by simp only[go_sem]) (by simp only[go_sem]<;>rfl) h43 rfl (by intro e he;simp only[List.mem_cons,List.not_mem_nil,or_false]at he;rcases he with rfl|rfl<;>simp only[go_sem]) (by simp) (by simp) (by simp) (by intro e he _;simp only[List.mem_cons,List.not_mem_nil,or_false]at he;rcases he with rfl|rfl<;>simp) ?_
  simp only[go_sem]
  rw[DO (f:=Su.pv) hk,List.take_left' (by rw[List.length_map])]
def MW (s:Ro) (i:Nat) (x:Su) (k:Nat) (p:Int):Ro×Int×Int:=
 if(eN { s with dead:=s.dead.eraseIdx k } i x p (bS (cF (s.dead.getD k default).o)).1).2.2≠0 then(s,0,(eN { s with dead:=s.dead.eraseIdx k } i x p (bS (cF (s.dead.getD k default).o)).1).2.2)
 else eN { s with dead:=s.dead.eraseIdx k } i x p (bS (cF (s.dead.getD k default).o)).1
inductive RedP (s:Ro) (n:ByteArray):Ro×Int×Int→Prop
 | no (h:gJ s.su n<0):RedP s n (s,0,4)
 | none (h:0≤gJ s.su n) (hd:∀x∈s.dead,x.sub≠n):RedP s n (s,0,4)
 | red (i k:Nat) (p:Int) (hi:i<s.su.length) (hk:k<s.dead.length) (h:(s.su[i]).d.name=n) (hd:(s.dead[k]).sub=n) (h0 : -1≤p) (h1:p<(s.su[i]).d.wh.length):RedP s n (MW s i s.su[i] k p)
theorem F7 {s:Ro} (h:RoOk s) {l:List De} (hl:∀x∈l,x∈s.dead) (hn:l.length≤40):RoOk { s with dead:=l }:=
 {h with del:=hn,dead:=fun x hx=>h.dead x (hl x hx) }
theorem RX (s:Ro) (n:ByteArray) (h:RoOk s) (hp:∀x∈s.su,x.passes≤1000000000000):∃r,RedP s n r∧Fn Tryz.prog 14 [s.pv,pS n] (.pv (.tup [r.1.pv,pI r.2.1,pI r.2.2])) []:=by
 have hl:=h.sul
 have hdl:=h.del
 rcases nF s.su n with⟨h1,h2⟩|⟨k,hk,h1,h2⟩
 ·refine⟨_,.no (by omega),c14.r [] (by simp) ?_⟩
  simp only[go_sem,M14]
  refine aP (fun q=>q) (by simp only[go_sem]) (by simp only[go_sem]<;>rfl) (Cm s n h (by omega)) rfl (by simp) (by simp) (by simp) (by simp) (by simp) ?_
  simp only[go_sem]
 rcases FO s.dead n with⟨d1,d2⟩|⟨j,hj,d1,d2,d3⟩
 ·refine⟨_,.none (by omega) d2,c14.r [] (by simp) ?_⟩
  simp only[go_sem,M14]
  refine mX 1016 (by decide) (AN s n h (by omega)) (by simp only[go_sem]) (by simp only[go_sem]<;>rfl) ?_
  simp only[go_sem]
  refine aA (by simp only[go_sem]) (by simp only[go_sem]<;>rfl) (Nl s.dead 54 OY n (by omega)) ⟨rfl,trivial⟩ trivial ?_
  simp only[go_sem,d1]
 obtain⟨x,hxe⟩:∃x,x=s.dead[j]:=⟨_,rfl⟩
 have hde:=h.dead _ (List.getElem_mem hj)
 have hgx:=aK (f:=De.pv) hj
 have hgy:=aM hj
 have hnp:=hp _ (List.getElem_mem hk)
 have hs':RoOk { s with dead:=s.dead.eraseIdx j }:=F7 h (fun x hx=>(List.eraseIdx_sublist s.dead j).subset hx) (by have:=(List.eraseIdx_sublist s.dead j).length_le;omega)
 rw[←hxe]at hde hgx hgy
 have hsz:x.o.size≤800:=by
  have t3:=(nW hde.err).2.2
  rw[hde.all]at t3;exact t3
 have h31:=HP x.o (by omega)
 rw[hde.err]at h31
 obtain⟨p,p0,p1,h50⟩:=Mk { s with dead:=s.dead.eraseIdx j } k (bS (cF x.o)).1 hs' hk (nW hde.err).1 hnp
 have hr:=RedP.red k j p hk hj h2 d2 p0 p1
 unfold MW at hr
 rw[hgy]at hr
 refine⟨_,hr,c14.r [] (by simp) ?_⟩
 generalize bS (cF x.o)=T at h31 h50 ⊢
 generalize eN { s with dead:=s.dead.eraseIdx j } k s.su[k] p T.1=U at h50 ⊢
 simp only[go_sem,M14]
 refine mX 1016 (by decide) (AN s n h (by omega)) (by simp only[go_sem]) (by simp only[go_sem]<;>rfl) ?_
 simp only[go_sem]
 refine aA (by simp only[go_sem]) (by simp only[go_sem]<;>rfl) (Nl s.dead 54 OY n (by omega)) ⟨rfl,trivial⟩ trivial ?_
 rw[d1,h1]
 simp only[go_sem,pD,hgx]
 refine⟨fun h=>absurd h (by omega),fun _=>⟨by omega,?_⟩⟩
 refine aC (by simp only[go_sem]) rfl (h31) (.inl rfl) trivial ?_
 simp only[go_sem]
 refine aC (by simp only[go_sem]) rfl (Nm s.dead (by omega)) (.inl rfl) trivial ?_
 simp only[go_sem]
 obtain⟨d,hd,h55⟩:=PO (s.dead.map De.pv) (pD _) j (by simpa using hj) (by simp;omega)
 rw[List.length_map]at h55
 refine⟨⟨by omega,by omega⟩,aP (fun _=>1057) (by simp only[go_sem]) (by simp only[go_sem]<;>rfl) h55 rfl (by intro e he;simp only[List.mem_cons,List.not_mem_nil,or_false]at he;subst he;simp only[go_sem]) (by simp) (by simp) (by simp) (by intro e he _;simp) ?_⟩
 simp only[go_sem]
 rw[DO (f:=De.pv) hj]
 refine kO 1016 (by decide) h50 (by simp only[go_sem]) (by simp only[go_sem]<;>rfl) rfl rfl rfl (by simp only[go_sem]) (by simp only[go_sem]) ?_
 simp only[go_sem]
 refine⟨fun he=>by rw[if_pos he],fun he=>?_⟩
 rw[if_neg (fun h=>h he),List.take_of_length_le (by simp),he]
end Go.Vc

namespace Go.Vc
open Go.Proofs
set_option linter.unusedSimpArgs false
set_option linter.unusedVariables false
set_option maxRecDepth 10000
def OG (ok:Bool) (s:Ro) (i:Nat) (x:Su) (p:Int) (e:Ev):Ro×Int×Int:=if ok=true then eN s i x p e else jY s i x e
def CR (s:Ro) (i:Nat) (R:Ro×Int×Int) (t:ByteArray) (at_:Int):Ro×Int×Int:=
 if(eV R.1 i (R.1.su.getD i default) R.2.1 R.2.2 t at_).2.2≠0 then(s,0,(eV R.1 i (R.1.su.getD i default) R.2.1 R.2.2 t at_).2.2)else eV R.1 i (R.1.su.getD i default) R.2.1 R.2.2 t at_
def wX (t:Tp) (at_:Int):Ev:=(bS (cF (t.log.getD (at_-t.first).toNat default))).1
inductive StepP (s:Ro) (n:ByteArray) (ok:Bool):Ro×Int×Int→Prop
 | no (h:gJ s.su n<0):StepP s n ok (s,0,4)
 | idle (h:0≤gJ s.su n):StepP s n ok (s,0,0)
 | step (i:Nat) (t:Tp) (p:Int) (hi:i<s.su.length) (h:(s.su[i]).d.name=n) (ht:t∈s.tp) (hn:Ay (s.su[i]).d (s.su[i]).offs t=true) (h0 : -1≤p) (h1:p<(s.su[i]).d.wh.length):
   StepP s n ok (CR s i (OG ok s i s.su[i] p (wX t (jV (s.su[i]).offs t))) t.name (jV (s.su[i]).offs t))
theorem mW (s:Ro) (i:Nat) (x:Su):(dM s i x).su.length=s.su.length:=by unfold dM;simp only[List.length_set]
theorem Gq (s:Ro) (i:Nat) (x:Su) (p:Int) (e:Ev):(eN s i x p e).1.su.length=s.su.length:=by
 unfold eN
 split
 ·exact mW _ _ _
 split
 ·rfl
 split
 ·exact mW _ _ _
 ·rw[y3];exact mW _ _ _
theorem Ho (s:Ro) (i:Nat) (x:Su) (e:Ev):(jY s i x e).1.su.length=s.su.length:=by
 unfold jY
 split
 ·exact mW _ _ _
 split
 ·exact mW _ _ _
 ·exact mW _ _ _
theorem kN {s:Ro} {i:Nat} {x y:Su} (hi:i<s.su.length) (hx:s.su.getD i default=x) (h:y.offs=x.offs):((dM s i y).su.getD i default).offs=x.offs:=by
 unfold dM
 rw[aM (by simp only[List.length_set];exact hi)]
 simp only[List.getElem_set_self]
 exact h
theorem EH {s:Ro} {i:Nat} {x:Su} (p:Int) (e:Ev) (hi:i<s.su.length) (hx:s.su.getD i default=x):((eN s i x p e).1.su.getD i default).offs=x.offs:=by
 unfold eN
 split
 ·exact kN hi hx rfl
 split
 ·simp only[hx]
 split
 ·exact kN hi hx rfl
 ·rw[y3];exact kN hi hx rfl
theorem E9 {s:Ro} {i:Nat} {x:Su} (e:Ev) (hi:i<s.su.length) (hx:s.su.getD i default=x):((jY s i x e).1.su.getD i default).offs=x.offs:=by
 unfold jY
 split
 ·exact kN hi hx rfl
 split
 ·exact kN hi hx rfl
 ·exact kN hi hx rfl
theorem zY (l:List Of) (t:Tp):t.first≤jV l t:=by unfold jV;split<;>omega
theorem EV (d:Df) (l:List Of) (ts:List Tp):BF d l ts=(⟨#[]⟩,0,4)∨∃t∈ts,Ay d l t=true∧BF d l ts=(t.name,jV l t,0):=by
 unfold BF
 cases h:ts.find? (Ay d l)with
 | none=>exact .inl rfl
 | some t=>exact .inr ⟨t,List.mem_of_find?_eq_some h,List.find?_some h,rfl⟩
theorem F1 {d:Df} {l:List Of} {t:Tp} (h:Ay d l t=true):jV l t<t.end_:=by
 unfold Ay at h
 rw[Bool.and_eq_true,decide_eq_true_eq]at h
 exact h.1
theorem Hm {ts:List Tp} (h:TpsOk ts) {t:Tp} (ht:t∈ts):∃k,∃hk:k<ts.length,cM ts t.name=k∧ts[k]=t:=by
 rcases gE ts t.name with⟨_,h2⟩|⟨k,hk,h1,h2⟩
 ·exact absurd rfl (h2 t ht)
 ·refine⟨k,hk,h1,?_⟩
  obtain⟨j,hj,rfl⟩:=List.mem_iff_getElem.1 ht
  rcases Nat.lt_trichotomy j k with h|h|h
  ·rename_i h0
   have:=List.pairwise_iff_getElem.1 h0.ord j k hj hk h
   rw[Eh,h2,jS]at this;cases this
  ·subst h;rfl
  ·rename_i h0
   have:=List.pairwise_iff_getElem.1 h0.ord k j hk hj h
   rw[Eh,h2,jS]at this;cases this
theorem GQ {t:Tp} {at_:Int} (h1:t.first≤at_) (h2:at_<t.end_):CT [t] t.name at_=(wX t at_,0):=by
 have hf:cM [t] t.name=0:=by
  rcases gE [t] t.name with⟨_,h⟩|⟨k,hk,h,_⟩
  ·exact absurd rfl (h t (by simp))
  ·have:k=0:=by simp at hk;omega
   rw[h,this];rfl
 unfold CT
 rw[hf,if_neg (by omega)]
 simp only[Int.toNat_zero,List.getD_cons_zero]
 rw[if_neg (by omega),if_neg (by omega)]
 rfl
theorem IC {t:Tp} (h:TpOk t) {at_:Int} (h1:t.first≤at_) (h2:at_<t.end_):iU (wX t at_)=true∧EvN (wX t at_)∧(wX t at_).topic=t.name:=by
 unfold Tp.end_ at h2
 have hi:(at_-t.first).toNat<t.log.length:=by omega
 have ho:=h.log _ (List.getElem_mem hi)
 unfold wX
 rw[aM hi]
 obtain⟨a,b,_⟩:=nW ho.err
 exact⟨a,b,ho.topic⟩
theorem RY (s:Ro) (n:ByteArray) (ok:Bool) (h:RoOk s) (hp:∀x∈s.su,x.passes≤1000000000000):∃r,StepP s n ok r∧Fn Tryz.prog 13 [s.pv,pS n,pB ok] (.pv (.tup [r.1.pv,pI r.2.1,pI r.2.2])) []:=by
 have hl:=h.sul
 have htl:=h.tp.len
 rcases nF s.su n with⟨h1,h2⟩|⟨k,hk,h1,h2⟩
 ·refine⟨_,.no (by omega),c13.r [] (by simp) ?_⟩
  simp only[go_sem,M13]
  refine aP (fun q=>q) (by simp only[go_sem]) (by simp only[go_sem]<;>rfl) (Cm s n h (by omega)) rfl (by simp) (by simp) (by simp) (by simp) (by simp) ?_
  simp only[go_sem]
 have hg:=aK (f:=Su.pv) hk
 have hgx:=aM hk
 have hnp:=hp _ (List.getElem_mem hk)
 have hx:=h.su _ (List.getElem_mem hk)
 have h46:=Fr s k hk (by omega)
 have h50:=fun(e:Ev) (hm:iU e=true)=>Mk s k e h hk hm hnp
 have h51:=fun(e:Ev) (hm:iU e=true) (hn:EvN e)=>PQ s k e h hk hm hn
 have hst:=fun(t:Tp) (p:Int)=>StepP.step (ok:=ok) k t p hk h2
 obtain⟨x,hxe⟩:∃x,x=s.su[k]:=⟨_,rfl⟩
 rw[←hxe]at hg hgx hx hst
 rw[←hxe]at h50 h51
 have hfl:=sT hx.of
 have h47:=RE x.d x.offs s.tp hx.sm hx.may (by omega) hx.of h.tp
 rcases EV x.d x.offs s.tp with hn|⟨t,ht,hix,hn⟩
 ·rw[hn]at h47
  refine⟨_,.idle (by omega),c13.r [] (by simp) ?_⟩
  simp only[go_sem,M13]
  refine mX 1022 (by decide) (AN s n h (by omega)) (by simp only[go_sem]) (by simp only[go_sem]<;>rfl) ?_
  rw[h1]
  simp only[go_sem]
  refine kO 1022 (by decide) h46 (by simp only[go_sem]) (by simp only[go_sem]<;>rfl) rfl rfl rfl (by simp only[go_sem]) (by simp only[go_sem]) ?_
  simp only[go_sem,hg]
  refine⟨hk,hk,?_⟩
  refine aC (by simp only[go_sem]) rfl (h47) (.inl rfl) trivial ?_
  simp only[go_sem]
  done
 ·rw[hn]at h47
  obtain⟨q,hq,hqf,hqt⟩:=Hm h.tp ht
  have htk:=h.tp.one t ht
  have e1:=htk.first
  have e2:=htk.len
  have e3:=htk.last
  have a1:=zY x.offs t
  have a2:=F1 hix
  have hst1:=fun p=>hst t p ht hix
  generalize jV x.offs t=a at h47 a1 a2 hst1
  have hend:t.end_≤1099511627775:=by unfold Tp.end_;omega
  have h48:=Kt s.tp t.name (by omega)
  rw[hqf,if_neg (by omega),decide_eq_true (by omega)]at h48
  have h49:=RC [t] t.name a ⟨by simp,fun u hu=>by simp at hu;rw[hu];exact htk,List.pairwise_singleton _ _⟩ (by omega)
  rw[GQ a1 a2]at h49
  obtain⟨hm,hev,_⟩:=IC htk a1 a2
  have hone:List.drop q (List.take ((q:Int)+1).toNat (List.map Tp.pv s.tp))=[Tp.pv t]:=by
   rw[show((q:Int)+1).toNat=q+1 by omega,List.take_succ_eq_append_getElem (by simpa using hq),List.drop_append_of_le_length (by simp;omega),List.drop_of_length_le (by simp;omega),List.getElem_map,hqt];rfl
  have hgo:∀g,∀R:Ro×Int×Int,j4 Tryz.prog g [.ptr 200000 0,.pv (wX t a).pv] (dk s k) (.pv (.tup [pI R.2.1,pI R.2.2])) (dk R.1 k)→R.1.su.length=s.su.length→(R.1.su.getD k default).offs=x.offs→
    j4 Tryz.prog 52 [.ptr 200000 0,.pv (pS t.name),.pv (pI a),.pv (wX t a).pv,.bnd g [.ptr 200000 0]] (dk s k)
     (.pv (.tup [pI (eV R.1 k (R.1.su.getD k default) R.2.1 R.2.2 t.name a).2.1,pI (eV R.1 k (R.1.su.getD k default) R.2.1 R.2.2 t.name a).2.2])) (dk (eV R.1 k (R.1.su.getD k default) R.2.1 R.2.2 t.name a).1 k):=by
   intro g R hR hlen hof
   have hk':k<R.1.su.length:=by omega
   rw[aM hk']at hof ⊢
   exact PP s R.1 k t.name a (wX t a) g R.2.1 R.2.2 hR hk' (by omega) (by rw[hof];omega) (by omega)
  cases ok with
  | true=>
   obtain⟨p,p0,p1,h50⟩:=h50 (wX t a) hm
   have hr:=hst1 p p0 p1
   have h52:=hgo 50 _ h50 (Gq s k x p _) (EH p _ hk hgx)
   unfold CR OG at hr
   simp only[if_true]at hr
   refine⟨_,hr,c13.r [] (by simp) ?_⟩
   clear hr h50 hgo hst1 hst
   generalize eV (eN s k x p (wX t a)).1 k ((eN s k x p (wX t a)).1.su.getD k default) (eN s k x p (wX t a)).2.1 (eN s k x p (wX t a)).2.2 t.name a=U at h52 ⊢
   generalize wX t a=e at h49 hm hev h52
   simp only[go_sem,M13]
   refine mX 1022 (by decide) (AN s n h (by omega)) (by simp only[go_sem]) (by simp only[go_sem]<;>rfl) ?_
   rw[h1]
   simp only[go_sem]
   refine kO 1022 (by decide) h46 (by simp only[go_sem]) (by simp only[go_sem]<;>rfl) rfl rfl rfl (by simp only[go_sem]) (by simp only[go_sem]) ?_
   simp only[go_sem,hg]
   refine⟨hk,hk,?_⟩
   refine aC (by simp only[go_sem]) rfl (h47) (.inl rfl) trivial ?_
   simp only[go_sem]
   refine aA (by simp only[go_sem]) (by simp only[go_sem]<;>rfl) (h48) ⟨rfl,trivial⟩ trivial ?_
   simp only[go_sem,hone]
   refine⟨⟨by omega,by omega⟩,⟨by omega,by omega,dF _⟩,?_⟩
   refine aC (by simp only[go_sem]) rfl (h49) (.inl rfl) trivial ?_
   simp only[go_sem]
   refine kO 1022 (by decide) h52 (by simp only[go_sem]) (by simp only[go_sem]<;>rfl) rfl rfl rfl (by simp only[go_sem]) (by simp only[go_sem]) ?_
   simp only[go_sem]
   refine⟨fun he=>by rw[if_pos he],fun he=>?_⟩
   rw[if_neg (fun h=>h he),List.take_of_length_le (by simp),he]
  | false=>
   have h51:=h51 (wX t a) hm hev
   have hr:=hst1 (-1) (by omega) (by omega)
   have h52:=hgo 51 _ h51 (Ho s k x _) (E9 _ hk hgx)
   unfold CR OG at hr
   simp only[Bool.false_eq_true,if_false]at hr
   refine⟨_,hr,c13.r [] (by simp) ?_⟩
   clear hr h51 hgo hst1 hst
   generalize eV (jY s k x (wX t a)).1 k ((jY s k x (wX t a)).1.su.getD k default) (jY s k x (wX t a)).2.1 (jY s k x (wX t a)).2.2 t.name a=U at h52 ⊢
   generalize wX t a=e at h49 hm hev h52
   simp only[go_sem,M13]
   refine mX 1022 (by decide) (AN s n h (by omega)) (by simp only[go_sem]) (by simp only[go_sem]<;>rfl) ?_
   rw[h1]
   simp only[go_sem]
   refine kO 1022 (by decide) h46 (by simp only[go_sem]) (by simp only[go_sem]<;>rfl) rfl rfl rfl (by simp only[go_sem]) (by simp only[go_sem]) ?_
   simp only[go_sem,hg]
   refine⟨hk,hk,?_⟩
   refine aC (by simp only[go_sem]) rfl (h47) (.inl rfl) trivial ?_
   simp only[go_sem]
   refine aA (by simp only[go_sem]) (by simp only[go_sem]<;>rfl) (h48) ⟨rfl,trivial⟩ trivial ?_
   simp only[go_sem,hone]
   refine⟨⟨by omega,by omega⟩,⟨by omega,by omega,dF _⟩,?_⟩
   refine aC (by simp only[go_sem]) rfl (h49) (.inl rfl) trivial ?_
   simp only[go_sem]
   refine kO 1022 (by decide) h52 (by simp only[go_sem]) (by simp only[go_sem]<;>rfl) rfl rfl rfl (by simp only[go_sem]) (by simp only[go_sem]) ?_
   simp only[go_sem]
   refine⟨fun he=>by rw[if_pos he],fun he=>?_⟩
   rw[if_neg (fun h=>h he),List.take_of_length_le (by simp),he]
end Go.Vc

namespace Go.Vc
open Go.Proofs
set_option linter.unusedSimpArgs false
set_option linter.unusedVariables false
set_option maxRecDepth 10000
theorem Cu {l:List Su} {i:Nat} (hi:i<l.length) {y:Su} (hy:y.d.name=l[i].d.name):∀x∈l,∃z∈l.set i y,z.d.name=x.d.name:=by
 intro x hx
 obtain⟨j,hj,rfl⟩:=List.mem_iff_getElem.1 hx
 by_cases e:i=j
 ·subst e
  exact⟨y,List.mem_iff_getElem.2 ⟨i,by rw[List.length_set];exact hi,List.getElem_set_self ..⟩,hy⟩
 ·exact⟨l[j],List.mem_iff_getElem.2 ⟨j,by rw[List.length_set];exact hj,by rw[List.getElem_set_ne e]⟩,rfl⟩
theorem xD {s:Ro} (h:RoOk s) {i:Nat} (hi:i<s.su.length) {y:Su} (hy:SuOk s.now s.tp y) (hn:y.d.name=s.su[i].d.name) {tot:Int} {out:List Ot} {dead:List De}
  (t0:0≤tot) (t1:tot≤1000000000000) (o1:bL out=true) (o2:∀x∈out,x.id≤tot) (o3:∀x∈s.gone,x.id≤tot) (o4:∀x∈out,∀z∈s.gone,x.id≠z.id)
  (d1:dead.length≤40) (d2:∀x∈dead,DeOk s.su x):RoOk { s with su:=s.su.set i y,total:=tot,out:=out,dead:=dead }:=
 {h with
  sul:=by show(s.su.set i y).length≤8;rw[List.length_set];exact h.sul
  su:=fun x hx=>by
   rcases fO hx with rfl|hx
   ·exact hy
   ·exact h.su x hx
  suo:=uN h.suo hi (fun a ha=>by rw[mP]at ha ⊢;rw[hn];exact ha) fun a ha=>by rw[mP]at ha ⊢;rw[hn];exact ha
  t0:=t0,t1:=t1,out:=o1,oid:=o2,gid:=o3,apart:=o4,del:=d1
  dead:=fun x hx=>⟨(d2 x hx).err,(d2 x hx).all,by
   obtain⟨z,hz,e⟩:=(d2 x hx).sub
   obtain⟨z',hz',e'⟩:=Cu hi hn z hz
   exact⟨z',hz',by rw[e',e]⟩⟩ }
theorem pP {s:Ro} (h:s.su.Pairwise mP) {i:Nat} (hi:i<s.su.length) {y:Su} (hn:y.d.name=s.su[i].d.name) {tot:Int} {out:List Ot} {dead:List De} (m:ByteArray):
  cnt { s with su:=s.su.set i y,total:=tot,out:=out,dead:=dead } m=
   if m=s.su[i].d.name then y.passes+(dead.countP fun x=>decide (x.sub=m))+y.taken
   else if ∃x∈s.su,x.d.name=m then cnt s m+((dead.countP fun x=>decide (x.sub=m))-(dd s m:Nat))else 0:=by
 have hord:(s.su.set i y).Pairwise mP:=uN h hi (fun a ha=>by rw[mP]at ha ⊢;rw[hn];exact ha) fun a ha=>by rw[mP]at ha ⊢;rw[hn];exact ha
 by_cases e:m=s.su[i].d.name
 ·rw[if_pos e,e,←hn]
  exact jA (s:={ s with su:=s.su.set i y,total:=tot,out:=out,dead:=dead }) hord (List.mem_iff_getElem.2 ⟨i,by rw[List.length_set];exact hi,List.getElem_set_self ..⟩)
 ·rw[if_neg e]
  by_cases hx:∃x∈s.su,x.d.name=m
  ·rw[if_pos hx]
   obtain⟨x,hx,rfl⟩:=hx
   obtain⟨j,hj,rfl⟩:=List.mem_iff_getElem.1 hx
   have hij:i≠j:=fun e2=>by subst e2;exact e rfl
   have hmem:s.su[j]∈s.su.set i y:=List.mem_iff_getElem.2 ⟨j,by rw[List.length_set];exact hj,by rw[List.getElem_set_ne hij]⟩
   have h1:=jA (s:={ s with su:=s.su.set i y,total:=tot,out:=out,dead:=dead }) hord hmem
   rw[h1,jA h hx]
   unfold dd
   simp only
   omega
  ·rw[if_neg hx]
   refine nU fun x h2 e2=>?_
   rcases fO h2 with rfl|h2
   ·exact e (by rw[←e2,hn])
   ·exact hx ⟨x,h2,e2⟩
theorem LR {α:Type} {R:α→α→Prop} (tr:∀a b c,R a b→R b c→R a c) {l:List α} (h:∀i (hi:i+1<l.length),R (l[i]) (l[i+1])):l.Pairwise R:=by
 have key:∀d i (hi:i+(d+1)<l.length),R (l[i]) (l[i+(d+1)]):=by
  intro d
  induction d with
  | zero=>intro i hi;exact h i hi
  | succ d ih=>intro i hi;exact tr _ _ _ (ih i (by omega)) (h (i+(d+1)) hi)
 rw[List.pairwise_iff_getElem]
 intro i j hi hj hij
 obtain⟨d,rfl⟩:∃d,j=i+(d+1):=⟨j-i-1,by omega⟩
 exact key d i hj
theorem sU {l:List Of}:d7 l=true↔l.length≤20∧(∀x∈l,Ax x=true)∧l.Pairwise (fun a b=>lS a.t b.t=true):=by
 unfold d7
 simp only[Bool.and_eq_true,decide_eq_true_eq,List.all_eq_true,List.mem_range]
 constructor
 ·rintro⟨⟨a,b⟩,c⟩
  refine⟨a,b,LR (R:=fun a b:Of=>lS a.t b.t=true) (fun _ _ _ h1 h2=>gU h1 h2) fun i hi=>?_⟩
  have:=c (i+1) hi
  unfold CK at this
  rwa [decide_eq_false (by omega),Bool.false_or,show i+1-1=i by omega,aM hi,aM (show i<l.length by omega)]at this
 ·rintro⟨a,b,c⟩
  refine⟨⟨a,b⟩,fun i hi=>?_⟩
  unfold CK
  by_cases h0:i=0
  ·rw[decide_eq_true h0];rfl
  ·rw[aM hi,aM (show i-1<l.length by omega),List.pairwise_iff_getElem.1 c (i-1) i (by omega) hi (by omega),Bool.or_true]
theorem Iq {now:Int} {tp:List Tp} {x:Su} (h:SuOk now tp x) (ht:TpsOk tp) {t:Tp} (htm:t∈tp) {n:Int} (hn:n≤t.end_) (he:(iT x.offs t.name n).2=0):
  d7 (iT x.offs t.name n).1=true∧∀o∈(iT x.offs t.name n).1,∃k,∃h:k<tp.length,cM tp o.t=k∧o.n≤(tp[k]).end_:=by
 unfold iT at he ⊢
 by_cases h1:d7 x.offs=false∨Ax ⟨t.name,n⟩=false
 ·rw[if_pos h1]at he;cases he
 rw[if_neg h1]at he ⊢
 have hm:Ax ⟨t.name,n⟩=true:=by
  cases hc:Ax ⟨t.name,n⟩with
  | true=>rfl
  | false=>exact absurd (.inr hc) h1
 have hnew:∃k,∃h:k<tp.length,cM tp t.name=k∧n≤(tp[k]).end_:=(EC ht).2 ⟨t,htm,rfl,hn⟩
 obtain⟨c1,c2,c3⟩:=sU.1 h.of
 by_cases h2:0≤pJ x.offs t.name
 ·rw[if_pos h2]at he ⊢
  rcases nG x.offs t.name with⟨h3,_⟩|⟨k,hk,h3,h4⟩
  ·omega
  ·rw[h3,Int.toNat_natCast]
   refine⟨sU.2 ⟨by rw[List.length_set];exact c1,?_,uN c3 hk (fun a ha=>by rw[h4]at ha;exact ha) fun a ha=>by rw[h4]at ha;exact ha⟩,?_⟩
   ·intro y hy
    rcases fO hy with rfl|hy
    ·exact hm
    ·exact c2 y hy
   ·intro y hy
    rcases fO hy with rfl|hy
    ·exact hnew
    ·exact h.at_ y hy
 rw[if_neg h2]at he ⊢
 by_cases h3:20≤x.offs.length
 ·rw[if_pos h3]at he;cases he
 rw[if_neg h3]
 have hno:∀y∈x.offs,y.t≠t.name:=by
  rcases nG x.offs t.name with⟨_,h4⟩|⟨k,hk,h4,_⟩
  ·exact h4
  ·omega
 refine⟨sU.2 ⟨by rw[gX ((List.takeWhile_sublist _).length_le)];omega,?_,qN c3 (fun y _ hy=>hy) (fun y hy hp=>xR hp (hno y hy)) fun a b h1 h2=>gU h1 h2⟩,?_⟩
 ·intro y hy
  rcases cK.1 hy with rfl|hy
  ·exact hm
  ·exact c2 y hy
 ·intro y hy
  rcases cK.1 hy with rfl|hy
  ·exact hnew
  ·exact h.at_ y hy
end Go.Vc

namespace Go.Vc
open Go.Proofs
set_option linter.unusedSimpArgs false
set_option linter.unusedVariables false
set_option maxRecDepth 10000
theorem LS {l:List Ot} {x:Ot} (h:(sZ l x).2=0) (hl:∀y∈l,y.id<x.id):(sZ l x).1=l++[x]∧bL (l++[x])=true:=by
 unfold sZ at h ⊢
 by_cases h1:bL l=false∨rI x=false
 ·rw[if_pos h1]at h;cases h
 rw[if_neg h1]at h ⊢
 by_cases h2:0<l.length∧x.id≤(l.getD (l.length-1) default).id
 ·rw[if_pos h2]at h;cases h
 rw[if_neg h2]at h ⊢
 by_cases h3:100≤l.length
 ·rw[if_pos h3]at h;cases h
 rw[if_neg h3]
 have c1:bL l=true:=by
  cases hc:bL l with
  | true=>rfl
  | false=>exact absurd (.inl hc) h1
 have c2:rI x=true:=by
  cases hc:rI x with
  | true=>rfl
  | false=>exact absurd (.inr hc) h1
 refine⟨rfl,kQ (by simp;omega) (fun y hy=>?_) ?_⟩
 ·rcases List.mem_append.1 hy with hy|hy
  ·exact eK c1 hy
  ·rw[List.mem_singleton]at hy;subst hy;exact c2
 ·refine List.pairwise_append.2 ⟨eJ c1,List.pairwise_singleton _ _,fun a ha b hb=>?_⟩
  rw[List.mem_singleton]at hb;subst hb
  exact hl a ha
structure Took (k:Int) (s:Ro) (x:Su) (r:Ro×Int×Int) (i:Nat) (y:Su) (tot:Int) (out:List Ot):Prop where
 is:r.1={ s with su:=s.su.set i y,total:=tot,out:=out }
 ok:SuOk s.now s.tp y
 d:y.d=x.d
 offs:y.offs=x.offs
 one:y.passes+y.taken=x.passes+x.taken+1
 bt:y.taken≤k+1
 bp:y.passes≤k+1
 t0:s.total≤tot
 t1:tot≤s.total+1
 o1:bL out=true
 o2:∀z∈out,z.id≤tot
 o4:∀z∈out,∀g∈s.gone,z.id≠g.id
 what:r.2.1=1∨r.2.1=2∨r.2.1=3
theorem Oj {k:Int} {s:Ro} {x:Su} (hx:SuOk s.now s.tp x) (hk:k≤1000) (hb:x.taken≤k) (p:Int) (e:Ev) (he:(j6 s x p e).err=0):SuOk s.now s.tp (hU x (j6 s x p e)):=by
 have hl:=F4 he
 have g:=y6.1 he
 have hp:=g.perm
 have hn:=g.next
 have h1:=hx.cnt
 have h2:=hx.i0
 have h3:=hx.v0
 unfold j6 at hl ⊢
 generalize hZ x.d.j x.ins_ (AK x e) ⟨p,x.taken+1,s.now⟩=F at hl hp hn ⊢
 exact { sm:=hx.sm,may:=hx.may,f0:=hx.f0,f3:=hx.f3,of:=hx.of,at_:=hx.at_,p0:=hx.p0
         i0:=by simp only[hU,o0];omega
         v0:=by simp only[hU,o0];omega
         cnt:=by simp only[hU,o0];omega
         ins:=gN.2 hn
         ids:=fun z hz=>by
          have hz':z∈eB x.ins_++[⟨p,x.taken+1,s.now⟩]:=hp.mem_iff.2 (List.mem_append.2 (.inr (List.mem_append.2 (.inr hz))))
          simp only[hU,o0]
          rcases List.mem_append.1 hz' with h4|h4
          ·obtain⟨a,b,c⟩:=hx.ids z h4
           exact⟨a,by omega,c⟩
          ·rw[List.mem_singleton]at h4
           subst h4
           have:=hx.cnt
           exact⟨by simp only;omega,by simp only;omega,Int.le_refl _⟩
         big:=by simp only[hU,o0];omega }
theorem LF {x:Su} {F:FRI} (h:F.fired=[]):hU x F=o0 x F:=by
 unfold hU o0
 rw[h];simp
theorem AS {k:Int} {s:Ro} (h:RoOk s) (hb:RoB k s) (hk:k≤1000) {i:Nat} (hi:i<s.su.length) (p:Int) (e:Ev):
  (eN s i s.su[i] p e).2.2≠0∨((eN s i s.su[i] p e).2.2=0∧∃y tot out,Took k s s.su[i] (eN s i s.su[i] p e) i y tot out):=by
 have hx:=h.su _ (List.getElem_mem hi)
 obtain⟨b1,b2⟩:=hb.su _ (List.getElem_mem hi)
 have hc:=eL h.out
 have ht0:=h.t0
 have hbt:=hb.t
 obtain⟨x,hxe⟩:∃x,x=s.su[i]:=⟨_,rfl⟩
 rw[←hxe]at hx b1 b2 ⊢
 unfold eN
 split
 ·refine .inr ⟨rfl,x5 x,s.total,s.out,rfl,?_,rfl,rfl,?_,?_,?_,Int.le_refl _,by omega,h.out,h.oid,h.apart,.inl rfl⟩
  ·exact { sm:=hx.sm,may:=hx.may,f0:=hx.f0,f3:=hx.f3,of:=hx.of,at_:=hx.at_,i0:=hx.i0,v0:=hx.v0,cnt:=hx.cnt,ins:=hx.ins,ids:=hx.ids,big:=hx.big,p0:=by have:=hx.p0;simp only[x5];omega }
  ·simp only[x5];omega
  ·simp only[x5];omega
  ·simp only[x5];omega
 split
 ·rename_i h2;exact .inl h2
 rename_i h2
 have he:=Classical.not_not.1 h2
 have hf:=Oj hx hk b1 p e he
 split
 ·rename_i h3
  rw[LF h3]at hf
  refine .inr ⟨rfl,_,s.total,s.out,rfl,hf,rfl,rfl,?_,?_,?_,Int.le_refl _,by omega,h.out,h.oid,h.apart,.inr (.inl rfl)⟩
  ·simp only[o0];omega
  ·simp only[o0];omega
  ·simp only[o0];omega
 rename_i h3
 unfold tC
 split
 ·rename_i h4;exact .inl h4
 rename_i h4
 obtain⟨a1,a2⟩:=LS (Classical.not_not.1 h4) (fun y hy=>by have:=h.oid y hy;show y.id<s.total+1;omega)
 refine .inr ⟨rfl,_,s.total+1,_,rfl,hf,rfl,rfl,?_,?_,?_,by omega,Int.le_refl _,by rw[a1];exact a2,?_,?_,.inr (.inr rfl)⟩
 ·simp only[hU,o0];omega
 ·simp only[hU,o0];omega
 ·simp only[hU,o0];omega
 ·intro z hz
  rw[a1]at hz
  rcases List.mem_append.1 hz with hz|hz
  ·have:=h.oid z hz;omega
  ·rw[List.mem_singleton]at hz;subst hz;exact Int.le_refl _
 ·intro z hz g hg
  rw[a1]at hz
  rcases List.mem_append.1 hz with hz|hz
  ·exact h.apart z hz g hg
  ·rw[List.mem_singleton]at hz
   subst hz
   have:=h.gid g hg
   show s.total+1≠g.id
   omega
theorem SuOk.read {now:Int} {tp:List Tp} {y:Su} (hy:SuOk now tp y) {l:List Of} (h1:d7 l=true) (h2:∀o∈l,∃k,∃h:k<tp.length,cM tp o.t=k∧o.n≤(tp[k]).end_):SuOk now tp { y with fails:=0,offs:=l }:=
 {sm:=hy.sm,may:=hy.may,f0:=Int.le_refl _,f3:=(by decide:(0:Int)<3),of:=h1,at_:=h2,p0:=hy.p0,i0:=hy.i0,v0:=hy.v0,cnt:=hy.cnt,ins:=hy.ins,ids:=hy.ids,big:=hy.big }
structure StepOk (k:Int) (s:Ro) (n:ByteArray) (r:Ro×Int×Int):Prop where
 ok:RoOk r.1
 b:RoB (k+1) r.1
 cnt:∀m,Go.Vc.cnt r.1 m=Go.Vc.cnt s m+if m=n∧r.2.2=0∧r.2.1≠0∧r.2.1≠4 then 1 else 0
theorem StepOk.self {k:Int} {s:Ro} (h:RoOk s) (hb:RoB k s) (n:ByteArray) {w e:Int} (hw:w=0∨e≠0):StepOk k s n (s,w,e):=
 ⟨h,hb.mono (by omega),fun m=>by
  rw[if_neg]
  ·simp
  ·rintro⟨_,h2,h3,_⟩
   rcases hw with h4|h4
   ·exact h3 h4
   ·exact h4 h2⟩
theorem Lo {su:List Su} {x:Su} {e:Ev} (hm:iU e=true) (hn:EvN e) (hx:x∈su):DeOk su ⟨x.d.name,bQ (eM e)⟩:=by
 have hlo:=FY hm hn
 generalize ho:bQ (eM e)=o at hlo ⊢
 have h1:=hlo.err
 have h2:=hlo.all
 exact { err:=by dsimp only;exact h1,all:=by dsimp only;exact h2,sub:=⟨x,hx,rfl⟩ }
theorem lX {s:Ro} (h:s.su.Pairwise mP) {i:Nat} (hi:i<s.su.length) {y:Su} (hn:y.d.name=s.su[i].d.name) {tot:Int} {out:List Ot} {dead:List De} {m:ByteArray} (hm:m≠s.su[i].d.name)
  (hd:(dead.countP fun x=>decide (x.sub=m))=dd s m):cnt { s with su:=s.su.set i y,total:=tot,out:=out,dead:=dead } m=cnt s m:=by
 rw[pP h hi hn,if_neg hm,hd]
 split
 ·omega
 ·rename_i h9
  rw[nU fun z hz e=>h9 ⟨z,hz,e⟩]
theorem KO {k:Int} {s:Ro} (h:RoOk s) (hb:RoB k s) (hk:k≤1000) {n:ByteArray} {ok:Bool} {r:Ro×Int×Int} (hr:StepP s n ok r):StepOk k s n r:=by
 cases hr with
 | no h1=>exact .self h hb n (.inl rfl)
 | idle h1=>exact .self h hb n (.inl rfl)
 | step i t p hi hn ht hx h0 h1=>
  subst hn
  have hsx:=h.su _ (List.getElem_mem hi)
  have htk:=h.tp.one t ht
  have a1:=zY (s.su[i]).offs t
  have a2:=F1 hx
  obtain⟨hm,hev,_⟩:=IC htk a1 a2
  obtain⟨b1,b2⟩:=hb.su _ (List.getElem_mem hi)
  have hbt:=hb.t
  have ht0:=h.t0
  cases ok with
  | true=>
   unfold CR OG
   simp only[if_true]
   rcases AS h hb hk hi p (wX t (jV (s.su[i]).offs t))with he|⟨he,y,tot,out,T⟩
   ·generalize eN s i s.su[i] p (wX t (jV (s.su[i]).offs t))=R at he ⊢
    have hnx:eV R.1 i (R.1.su.getD i default) R.2.1 R.2.2 t.name (jV (s.su[i]).offs t)=R:=by unfold eV;rw[if_pos (.inl he)]
    rw[hnx,if_pos he]
    exact .self h hb _ (.inl rfl)
   generalize eN s i s.su[i] p (wX t (jV (s.su[i]).offs t))=R at he T ⊢
   have hR:R.1.su.getD i default=y:=by
    rw[T.is]
    simp only
    rw[aM (by rw[List.length_set];exact hi),List.getElem_set_self]
   have hw:¬(R.2.2≠0∨R.2.1=4):=by
    have:=T.what
    rintro(h2|h2)
    ·exact h2 he
    ·omega
   rw[hR]
   have hnx:eV R.1 i y R.2.1 R.2.2 t.name (jV (s.su[i]).offs t)=if(iT y.offs t.name (jV (s.su[i]).offs t+1)).2≠0 then(R.1,0,(iT y.offs t.name (jV (s.su[i]).offs t+1)).2)
     else(dM R.1 i { y with fails:=0,offs:=(iT y.offs t.name (jV (s.su[i]).offs t+1)).1 },R.2.1,0):=by unfold eV;rw[if_neg hw]
   rw[hnx]
   by_cases hp:(iT y.offs t.name (jV (s.su[i]).offs t+1)).2≠0
   ·rw[if_pos hp,if_pos hp]
    exact .self h hb _ (.inl rfl)
   rw[if_neg hp,if_neg (by simp)]
   obtain⟨q1,q2⟩:=Iq T.ok h.tp ht (by omega) (Classical.not_not.1 hp)
   have hy:=T.ok.read q1 q2
   have hyd:({ y with fails:=0,offs:=(iT y.offs t.name (jV (s.su[i]).offs t+1)).1 }:Su).d.name=(s.su[i]).d.name:=by
    show y.d.name=_;rw[T.d]
   have hfin:dM R.1 i { y with fails:=0,offs:=(iT y.offs t.name (jV (s.su[i]).offs t+1)).1 }={ s with su:=s.su.set i { y with fails:=0,offs:=(iT y.offs t.name (jV (s.su[i]).offs t+1)).1 },total:=tot,out:=out }:=by
    unfold dM;rw[T.is];simp only[List.set_set]
   obtain⟨y',hye⟩:∃y',y'=({ y with fails:=0,offs:=(iT y.offs t.name (jV (s.su[i]).offs t+1)).1 }:Su):=⟨_,rfl⟩
   have e1:y'.passes=y.passes:=by rw[hye]
   have e2:y'.taken=y.taken:=by rw[hye]
   rw[←hye]at hy hyd hfin ⊢
   rw[hfin]
   have c1:=T.one
   have c2:=T.bt
   have c3:=T.bp
   have c4:=T.t0
   have c5:=T.t1
   have c6:=T.what
   refine⟨xD h hi hy hyd (by omega) (by omega) T.o1 T.o2 (fun z hz=>by have:=h.gid z hz;omega) T.o4 h.del h.dead,⟨by show tot≤k+1;omega,fun z hz=>?_⟩,fun m=>?_⟩
   ·rcases fO hz with rfl|hz
    ·exact⟨by omega,by omega⟩
    ·exact(hb.mono (by omega)).su z hz
   ·show Go.Vc.cnt { s with su:=s.su.set i y',total:=tot,out:=out } m=Go.Vc.cnt s m+if m=(s.su[i]).d.name∧(0:Int)=0∧R.2.1≠0∧R.2.1≠4 then 1 else 0
    by_cases hm:m=(s.su[i]).d.name
    ·subst hm
     rw[pP h.suo hi hyd,if_pos rfl,if_pos ⟨rfl,rfl,by omega,by omega⟩,jA h.suo (List.getElem_mem hi)]
     unfold dd
     omega
    ·rw[lX h.suo hi hyd hm rfl,if_neg (fun h=>hm h.1)]
     omega
  | false=>
   unfold CR OG
   simp only[Bool.false_eq_true,if_false]
   obtain⟨x,hxe⟩:∃x,x=s.su[i]:=⟨_,rfl⟩
   have hgd:(dM s i (dD x)).su.getD i default=dD x:=by
    unfold dM
    simp only
    rw[aM (by rw[List.length_set];exact hi),List.getElem_set_self]
   have f0:=hsx.f0
   have f3:=hsx.f3
   have hcx:=jA h.suo (List.getElem_mem hi)
   rw[←hxe]at hsx b1 b2 a1 a2 hm hev f0 f3 hcx ⊢
   generalize wX t (jV x.offs t)=e at hm hev ⊢
   generalize jV x.offs t=a at a1 a2 ⊢
   unfold jY
   by_cases h3:x.fails+1<3
   ·rw[if_pos h3]
    simp only
    have hnx:eV (dM s i (dD x)) i ((dM s i (dD x)).su.getD i default) 4 0 t.name a=(dM s i (dD x),4,0):=by unfold eV;rw[if_pos (.inr rfl)]
    rw[hnx,if_neg (by simp)]
    have hy:SuOk s.now s.tp (dD x):={ sm:=hsx.sm,may:=hsx.may,f0:=by simp only[dD];omega,f3:=by simp only[dD];omega,of:=hsx.of,at_:=hsx.at_,p0:=hsx.p0,i0:=hsx.i0,v0:=hsx.v0,cnt:=hsx.cnt,ins:=hsx.ins,ids:=hsx.ids,big:=hsx.big }
    have hyd:(dD x).d.name=(s.su[i]).d.name:=by rw[hxe];rfl
    refine⟨xD h hi hy hyd h.t0 h.t1 h.out h.oid h.gid h.apart h.del h.dead,⟨by show s.total≤k+1;omega,fun z hz=>?_⟩,fun m=>?_⟩
    ·rcases fO hz with rfl|hz
     ·exact⟨by simp only[dD];omega,by simp only[dD];omega⟩
     ·exact(hb.mono (by omega)).su z hz
    ·rw[if_neg (fun h=>h.2.2.2 rfl)]
     show Go.Vc.cnt { s with su:=s.su.set i (dD x),total:=s.total,out:=s.out,dead:=s.dead } m=Go.Vc.cnt s m+0
     by_cases hm:m=(s.su[i]).d.name
     ·rw[pP h.suo hi hyd,if_pos hm,hm,←hxe,hcx]
      unfold dd
      simp only[dD]
      omega
     ·rw[lX h.suo hi hyd hm rfl]
      omega
   rw[if_neg h3]
   by_cases h4:40≤s.dead.length
   ·rw[if_pos h4]
    simp only
    have hnx:eV (dM s i (dD x)) i ((dM s i (dD x)).su.getD i default) 0 6 t.name a=(dM s i (dD x),0,6):=by unfold eV;rw[if_pos (.inl (by decide))]
    rw[hnx,if_pos (by show(6:Int)≠0;decide)]
    exact .self h hb _ (.inl rfl)
   rw[if_neg h4]
   simp only
   rw[hgd]
   have hnx:eV { dM s i (dD x)with dead:=s.dead++[⟨x.d.name,bQ (eM e)⟩] } i (dD x) 5 0 t.name a=if(iT x.offs t.name (a+1)).2≠0 then({ dM s i (dD x)with dead:=s.dead++[⟨x.d.name,bQ (eM e)⟩] },0,(iT x.offs t.name (a+1)).2)
     else(dM { dM s i (dD x)with dead:=s.dead++[⟨x.d.name,bQ (eM e)⟩] } i { dD x with fails:=0,offs:=(iT x.offs t.name (a+1)).1 },5,0):=by
    unfold eV
    rw[if_neg (by rintro(h|h);exact h rfl;cases h)]
    rfl
   rw[hnx]
   by_cases hp:(iT x.offs t.name (a+1)).2≠0
   ·rw[if_pos hp,if_pos hp]
    exact .self h hb _ (.inl rfl)
   rw[if_neg hp,if_neg (by simp)]
   obtain⟨q1,q2⟩:=Iq hsx h.tp ht (by omega) (Classical.not_not.1 hp)
   have hy:=hsx.read q1 q2
   obtain⟨y',hye⟩:∃y',y'=({ x with fails:=0,offs:=(iT x.offs t.name (a+1)).1 }:Su):=⟨_,rfl⟩
   have e0:({ dD x with fails:=0,offs:=(iT x.offs t.name (a+1)).1 }:Su)=y':=by rw[hye];rfl
   have e1:y'.passes=x.passes:=by rw[hye]
   have e2:y'.taken=x.taken:=by rw[hye]
   have hyd:y'.d.name=(s.su[i]).d.name:=by rw[hye,hxe]
   rw[←hye]at hy
   rw[e0]
   have hfin:dM { dM s i (dD x)with dead:=s.dead++[⟨x.d.name,bQ (eM e)⟩] } i y'={ s with su:=s.su.set i y',total:=s.total,out:=s.out,dead:=s.dead++[⟨x.d.name,bQ (eM e)⟩] }:=by
    unfold dM;simp only[List.set_set]
   rw[hfin]
   have hmx:x∈s.su:=by rw[hxe];exact List.getElem_mem hi
   have hde:=Lo hm hev hmx
   refine⟨xD h hi hy hyd h.t0 h.t1 h.out h.oid h.gid h.apart (by simp;omega) ?_,⟨by show s.total≤k+1;omega,fun z hz=>?_⟩,fun m=>?_⟩
   ·intro z hz
    rcases List.mem_append.1 hz with hz|hz
    ·exact h.dead z hz
    ·rw[List.mem_singleton]at hz
     subst hz
     exact hde
   ·rcases fO hz with rfl|hz
    ·exact⟨by omega,by omega⟩
    ·exact(hb.mono (by omega)).su z hz
   ·show Go.Vc.cnt { s with su:=s.su.set i y',total:=s.total,out:=s.out,dead:=s.dead++[⟨x.d.name,bQ (eM e)⟩] } m=Go.Vc.cnt s m+if m=x.d.name∧(0:Int)=0∧(5:Int)≠0∧(5:Int)≠4 then 1 else 0
    by_cases hm:m=x.d.name
    ·rw[pP h.suo hi hyd,List.countP_append,←hxe,if_pos hm,if_pos ⟨hm,rfl,by decide,by decide⟩,hm,hcx]
     unfold dd
     have:List.countP (fun z:De=>decide (z.sub=x.d.name)) [⟨x.d.name,bQ (eM e)⟩]=1:=by simp
     rw[this]
     omega
    ·have:List.countP (fun z:De=>decide (z.sub=m)) [⟨x.d.name,bQ (eM e)⟩]=0:=by
      simp[show ¬x.d.name=m from fun e=>hm e.symm]
     rw[lX h.suo hi hyd (by rw[←hxe];exact hm) (by rw[List.countP_append,this];rfl),if_neg (fun h=>hm h.1)]
     omega
end Go.Vc

namespace Go.Vc
open Go.Proofs
set_option linter.unusedSimpArgs false
set_option linter.unusedVariables false
set_option maxRecDepth 10000
theorem KeptR.out {k:Int} {s:Ro} (h:RoOk s) (hb:RoB k s) {l g:List Ot} (h1:bL l=true) (h2:bL g=true) (h3:∀x∈l,x.id≤s.total) (h4:∀x∈g,x.id≤s.total) (h5:∀x∈l,∀y∈g,x.id≠y.id):
  KeptR k s { s with out:=l,gone:=g }:=
 ⟨{ h with out:=h1,gone:=h2,oid:=h3,gid:=h4,apart:=h5 },⟨by have:=hb.t;simp only;omega,fun x hx=>(hb.mono (by omega)).su x hx⟩,fun n=>zC rfl rfl n⟩
theorem Oy {k:Int} {s:Ro} (h:RoOk s) (hb:RoB k s) (id:Int):KeptR k s (Eg s id).1:=by
 unfold Eg
 split
 ·rename_i he
  have hs:=JW s.out id
  exact .out h hb (Aq he) h.gone (fun x hx=>h.oid x (hs.subset hx)) h.gid fun x hx y hy=>h.apart x (hs.subset hx) y hy
 ·exact .self h hb
theorem EW {x:Ot} {now:Int} (h:rI x=true) (ht:x.tries≠4) (h0:0≤now):rI (qQ x now)=true:=by
 rw[yU]at h ⊢
 obtain⟨a,b,c,d,e⟩:=h
 have hp:=FM d.1 d.2
 refine⟨a,b,c,⟨?_,?_⟩,?_⟩
 ·simp only[qQ];omega
 ·simp only[qQ];omega
 ·rw[uT]
  simp only[qQ]
  split<;>omega
theorem FN (l:List Ot) (n:Int):rH l n≤l.length:=(List.takeWhile_prefix _).length_le
theorem Lg {k:Int} {s:Ro} (h:RoOk s) (hb:RoB k s) (id:Int):KeptR k s (tB s id).1:=by
 have hn:=h.n0
 unfold tB
 split
 ·exact .self h hb
 rename_i he
 have he:=Classical.not_not.1 he
 unfold mV at he ⊢
 by_cases h1:bL s.out=false∨dW s.now=false
 ·rw[if_pos h1]at he;exact absurd he (by decide)
 rw[if_neg h1]at he ⊢
 by_cases h2:bY s.out id<0
 ·rw[if_pos h2]at he;exact absurd he (by decide)
 rw[if_neg h2]at he ⊢
 obtain⟨j,hj,hje,hid⟩:=tW h2
 rw[hje,Int.toNat_natCast,aM hj]at he ⊢
 have hord:=eJ h.out
 have hmay:=eK h.out (List.getElem_mem hj)
 by_cases h4:s.out[j].tries=4
 ·rw[if_pos h4]at he ⊢
  simp only[if_true]
  by_cases h5:100≤s.gone.length
  ·rw[if_pos h5];exact .self h hb
  ·rw[if_neg h5]
   have hack:(lR s.out id).2=0:=Ct.2 ⟨h.out,_,List.getElem_mem hj,hid⟩
   have hal:(lR s.out id).1=xB s.out j:=by
    unfold lR
    rw[if_neg (by rw[h.out];simp),if_neg h2,hje,Int.toNat_natCast]
   have hsub:=zB s.out j
   have hflt:=(Gd hack).1
   rw[hal]at hflt
   have hxg:∀y∈s.gone,y.id≠id:=fun y hy e=>h.apart _ (List.getElem_mem hj) y hy (by rw[hid,e])
   refine .out h hb (by rw[←hal];exact Aq hack) ?_ (fun x hx=>h.oid x (hsub.subset hx)) ?_ ?_
   ·refine kQ ?_ ?_ ?_
    ·rw[gX (FN _ _)];omega
    ·intro y hy
     rcases cK.1 hy with rfl|hy
     ·exact hmay
     ·exact eK h.gone hy
    ·refine qN (R:=Ei) (eJ h.gone) (fun y _ hy=>?_) (fun y hy hp=>?_) (fun a b h1 h2=>Int.lt_trans h1 h2)
     ·rw[decide_eq_true_eq]at hy;show y.id<s.out[j].id;rw[hid];exact hy
     ·rw[decide_eq_false_iff_not]at hp
      have:=hxg y hy
      show s.out[j].id<y.id
      rw[hid];omega
   ·intro y hy
    rcases cK.1 hy with rfl|hy
    ·exact h.oid _ (List.getElem_mem hj)
    ·exact h.gid y hy
   ·intro x hx y hy
    have hx':=hx
    rw[hflt,List.mem_filter]at hx'
    rcases cK.1 hy with rfl|hy
    ·rw[hid];exact of_decide_eq_true hx'.2
    ·exact h.apart x (hsub.subset hx) y hy
 ·rw[if_neg h4]at he ⊢
  simp only[Bool.false_eq_true,if_false]
  refine .out h hb ?_ h.gone ?_ h.gid ?_
  ·refine kQ (by rw[List.length_set];exact((fF _).1 h.out).1) ?_ (uN hord hj (fun a ha=>ha) fun a ha=>ha)
   intro y hy
   rcases fO hy with rfl|hy
   ·exact EW hmay h4 hn
   ·exact eK h.out hy
  ·intro y hy
   rcases fO hy with rfl|hy
   ·exact h.oid s.out[j] (List.getElem_mem hj)
   ·exact h.oid y hy
  ·intro x hx y hy
   rcases fO hx with rfl|hx
   ·exact h.apart s.out[j] (List.getElem_mem hj) y hy
   ·exact h.apart x hx y hy
theorem GP {k:Int} {s:Ro} (h:RoOk s) (hb:RoB k s) (id:Int):KeptR k s (nX s id).1:=by
 unfold nX
 split
 ·exact .self h hb
 rename_i h1
 split
 ·exact .self h hb
 rename_i he
 have he:=Classical.not_not.1 he
 obtain⟨j,hj,hje,hid⟩:=tW h1
 rw[hje,Int.toNat_natCast,aM hj]at he ⊢
 have hmay:=eK h.gone (List.getElem_mem hj)
 have hgo:=eJ h.gone
 have hfl:=qG hj hgo
 have hsub:=zB s.gone j
 unfold sJ at he ⊢
 by_cases h2:bL s.out=false∨dW s.now=false∨rI s.gone[j]=false
 ·rw[if_pos h2]at he;cases he
 rw[if_neg h2]at he ⊢
 by_cases h3:0≤bY s.out s.gone[j].id
 ·rw[if_pos h3]at he;cases he
 rw[if_neg h3]at he ⊢
 by_cases h4:100≤s.out.length
 ·rw[if_pos h4]at he;cases he
 rw[if_neg h4]
 have hno:=y4.1 (show bY s.out s.gone[j].id<0 by omega)
 have hti:dW s.now=true:=by
  cases ht:dW s.now with
  | true=>rfl
  | false=>exact absurd (.inr (.inl ht)) h2
 refine .out h hb ?_ ?_ ?_ (fun x hx=>h.gid x (hsub.subset hx)) ?_
 ·refine kQ ?_ ?_ ?_
  ·show(eZ _ _ _).length≤100
   rw[gX (FN _ _)];omega
  ·intro y hy
   rcases cK.1 hy with rfl|hy
   ·rw[yU]at hmay ⊢
    exact⟨hmay.1,hmay.2.1,hmay.2.2.1,⟨by simp,by simp⟩,hti⟩
   ·exact eK h.out hy
  ·refine qN (R:=Ei) (eJ h.out) (fun y _ hy=>?_) (fun y hy hp=>?_) (fun a b h1 h2=>Int.lt_trans h1 h2)
   ·rw[decide_eq_true_eq]at hy;exact hy
   ·rw[decide_eq_false_iff_not]at hp
    have:=hno y hy
    show s.gone[j].id<y.id
    omega
 ·exact kQ (Nat.le_trans hsub.length_le ((fF _).1 h.gone).1) (fun x hx=>eK h.gone (hsub.subset hx)) (hgo.sublist hsub)
 ·intro x hx
  rcases cK.1 hx with rfl|hx
  ·exact h.gid s.gone[j] (List.getElem_mem hj)
  ·exact h.oid x hx
 ·intro x hx y hy
  have hy':=hy
  rw[hfl,List.mem_filter]at hy'
  rcases cK.1 hx with rfl|hx
  ·exact fun e=>of_decide_eq_true hy'.2 e.symm
  ·exact h.apart x hx y (hsub.subset hy)
end Go.Vc

namespace Go.Vc
open Go.Proofs
set_option linter.unusedSimpArgs false
set_option linter.unusedVariables false
set_option maxRecDepth 10000
theorem Fc {j:Jn} {l:List Kp} (n:Nat) (h:bJ j l=true):bJ j (l.drop n)=true:=by
 obtain⟨m1,m2,m3,m4⟩:=cX h
 have hu:=wW h
 have hsub:(l.drop n).Sublist l:=List.drop_sublist n l
 obtain⟨w1,w2⟩:=(pT j l).1 m3
 have hlen:(l.drop n).length<30:=by have:=hsub.length_le;omega
 have hok:nO j (l.drop n) (l.drop n).length=true:=(pT j _).2 ⟨fun k hk=>w1 k (hsub.subset hk),w2.sublist hsub⟩
 have hum:fZ j (l.drop n)=false:=by
  rcases pW m1 with⟨hk,h1⟩|hk|⟨hk,h1,_⟩
  ·obtain⟨P,hP⟩:∃P:Nat,j.parts=P:=⟨j.parts.toNat,by omega⟩
   have pr:∀{k:Kp},gQ j k=true→0≤k.part∧k.part<P:=fun hf=>by
    have:=(tV j _).1 hf
    omega
   cases hm:fZ j (l.drop n)with
   | false=>rfl
   | true=>
    exfalso
    have h2:=(xK hk hP fun k hk'=>pr (w1 k (hsub.subset hk'))).1 hm
    have:fZ j l=true:=(xK hk hP fun k hk'=>pr (w1 k hk')).2 fun p hp=>by
     have:=h2 p hp
     simp only[sE,cN,List.any_eq_true,decide_eq_true_eq]at this ⊢
     obtain⟨k,hk1,hk2⟩:=this
     exact⟨k,hsub.subset hk1,hk2⟩
    rw[hu]at this;cases this
  ·have hl0:l.length=0:=by
    have:=Cr hk l
    simp[fZ,jX,hk,pE,rW.symm,this]at hu
    omega
   have:l=[]:=List.length_eq_zero_iff.1 hl0
   subst this
   rw[List.drop_nil];exact hu
  ·have hl0:(l.length:Int)<j.need:=by
    have:=jU hk l
    simp[fZ,jX,hk,this]at hu
    omega
   have h5:=jU hk (l.drop n)
   have h6:=hsub.length_le
   unfold fZ
   rw[h5,decide_eq_false_iff_not]
   unfold jX
   rw[if_pos hk]
   omega
 have hpl:bP j (l.drop n)=[]:=(lH j _ m1).2 (by simpa[fZ]using hum)
 unfold bJ
 rw[m1,hok,hpl,decide_eq_true hlen]
 rfl
theorem Bd (j:Jn) (now:Int) (a:In) (l:List In):gP j now (a::l)=if a.l.drop (bN j now a.l)=[]then gP j now l else jQ j now a::gP j now l:=by
 unfold gP
 rw[List.map_cons,List.filter_cons]
 by_cases h:a.l.drop (bN j now a.l)=[]
 ·rw[if_pos h,if_neg (by simp[jQ,h])]
 ·rw[if_neg h,if_pos (by simp[jQ,h])]
theorem z7 (j:Jn) (now:Int):∀l:List In,dG (gP j now l)+(kE j now l).length=dG l
 | []=>rfl
 | a::l=>by
  have ih:=z7 j now l
  have e:(kE j now (a::l)).length=(a.l.take (bN j now a.l)).length+(kE j now l).length:=by simp[kE]
  have e2:(a.l.take (bN j now a.l)).length+(a.l.drop (bN j now a.l)).length=a.l.length:=by rw[←List.length_append,List.take_append_drop]
  have e3:dG (a::l)=a.l.length+dG l:=by simp[dG]
  rw[Bd,e,e3]
  split
  ·rename_i h
   rw[h]at e2
   simp only[List.length_nil]at e2
   omega
  ·have e4:dG (jQ j now a::gP j now l)=(a.l.drop (bN j now a.l)).length+dG (gP j now l):=by simp[dG,jQ]
   rw[e4];omega
theorem yW (j:Jn) (now:Int):∀l:List In,(eB (gP j now l)).Sublist (eB l)
 | []=>List.Sublist.refl _
 | a::l=>by
  have ih:=yW j now l
  rw[Bd,nL]
  split
  ·exact ih.trans (List.sublist_append_right _ _)
  ·rw[nL]
   exact List.Sublist.append (List.drop_sublist _ _) ih
theorem G2 {j:Jn} {now:Int} {l:List In} (h:GoodI j l):GoodI j (gP j now l):=by
 refine⟨h.may,Nat.le_trans (Be j now l) h.len,?_,?_,?_⟩
 ·refine List.Pairwise.filter _ ?_
  rw[List.pairwise_map]
  exact h.ord
 ·intro x hx
  unfold gP at hx
  rw[List.mem_filter]at hx
  obtain⟨y,hy,rfl⟩:=List.mem_map.1 hx.1
  obtain⟨a,b,c⟩:=h.one y hy
  exact⟨a,of_decide_eq_true hx.2,Fc _ c⟩
 ·exact h.ids.sublist ((yW j now l).map _)
theorem Ow {now t:Int} {tp:List Tp} {x:Su} (h:SuOk now tp x) (ht:now≤t):SuOk t tp (CP t x):=by
 have hc:=z7 x.d.j t x.ins_
 have h1:=h.cnt
 have h2:=h.v0
 exact { sm:=h.sm,may:=h.may,f0:=h.f0,f3:=h.f3,of:=h.of,at_:=h.at_,p0:=h.p0,i0:=h.i0,big:=h.big
         v0:=by simp only[CP];omega
         cnt:=by simp only[CP];omega
         ins:=gN.2 (G2 (gN.1 h.ins))
         ids:=fun k hk=>by
          obtain⟨a,b,c⟩:=h.ids k ((yW _ _ _).subset hk)
          exact⟨a,b,Int.le_trans c ht⟩ }
theorem LL {s s':Ro} {f:Su→Su} (h1:s'.su=s.su.map f) (h2:s'.dead=s.dead) (hn:∀x,(f x).d=x.d) (hp:∀x,(f x).passes=x.passes) (ht:∀x,(f x).taken=x.taken) (n:ByteArray):cnt s' n=cnt s n:=by
 unfold cnt dd
 rw[h1,h2,List.find?_map]
 have e:((fun x:Su=>decide (x.d.name=n))∘f)=fun x:Su=>decide (x.d.name=n):=by
  funext x;simp[hn]
 rw[e]
 cases s.su.find? (fun x=>decide (x.d.name=n))with
 | none=>rfl
 | some x=>simp[hp,ht]
theorem KL {k:Int} {s:Ro} (h:RoOk s) (hb:RoB k s) (d:Int):KeptR k s (x4 s d).1:=by
 have hn:=h.n0
 unfold x4
 split
 ·exact .self h hb
 rename_i hd
 refine⟨{ h with n0:=by simp only;omega,n1:=by simp only;omega,sul:=by simp only[List.length_map];exact h.sul,su:=?_,suo:=?_,dead:=?_ },⟨by have:=hb.t;simp only;omega,?_⟩,fun n=>LL (s:=s) (s':={ s with now:=s.now+d,su:=s.su.map (CP (s.now+d)) }) (f:=CP (s.now+d)) rfl rfl (fun _=>rfl) (fun _=>rfl) (fun _=>rfl) n⟩
 ·intro x hx
  obtain⟨y,hy,rfl⟩:=List.mem_map.1 hx
  exact Ow (h.su y hy) (by show s.now≤s.now+d;omega)
 ·rw[List.pairwise_map];exact h.suo
 ·intro x hx
  have:=h.dead x hx
  exact⟨this.err,this.all,by obtain⟨y,hy,e⟩:=this.sub;exact⟨_,List.mem_map.2 ⟨y,hy,rfl⟩,e⟩⟩
 ·intro x hx
  obtain⟨y,hy,rfl⟩:=List.mem_map.1 hx
  exact(hb.mono (by omega)).su y hy
theorem On {t:Tp} {u:Int} (h:TpOk t) (hu:u≤t.end_):TpOk (mO t u)∧(mO t u).name=t.name∧(mO t u).end_=t.end_:=by
 have h1:=h.first
 have h2:=h.len
 have h3:=h.last
 unfold mO
 unfold Tp.end_ at hu
 split
 ·have hl:(t.log.drop (u-t.first).toNat).length=t.log.length-(u-t.first).toNat:=List.length_drop
  refine⟨⟨h.name,by simp only;omega,by simp only;omega,by simp only;omega,fun o ho=>h.log o (List.mem_of_mem_drop ho)⟩,rfl,?_⟩
  unfold Tp.end_
  simp only
  omega
 ·exact⟨h,rfl,rfl⟩
theorem GO {k:Int} {s:Ro} (h:RoOk s) (hb:RoB k s):KeptR k s (xE s):=by
 unfold xE
 have hc:∀t∈s.tp,TpOk (mO t (iZ s t))∧(mO t (iZ s t)).name=t.name∧(mO t (iZ s t)).end_=t.end_:=fun t ht=>On (h.tp.one t ht) (Dv h (h.tp.one t ht)).2
 have htp:TpsOk (s.tp.map fun t=>mO t (iZ s t)):=by
  refine⟨by rw[List.length_map];exact h.tp.len,?_,?_⟩
  ·intro t ht
   obtain⟨u,hu,rfl⟩:=List.mem_map.1 ht
   exact(hc u hu).1
  ·have e:∀t,(mO t (iZ s t)).name=t.name:=fun t=>by unfold mO;split<;>rfl
   rw[List.pairwise_map]
   refine h.tp.ord.imp fun {a b} hab=>?_
   rw[Eh,e,e];exact hab
 have hg:Ns s.tp (s.tp.map fun t=>mO t (iZ s t)):=fun t ht=>⟨_,List.mem_map.2 ⟨t,ht,rfl⟩,(hc t ht).2.1,by rw[(hc t ht).2.2];exact Int.le_refl _⟩
 exact⟨{ h with tp:=htp,su:=fun x hx=>(h.su x hx).grow h.tp htp hg },⟨by have:=hb.t;simp only;omega,fun x hx=>(hb.mono (by omega)).su x hx⟩,fun n=>zC rfl rfl n⟩
end Go.Vc

namespace Go.Vc
open Go.Proofs
set_option linter.unusedSimpArgs false
set_option linter.unusedVariables false
set_option maxRecDepth 10000
theorem Hs {a b:ByteArray}:CO a b=0↔a=b:=by
 unfold CO
 constructor
 ·intro h
  split at h
  ·cases h
  ·split at h
   ·assumption
   ·cases h
 ·rintro rfl
  rw[if_neg (by rw[jS];simp),if_pos rfl]
theorem LB {α:Type} {l:List α} {p:α→Bool} {a:α} {r:List α} (h:l.dropWhile p=a::r) (d:α):l.getD (l.takeWhile p).length d=a:=by
 have hs:l.takeWhile p++l.dropWhile p=l:=List.takeWhile_append_dropWhile
 rw[h]at hs
 have key:∀t,t++a::r=l→l.getD t.length d=a:=by
  rintro t rfl
  simp[List.getD_eq_getElem?_getD]
 exact key _ hs
theorem GU {l:List Su} {n:ByteArray} (hs:l.Pairwise mP) (h:yI l n=false):∀x∈l,x.d.name≠n:=by
 intro x hx e
 have hsplit:l.takeWhile (fun y=>lS y.d.name n)++l.dropWhile (fun y=>lS y.d.name n)=l:=List.takeWhile_append_dropWhile
 have hx2:x∈l.dropWhile (fun y=>lS y.d.name n):=by
  rw[←hsplit,List.mem_append]at hx
  rcases hx with hx|hx
  ·have:=Em hx
   rw[e,jS]at this;cases this
  ·exact hx
 cases hd:l.dropWhile (fun y=>lS y.d.name n)with
 | nil=>rw[hd]at hx2;cases hx2
 | cons a r=>
  have ha:=Cp hd
  have hget:l.getD (oY l n) default=a:=LB hd default
  have hlt:oY l n<l.length:=by
   have:l.length=oY l n+(a::r).length:=by
    conv=>lhs;rw[←hsplit,hd,List.length_append]
    rfl
   rw[this];simp
  have hne:a.d.name≠n:=fun e2=>by
   unfold yI at h
   rw[hget,decide_eq_true hlt,Bool.true_and,decide_eq_false_iff_not]at h
   exact h (Hs.2 e2)
  rw[hd]at hx2
  have hs2:(a::r).Pairwise mP:=by
   rw[←hd];exact hs.sublist (List.dropWhile_sublist _)
  rcases List.mem_cons.1 hx2 with rfl|hx3
  ·exact hne e
  ·have:=(List.pairwise_cons.1 hs2).1 x hx3
   rw[mP,e,ha]at this;cases this
theorem Lf {now:Int} {tp:List Tp} {d:Df} (hd:SmD d) (hm:sB d=true):SuOk now tp (wZ d):=by
 have hj:kS d.j=true:=by
  unfold sB at hm
  simp only[Bool.and_eq_true]at hm
  exact hm.1.2.2.1
 refine { sm:=hd,may:=hm,f0:=Int.le_refl _,f3:=(by decide:(0:Int)<3),of:=(by decide:d7 []=true),at_:=(fun o ho=>nomatch ho),p0:=Int.le_refl _,i0:=Int.le_refl _,v0:=Int.le_refl _,cnt:=rfl,ins:=?_,ids:=(fun k hk=>nomatch hk),big:=(by decide:(0:Int)≤1000000000000) }
 exact gN.2 ⟨hj,Nat.zero_le _,List.Pairwise.nil,fun x hx=>(nomatch hx),List.Pairwise.nil⟩
theorem Nu {k:Int} {s:Ro} (h:RoOk s) (hb:RoB k s) (hk:0≤k) (d:Df) (hd:SmD d):KeptR k s (D8 s d).1:=by
 unfold D8
 split
 ·exact .self h hb
 rename_i h1
 split
 ·exact .self h hb
 rename_i h2
 split
 ·exact .self h hb
 rename_i h3
 have hm:sB d=true:=by simpa using h1
 have hno:=GU h.suo (by simpa using h2)
 have hpl:oY s.su d.name≤s.su.length:=(List.takeWhile_prefix _).length_le
 have hord:(eZ s.su (oY s.su d.name) (wZ d)).Pairwise mP:=qN (R:=mP) h.suo (fun y _ hy=>hy) (fun y hy hp=>xR hp (hno y hy)) fun a b h1 h2=>gU h1 h2
 have hok:RoOk { s with su:=eZ s.su (oY s.su d.name) (wZ d) }:={ h with
  sul:=by show(eZ _ _ _).length≤8;rw[gX hpl];omega
  su:=fun x hx=>by
   rcases cK.1 hx with rfl|hx
   ·exact Lf hd hm
   ·exact h.su x hx
  suo:=hord
  dead:=fun x hx=>⟨(h.dead x hx).err,(h.dead x hx).all,by obtain⟨y,hy,e⟩:=(h.dead x hx).sub;exact⟨y,cK.2 (.inr hy),e⟩⟩ }
 refine⟨hok,⟨by have:=hb.t;simp only;omega,fun x hx=>?_⟩,fun n=>?_⟩
 ·rcases cK.1 hx with rfl|hx
  ·exact⟨by show(0:Int)≤_;omega,by show(0:Int)≤_;omega⟩
  ·exact(hb.mono (by omega)).su x hx
 ·by_cases e:n=d.name
  ·subst e
   rw[nU hno]
   have hmem:wZ d∈eZ s.su (oY s.su d.name) (wZ d):=cK.2 (.inl rfl)
   have:=jA (s:={ s with su:=eZ s.su (oY s.su d.name) (wZ d) }) hord hmem
   have hd0:dd s d.name=0:=by
    unfold dd
    rw[List.countP_eq_zero]
    intro x hx
    obtain⟨y,hy,e⟩:=(h.dead x hx).sub
    simp only[decide_eq_true_eq]
    intro e2
    exact hno y hy (by rw[e,e2])
   show cnt { s with su:=eZ s.su (oY s.su d.name) (wZ d) } (wZ d).d.name=0
   rw[this]
   show(0:Int)+(dd s d.name:Nat)+0=0
   rw[hd0];rfl
  ·by_cases hx:∃x∈s.su,x.d.name=n
   ·obtain⟨x,hx,rfl⟩:=hx
    rw[jA h.suo hx]
    exact jA (s:={ s with su:=eZ s.su (oY s.su d.name) (wZ d) }) hord (cK.2 (.inr hx))
   ·rw[nU fun x h2 e2=>hx ⟨x,h2,e2⟩]
    refine nU fun x h2 e2=>?_
    rcases cK.1 h2 with rfl|h2
    ·exact e e2.symm
    ·exact hx ⟨x,h2,e2⟩
structure Gone (k:Int) (s s':Ro) (n:ByteArray):Prop where
 ok:RoOk s'
 b:RoB (k+1) s'
 here:cnt s' n=0
 cnt:∀m,m≠n→Go.Vc.cnt s' m=Go.Vc.cnt s m
theorem AF (l:List De) (n m:ByteArray) (h:m≠n):(b7 l n).countP (fun x=>decide (x.sub=m))=l.countP fun x=>decide (x.sub=m):=by
 unfold b7
 rw[List.countP_filter]
 refine List.countP_congr fun x _=>?_
 simp only[Bool.and_eq_true,decide_eq_true_eq,Bool.not_eq_true',decide_eq_false_iff_not]
 exact⟨fun h=>h.1,fun e=>⟨e,fun e2=>h (by rw[←e,e2])⟩⟩
theorem II {k:Int} {s:Ro} (h:RoOk s) (hb:RoB k s) (n:ByteArray):((mC s n).2≠0∧(mC s n).1=s)∨((mC s n).2=0∧Gone k s (mC s n).1 n):=by
 unfold mC
 rcases nF s.su n with⟨h1,h2⟩|⟨j,hj,h1,h2⟩
 ·rw[if_pos (by omega)]
  exact .inl ⟨by show(4:Int)≠0;decide,rfl⟩
 rw[if_neg (by omega),h1,Int.toNat_natCast]
 have hsub:=List.eraseIdx_sublist s.su j
 have hord:=h.suo.sublist hsub
 have hmem:∀x∈s.su.eraseIdx j,x∈s.su∧x.d.name≠n:=by
  intro x hx
  refine⟨hsub.subset hx,fun e=>?_⟩
  obtain⟨i,hi,hne,rfl⟩:=List.mem_eraseIdx_iff_getElem.1 hx
  rcases Nat.lt_or_gt_of_ne hne with h5|h5
  ·have:=List.pairwise_iff_getElem.1 h.suo i j hi hj h5
   rw[mP,e,h2,jS]at this;cases this
  ·have:=List.pairwise_iff_getElem.1 h.suo j i hj hi h5
   rw[mP,e,h2,jS]at this;cases this
 have hback:∀x∈s.su,x.d.name≠n→x∈s.su.eraseIdx j:=by
  intro x hx e
  obtain⟨i,hi,rfl⟩:=List.mem_iff_getElem.1 hx
  refine List.mem_eraseIdx_iff_getElem.2 ⟨i,hi,fun e2=>?_,rfl⟩
  subst e2;exact e h2
 refine .inr ⟨rfl,?_,?_,?_,?_⟩
 ·refine { h with sul:=Nat.le_trans hsub.length_le h.sul,su:=fun x hx=>h.su x (hmem x hx).1,suo:=hord,del:=Nat.le_trans (List.length_filter_le _ _) h.del,dead:=fun x hx=>?_ }
  have hx':=List.mem_filter.1 hx
  have hd:=h.dead x hx'.1
  refine⟨hd.err,hd.all,?_⟩
  obtain⟨y,hy,e⟩:=hd.sub
  refine⟨y,hback y hy ?_,e⟩
  rw[e];simpa using hx'.2
 ·exact⟨by have:=hb.t;simp only;omega,fun x hx=>(hb.mono (by omega)).su x (hmem x hx).1⟩
 ·exact nU fun x hx=>(hmem x hx).2
 ·intro m hm
  by_cases hx:∃x∈s.su,x.d.name=m
  ·obtain⟨x,hx,rfl⟩:=hx
   rw[jA h.suo hx,jA (s:={ s with su:=s.su.eraseIdx j,dead:=b7 s.dead n }) hord (hback x hx hm)]
   unfold dd
   simp only[AF _ _ _ hm]
  ·rw[nU fun x h2 e2=>hx ⟨x,h2,e2⟩]
   exact nU fun x h2 e2=>hx ⟨x,(hmem x h2).1,e2⟩
end Go.Vc

namespace Go.Vc
open Go.Proofs
set_option maxRecDepth 100000
def B81_0:MC:=(.seq (.seq (.reg [mi 31 9,fI 32 3 5,lJ 33 32 1,nI 34 33 false,oI 35 .lss 31 34,mi 36 35,gT 37 36 (.mv (.t 9)),gT 38 36 (.bin .lss (.t 37) (ic 3)),qi 39 (.pick (.t 36) (.t 38) (.c (.bool false))),mi 40 39,gT 41 40 (.mv (.t 1)),gT 42 40 (.bin .gtr (.t 41) (ic 0)),qi 43 (.pick (.t 40) (.t 42) (.c (.bool false))),mi 44 43,gT 45 44 (.mv (.t 2)),gT 46 44 (.bin .gtr (.t 45) (ic 0)),qi 47 (.pick (.t 44) (.t 46) (.c (.bool false)))] [] [1,2,3,6,8,9,47] [3,6,8,66,1016,1019,1059]) (.cond (.t 47) .skip (.exit 0))) (.seq (.block 1 (.seq (.reg [fI 51 3 5,lJ 52 51 1,mi 53 9,qi 54 (.ia (.t 52) (.t 53) 6),lI 55 54 6,mi 56 1,oJ 57 .sub 56 1,mi 58 2,cI 59 81 [.t 55,.t 57,.t 58],mi 50 59,xI 60 50 0,xI 61 50 1,aI 10 [.pv (.sc (.string ⟨#[]⟩)),.pv (.sc (.string ⟨#[]⟩)),.pv (.sc (.bool false)),.pv (.sc (.int .i64 0)),.pv (.sc (.string ⟨#[]⟩)),.e0],⟨none,none,.st (.t 10) (.t 60) 6⟩,mi 11 61] [] [1,3,6,8,9,10,11] [3,6,8,10,66,1016,1019,1059]) (.seq (.reg [fI 62 8 5,lJ 63 62 1,lI 64 10 6,⟨some 65,none,.lits [.t 64] 6⟩,⟨some 66,none,.app (.t 63) (.t 65) 6 88⟩,fI 67 8 5,⟨none,none,.st (.t 67) (.t 66) 1⟩] [] [1,3,6,8,9,11] [3,6,8,66,1016,1019,1059]) (.reg [mi 68 11,mi 2 68] [] [1,2,3,6,8,9] [3,6,8,66,1016,1019,1059])))) (.reg [mi 48 9,oJ 49 .add 48 1,mi 9 49] [] [1,2,3,6,8,9] [3,6,8,66,1016,1019,1059])))
def R81_0:MC:=(.seq (.reg [lI 69 8 6,mi 70 2,⟨none,none,.st (.t 6) (.t 69) 6⟩,mi 7 70] [] [6,7] [6,66,1016,1019,1059]) .ret)
def M81:MC:=(.seq (.reg [vI 3 0,aI 6 [.pv (.sc (.string ⟨#[]⟩)),.pv (.sc (.string ⟨#[]⟩)),.pv (.sc (.bool false)),.pv (.sc (.int .i64 0)),.pv (.sc (.string ⟨#[]⟩)),.e0],kI 7 0] [] [1,2,3,6] [3,6,66,1016,1019,1059]) (.seq (.seq (.grp [8,1016,1019] [⟨12,none,.q (.fa (.t 3) 0),[3],[3]⟩,⟨13,none,.q (.ld (.t 12) 1 false),[12],[3]⟩,⟨14,none,.q (.fa (.t 3) 1),[3],[3]⟩,⟨15,none,.q (.ld (.t 14) 1 false),[14],[3]⟩,⟨16,none,.call (.f 28) [.t 15],[15],[]⟩,⟨17,none,.q (.fa (.t 3) 2),[3],[3]⟩,⟨18,none,.q (.ld (.t 17) 3 true),[17],[3]⟩,⟨19,none,.call (.f 139) [.t 18],[18],[]⟩,⟨20,none,.q (.mk [.pv (.sc (.string ⟨#[]⟩)),.pv (.sc (.string ⟨#[]⟩)),.pv (.sc (.bool false)),.pv (.sc (.int .i64 0)),.pv (.sc (.string ⟨#[]⟩)),.e0] [(0,1,(.t 13)),(1,1,(.t 16)),(2,3,(.t 19))]),[13,16,19],[1016,1019]⟩,⟨8,none,.alloc [.pv (.sc (.string ⟨#[]⟩)),.pv (.sc (.string ⟨#[]⟩)),.pv (.sc (.bool false)),.pv (.sc (.int .i64 0)),.pv (.sc (.string ⟨#[]⟩)),.e0],[],[]⟩] [1,2,3,6,8,20] [3,6,8,66,1016,1019,1059]) (.reg [⟨none,none,.st (.t 8) (.t 20) 6⟩] [] [1,2,3,6,8] [3,6,8,66,1016,1019,1059])) (.seq (.seq (.reg [fI 21 8 0,lJ 22 21 1,nI 23 22 true,oJ 24 .gtr 23 8] [] [1,2,3,6,8,24] [3,6,8,66,1016,1019,1059]) (.cond (.t 24) (.reg [fI 25 8 0,lJ 26 25 1,qi 27 (.slc (.t 26) none (some (ic 8)) 0 true),fI 28 8 0,⟨none,none,.st (.t 28) (.t 27) 1⟩] [] [1,2,3,6,8] [3,6,8,66,1016,1019,1059]) .skip)) (.seq (.reg [mi 29 2,oJ 30 .sub 29 1,mi 2 30] [] [1,2,3,6,8] [3,6,8,66,1016,1019,1059]) (.seq (.seq (.reg [kI 9 0] [] [1,2,3,6,8,9] [3,6,8,66,1016,1019,1059]) (.block 0 (.loop B81_0))) R81_0)))))
theorem c81:Cd 81 71 [RV.cell 6 6 true,RV.tmp 7] M81:=cO [] (rz [(1,⟨[1,2,3,6,8],[3,6,8,66,1016,1019,1059],[(10,0)],1023,[],some ⟨[8,1016,1019],[(0,[3],[3]),(1,[12],[3]),(2,[3],[3]),(3,[14],[3]),(4,[15],[]),(5,[3],[3]),(6,[17],[3]),(7,[18],[]),(8,[13,16,19],[1016,1019]),(9,[],[])],[1,2,3,6,8,20],[3,6,8,66,1016,1019,1059]⟩⟩)] [] [0,0,2,3,4,5,6,5,7,8,10,11] M81) Tryz.func81 (by kernel_rfl) Tryz.ntmps81
def M30:MC:=(.seq (.reg [vI 1 0,aI 2 [.pv (.sc (.string ⟨#[]⟩)),.pv (.sc (.string ⟨#[]⟩)),.pv (.sc (.bool false)),.pv (.sc (.int .i64 0)),.pv (.sc (.string ⟨#[]⟩)),.e0]] [] [1,2] [1,2,1007]) (.seq (.reg [lI 6 1 6,cI 7 81 [.t 6,.c (.int .i64 9),.c (.int .i64 50)],mi 5 7,xI 8 5 0,xI 9 5 1,aI 3 [.pv (.sc (.string ⟨#[]⟩)),.pv (.sc (.string ⟨#[]⟩)),.pv (.sc (.bool false)),.pv (.sc (.int .i64 0)),.pv (.sc (.string ⟨#[]⟩)),.e0],⟨none,none,.st (.t 3) (.t 8) 6⟩,mi 4 9] [] [2,3] [2,3,1007]) (.seq (.reg [lI 10 3 6,⟨none,none,.st (.t 2) (.t 10) 6⟩] [] [2] [2,1007]) .ret)))
theorem c30:Cd 30 11 [RV.cell 2 6 true] M30:=cO [] (rn [] [] 3 M30) Tryz.func30 (by kernel_rfl) Tryz.ntmps30
def B9_0:MC:=(.seq (.seq (.reg [mi 16 4,fI 17 1 1,lJ 18 17 1,nI 19 18 false,oI 20 .lss 16 19,mi 21 20,gT 22 21 (.mv (.t 4)),gT 23 21 (.bin .lss (.t 22) (ic 6)),qi 24 (.pick (.t 21) (.t 23) (.c (.bool false)))] [] [1,2,3,4,24] [1,2,3,36,58,1008,1011,1014]) (.cond (.t 24) .skip (.exit 0))) (.seq (.block 1 (.reg [fI 27 3 1,lJ 28 27 1,fI 29 1 1,lJ 30 29 1,mi 31 4,qi 32 (.ia (.t 30) (.t 31) 1),lJ 33 32 1,cI 34 28 [.t 33],⟨some 35,none,.lits [.t 34] 1⟩,⟨some 36,none,.app (.t 28) (.t 35) 1 16⟩,fI 37 3 1,⟨none,none,.st (.t 37) (.t 36) 1⟩] [] [1,2,3,4] [1,2,3,36,58,1008,1011,1014])) (.reg [mi 25 4,oJ 26 .add 25 1,mi 4 26] [] [1,2,3,4] [1,2,3,36,58,1008,1011,1014])))
def B9_1:MC:=(.seq (.seq (.reg [mi 38 5,fI 39 1 2,lJ 40 39 1,nI 41 40 false,oI 42 .lss 38 41,mi 43 42,gT 44 43 (.mv (.t 5)),gT 45 43 (.bin .lss (.t 44) (ic 7)),qi 46 (.pick (.t 43) (.t 45) (.c (.bool false)))] [] [1,2,3,5,46] [1,2,3,36,58,1008,1011,1014]) (.cond (.t 46) .skip (.exit 2))) (.seq (.block 3 (.reg [fI 49 3 2,lJ 50 49 1,fI 51 1 2,lJ 52 51 1,mi 53 5,qi 54 (.ia (.t 52) (.t 53) 6),lI 55 54 6,cI 56 30 [.t 55],⟨some 57,none,.lits [.t 56] 6⟩,⟨some 58,none,.app (.t 50) (.t 57) 6 88⟩,fI 59 3 2,⟨none,none,.st (.t 59) (.t 58) 1⟩] [] [1,2,3,5] [1,2,3,36,58,1008,1011,1014])) (.reg [mi 47 5,oJ 48 .add 47 1,mi 5 48] [] [1,2,3,5] [1,2,3,36,58,1008,1011,1014])))
def R9_1:MC:=(.seq (.reg [lI 60 3 8,⟨none,none,.st (.t 2) (.t 60) 8⟩] [] [2] [2,36,58,1008,1011,1014]) .ret)
def R9_0:MC:=(.seq (.seq (.reg [kI 5 0] [] [1,2,3,5] [1,2,3,36,58,1008,1011,1014]) (.block 2 (.loop B9_1))) R9_1)
def M9:MC:=(.seq (.reg [vI 1 0,aI 2 [.pv (.sc (.string ⟨#[]⟩)),.e0,.e0,.pv (.sc (.string ⟨#[]⟩)),.pv (.sc (.string ⟨#[]⟩)),.pv (.sc (.int .i64 0)),.pv (.sc (.int .i64 0)),.pv (.sc (.int .i64 0))]] [] [1,2] [1,2,36,58,1008,1011,1014]) (.seq (.seq (.grp [3,1008,1011,1014] [⟨6,none,.q (.fa (.t 1) 0),[1],[1]⟩,⟨7,none,.q (.ld (.t 6) 1 false),[6],[1]⟩,⟨8,none,.call (.f 28) [.t 7],[7],[]⟩,⟨9,none,.q (.fa (.t 1) 3),[1],[1]⟩,⟨10,none,.q (.ld (.t 9) 1 false),[9],[1]⟩,⟨11,none,.call (.f 28) [.t 10],[10],[]⟩,⟨12,none,.q (.fa (.t 1) 4),[1],[1]⟩,⟨13,none,.q (.ld (.t 12) 4 true),[12],[1]⟩,⟨14,none,.call (.f 29) [.t 13],[13],[]⟩,⟨15,none,.q (.mk [.pv (.sc (.string ⟨#[]⟩)),.e0,.e0,.pv (.sc (.string ⟨#[]⟩)),.pv (.sc (.string ⟨#[]⟩)),.pv (.sc (.int .i64 0)),.pv (.sc (.int .i64 0)),.pv (.sc (.int .i64 0))] [(0,1,(.t 8)),(3,1,(.t 11)),(4,4,(.t 14))]),[8,11,14],[1008,1011,1014]⟩,⟨3,none,.alloc [.pv (.sc (.string ⟨#[]⟩)),.e0,.e0,.pv (.sc (.string ⟨#[]⟩)),.pv (.sc (.string ⟨#[]⟩)),.pv (.sc (.int .i64 0)),.pv (.sc (.int .i64 0)),.pv (.sc (.int .i64 0))],[],[]⟩] [1,2,3,15] [1,2,3,36,58,1008,1011,1014]) (.reg [⟨none,none,.st (.t 3) (.t 15) 8⟩] [] [1,2,3] [1,2,3,36,58,1008,1011,1014])) (.seq (.seq (.reg [kI 4 0] [] [1,2,3,4] [1,2,3,36,58,1008,1011,1014]) (.block 0 (.loop B9_0))) R9_0)))
theorem c9:Cd 9 61 [RV.cell 2 8 true] M9:=cO [] (rz [(1,⟨[1,2,3],[1,2,3,36,58,1008,1011,1014],[(11,0)],2047,[],some ⟨[3,1008,1011,1014],[(0,[1],[1]),(1,[6],[1]),(2,[7],[]),(3,[1],[1]),(4,[9],[1]),(5,[10],[]),(6,[1],[1]),(7,[12],[1]),(8,[13],[]),(9,[8,11,14],[1008,1011,1014]),(10,[],[])],[1,2,3,15],[1,2,3,36,58,1008,1011,1014]⟩⟩)] [(5,[(0,3587),(1,3586),(2,4076),(3,4072),(4,4080),(5,4064),(6,4032),(7,0),(8,0),(9,0),(10,3072),(11,0)],1535),(9,[(0,3587),(1,3586),(2,4076),(3,4072),(4,4080),(5,4064),(6,4032),(7,0),(8,0),(9,0),(10,3072),(11,0)],1535)] [0,0,2,3,4,5,6,7,8,9,10] M9) Tryz.func9 (by kernel_rfl) Tryz.ntmps9
def M4:MC:=(.seq (.reg [vI 1 0,aI 2 [.pv (.sc (.int .u8 0)),.pv (.sc (.string ⟨#[]⟩)),.pv (.sc (.string ⟨#[]⟩)),.e0,.e0,.pv (.sc (.string ⟨#[]⟩)),.pv (.sc (.string ⟨#[]⟩)),.pv (.sc (.int .i64 0)),.pv (.sc (.int .i64 0)),.pv (.sc (.int .i64 0)),.pv (.sc (.bool false)),.pv (.sc (.int .i64 0))]] [] [1,2] [1,2,1013]) (.seq (.seq (.reg [fI 3 1 1,lJ 4 3 1,nI 5 4 true,oJ 6 .gtr 5 900] [] [1,2,6] [1,2,1013]) (.cond (.t 6) (.reg [fI 7 1 1,lJ 8 7 1,qi 9 (.slc (.t 8) none (some (ic 900)) 0 true),fI 10 1 1,⟨none,none,.st (.t 10) (.t 9) 1⟩] [] [1,2] [1,2,1013]) .skip)) (.seq (.reg [fI 11 1 2,lI 12 11 8,cI 13 9 [.t 12],fI 14 1 2,⟨none,none,.st (.t 14) (.t 13) 8⟩] [] [1,2] [1,2,1013]) (.seq (.reg [lI 15 1 12,⟨none,none,.st (.t 2) (.t 15) 12⟩] [] [2] [2,1013]) .ret))))
theorem c4:Cd 4 16 [RV.cell 2 12 true] M4:=cO [] (rn [] [] 5 M4) Tryz.func4 (by kernel_rfl) Tryz.ntmps4
end Go.Vc

namespace Go.Vc
open Go.Proofs
set_option linter.unusedSimpArgs false
set_option linter.unusedVariables false
set_option maxRecDepth 10000
def LX (s:ByteArray):ByteArray:=if 8<s.size then s.extract 0 8 else s
def iV (f:Pd→Int→Pd×Int):List Pd→Nat→Int→List Pd×Int
 | [],_,r=>([],r)
 | _::_,0,r=>([],r)
 | p::l,n+1,r=>if 0<r then((f p r).1::(iV f l n (f p r).2).1,(iV f l n (f p r).2).2)else([],r)
def oZ:Nat→Pd→Int→Pd×Int
 | 0,p,r=>(⟨LX p.op,rK p.s,BC p.v,[]⟩,r-1)
 | d+1,p,r=>(⟨LX p.op,rK p.s,BC p.v,(iV (oZ d) p.l 3 (r-1)).1⟩,(iV (oZ d) p.l 3 (r-1)).2)
theorem DH (f:Pd→Int→Pd×Int):∀(l:List Pd) (n:Nat) (r:Int),(iV f l n r).1.length≤n
 | [],_,_=>by simp[iV]
 | _::_,0,_=>by simp[iV]
 | p::l,n+1,r=>by
  unfold iV
  split
  ·simp only[List.length_cons];have:=DH f l n (f p r).2;omega
  ·simp
theorem DI {f:Pd→Int→Pd×Int} {Q:Pd→Prop} (hf:∀p r,Q (f p r).1):∀(l:List Pd) (n:Nat) (r:Int),∀q∈(iV f l n r).1,Q q
 | [],_,_=>by simp[iV]
 | _::_,0,_=>by simp[iV]
 | p::l,n+1,r=>by
  unfold iV
  split
  ·intro q hq
   rcases List.mem_cons.1 hq with rfl|hq
   ·exact hf p r
   ·exact DI hf l n _ q hq
  ·simp
theorem Ah:∀(d:Nat) (p:Pd) (r:Int),SmP (oZ d p r).1
 | 0,p,r=>.mk (Nat.zero_le _) (fun q hq=>by simp only[oZ,Pd.l]at hq;cases hq)
 | d+1,p,r=>.mk (by simp only[oZ];exact DH _ _ _ _) (by simp only[oZ];exact DI (Ah d) _ _ _)
theorem Bo {f:Pd→Int→Pd×Int} (hf:∀p r,1≤r→0≤(f p r).2∧(f p r).2≤r):∀(l:List Pd) (n:Nat) (r:Int),0≤r→0≤(iV f l n r).2∧(iV f l n r).2≤r
 | [],_,r,h=>by simp[iV,h]
 | _::_,0,r,h=>by simp[iV,h]
 | p::l,n+1,r,h=>by
  unfold iV
  split
  ·rename_i h0
   obtain⟨a,b⟩:=hf p r (by omega)
   have:=Bo hf l n (f p r).2 a
   simp only
   omega
  ·simp[h]
theorem Bn:∀(d:Nat) (p:Pd) (r:Int),1≤r→0≤(oZ d p r).2∧(oZ d p r).2≤r
 | 0,p,r,h=>by simp only[oZ];omega
 | d+1,p,r,h=>by
  have:=Bo (Bn d) p.l 3 (r-1) (by omega)
  simp only[oZ];omega
theorem LE {f:Pd→Int→Pd×Int} {l:List Pd} {i n:Nat} {r:Int} (h:i<l.length) (hr:0<r):iV f (l.drop i) (n+1) r=((f l[i] r).1::(iV f (l.drop (i+1)) n (f l[i] r).2).1,(iV f (l.drop (i+1)) n (f l[i] r).2).2):=by
 rw[List.drop_eq_getElem_cons h,iV,if_pos hr]
theorem FP (l:List Pd) (q:Pd):l.map Pd.pv++[.agg q.c]=(l++[q]).map Pd.pv:=by rw[List.map_append,List.map_singleton,Pd.pv_eq]
abbrev Q5 (p:Pd):Row:=.box [.pv (pS p.op),.pv (pS p.s),.pv (pB p.v.num),.pv (pI p.v.n),.pv (pS p.v.s),.pv (.lst (p.l.map Pd.pv))]
abbrev Q4:Row:=.box [.pv (.sc (.string ⟨#[]⟩)),.pv (.sc (.string ⟨#[]⟩)),.pv (.sc (.bool false)),.pv (.sc (.int .i64 0)),.pv (.sc (.string ⟨#[]⟩)),.e0]
abbrev OD (p:Pd) (v:AV):Row:=.box [.pv (pS (LX p.op)),.pv (pS (rK p.s)),.pv (pB (BC p.v).num),.pv (pI (BC p.v).n),.pv (pS (BC p.v).s),v]
theorem Bm (d:Nat) (p:Pd) (r:Int) (h1:1≤r) (h2:r≤1000) (V:AV)
  (h:run Tryz.prog (uL [RV.cell 6 6 true,RV.tmp 7] [] V []) (.loop B81_0) [KI.blk 0,KI.code R81_0] ⟨[(1,.pv (pI d)),(2,.pv (pI (r-1))),(3,.ptr 3 0),(6,.ptr 6 0),(8,.ptr 8 0),(9,.pv (pI 0))],[(3,Q5 p),(6,Q4),(8,OD p .e0)]⟩):
  Fn Tryz.prog 81 [.agg p.c,pI d,pI r] V []:=by
 refine c81.r [] (by simp) ?_
 simp only[go_sem,M81]
 refine cC (by simp only[go_sem]) rfl (Ku p.s) (.inl rfl) trivial ?_
 simp only[go_sem]
 refine cC (by simp only[go_sem]) rfl (Qu p.v) (.inl rfl) trivial ?_
 simp only[go_sem]
 refine⟨fun hs=>⟨by omega,⟨by omega,by omega⟩,?_⟩,fun hs=>⟨⟨by omega,by omega⟩,?_⟩⟩
 ·have e:LX p.op=p.op.extract 0 8:=by unfold LX;rw[if_pos (by omega)]
  simp only[OD,e]at h
  exact h
 ·have e:LX p.op=p.op:=by unfold LX;rw[if_neg (by omega)]
  simp only[OD,e]at h
  exact h
theorem vK {f:Pd→Int→Pd×Int} {l:List Pd} {n:Nat} {r:Int} (h:l=[]∨n=0∨¬0<r):iV f l n r=([],r):=by
 cases l with
 | nil=>rfl
 | cons a l=>
  cases n with
  | zero=>rfl
  | succ n=>
   rcases h with h|h|h
   ·cases h
   ·cases h
   ·rw[iV,if_neg h]
theorem Rp:∀(d:Nat),d≤1000→∀(p:Pd) (r:Int),1≤r→r≤1000→Fn Tryz.prog 81 [.agg p.c,pI d,pI r] (.pv (.tup [.agg (oZ d p r).1.c,pI (oZ d p r).2])) []:=by
 intro d
 induction d with
 | zero=>
  intro _ p r h1 h2
  refine Bm 0 p r h1 h2 _ ?_
  refine aZ (T:=Unit) (fun _=>⟨[(1,.pv (pI (0:Nat))),(2,.pv (pI (r-1))),(3,.ptr 3 0),(6,.ptr 6 0),(8,.ptr 8 0),(9,.pv (pI 0))],[(3,Q5 p),(6,Q4),(8,OD p .e0)]⟩) (fun _=>True) (fun _=>0) () rfl trivial ?_
  intro _ _
  by_cases hl:0<p.l.length
  ·simp only[go_sem,B81_0,R81_0,show(0:Int)<(p.l.length:Int)by omega]
   rfl
  ·simp only[go_sem,B81_0,R81_0,show ¬(0:Int)<(p.l.length:Int)by omega]
   rfl
 | succ d ih=>
  intro hd p r h1 h2
  refine Bm (d+1) p r h1 h2 _ ?_
  have ih:=ih (by omega)
  have hroom:=Bn d
  have hF:(oZ (d+1) p r)=(⟨LX p.op,rK p.s,BC p.v,(iV (oZ d) p.l 3 (r-1)).1⟩,(iV (oZ d) p.l 3 (r-1)).2):=rfl
  rw[hF]
  generalize oZ d=f at ih hroom ⊢
  refine u7 (T:=Nat×List Pd×Int) (fun _=>[]) (fun _=>[(8,5,66,6)]) [1,2,3,6,8,9] [3,6,8,66]
   (fun t=>⟨[(1,.pv (pI ((d+1:Nat):Int))),(2,.pv (pI t.2.2)),(3,.ptr 3 0),(6,.ptr 6 0),(8,.ptr 8 0),(9,.pv (pI t.1))],[(3,Q5 p),(6,Q4),(8,OD p (.row 66 0 t.1)),(66,.sl 6 (t.2.1.map Pd.pv))]⟩)
   (fun t=>t.1≤p.l.length∧t.1≤3∧t.2.1.length=t.1∧0≤t.2.2∧t.2.2≤1000∧iV f p.l 3 (r-1)=(t.2.1++(iV f (p.l.drop t.1) (3-t.1) t.2.2).1,(iV f (p.l.drop t.1) (3-t.1) t.2.2).2))
   (fun t=>3-t.1) (0,[],r-1) ?_ ⟨Nat.zero_le _,Nat.zero_le _,rfl,by simp only;omega,by simp only;omega,by simp⟩ ?_
  ·simp only[go_sem]
   skip
  rintro⟨i,L,q⟩ ⟨g1,g2,g3,g4,g5,g6⟩
  simp only at g1 g2 g3 g4 g5 g6
  rw[g6]
  by_cases hi:i<p.l.length
  ·by_cases h3:i<3
   ·by_cases hq:0<q
    ·have hpq:=Pd.pv_eq p.l[i]
     simp only[go_sem,B81_0,mB,aK hi,hpq,hq,show(i:Int)<(p.l.length:Int)by omega,show(i:Int)<3 by omega,show(0:Int)<((d+1:Nat):Int)by omega,show((d+1:Nat):Int)-1=(d:Int)by omega]
     refine⟨⟨by omega,by omega⟩,?_⟩
     refine aC (by simp only[go_sem]) rfl (ih p.l[i] q (by omega) (by omega)) (.inl rfl) trivial ?_
     simp only[go_sem]
     obtain⟨hr1,hr2⟩:=hroom p.l[i] q (by omega)
     have hat:=LE (f:=f) (n:=2-i) hi hq
     rw[show 2-i+1=3-i by omega]at hat
     rw[hat]
     generalize f p.l[i] q=u at hr1 hr2 hat ⊢
     have hw:=mB [u.1]
     rw[List.map_singleton,Pd.pv_eq]at hw
     refine⟨⟨hw,by omega,by omega⟩,⟨by omega,by omega⟩,(i+1,L++[u.1],u.2),?_,⟨by simp only;omega,by simp only;omega,by simp only[List.length_append,List.length_singleton];omega,hr1,by simp only;omega,?_⟩,by simp only;omega⟩
     ·simp only[←FP,List.take_of_length_le (show(List.map Pd.pv L).length≤i by rw[List.length_map];omega)]
      rfl
     ·simp only[List.append_assoc,List.singleton_append,show 3-(i+1)=2-i by omega]
    ·rw[vK (.inr (.inr hq)),List.append_nil]
     simp only[go_sem,B81_0,R81_0,hq,show(i:Int)<(p.l.length:Int)by omega,show(i:Int)<3 by omega]
     rw[List.take_of_length_le (by rw[List.length_map];omega)]
     rfl
   ·rw[vK (.inr (.inl (by omega))),List.append_nil]
    simp only[go_sem,B81_0,R81_0,show(i:Int)<(p.l.length:Int)by omega,show ¬(i:Int)<3 by omega]
    rw[List.take_of_length_le (by rw[List.length_map];omega)]
    rfl
  ·rw[vK (.inl (List.drop_eq_nil_of_le (by omega))),List.append_nil]
   simp only[go_sem,B81_0,R81_0,show ¬(i:Int)<(p.l.length:Int)by omega]
   rw[List.take_of_length_le (by rw[List.length_map];omega)]
   rfl
def AO (p:Pd):Pd:=(oZ 9 p 50).1
theorem RK (p:Pd):Fn Tryz.prog 30 [.agg p.c] (.pv (.agg (AO p).c)) []:=by
 refine c30.r [] (by simp) ?_
 simp only[go_sem,M30]
 refine aC (by simp only[go_sem]) rfl (Rp 9 (by decide) p 50 (by decide) (by decide)) (.inl rfl) trivial ?_
 simp only[go_sem]
 rfl
end Go.Vc

namespace Go.Vc
open Go.Proofs
set_option linter.unusedSimpArgs false
set_option linter.unusedVariables false
set_option maxRecDepth 10000
def CM (d:Df):Df:=⟨rK d.name,(d.globs.take 6).map rK,(d.wh.take 7).map AO,rK d.key,pM d.j⟩
theorem Ai (d:Df):SmD (CM d):=⟨by simp[CM];omega,by simp[CM];omega,fun p hp=>by
 simp only[CM]at hp
 obtain⟨q,_,rfl⟩:=List.mem_map.1 hp
 exact Ah _ _ _⟩
abbrev Q0 (d:Df) (a b:AV):Row:=.box [.pv (pS (rK d.name)),a,b,.pv (pS (rK d.key)),.pv (pS (pM d.j).kind),.pv (pI (pM d.j).parts),.pv (pI (pM d.j).need),.pv (pI (pM d.j).window)]
abbrev Q1 (d:Df):Row:=.box [.pv (pS d.name),.pv (ss d.globs),.pv (HF d.wh),.pv (pS d.key),.pv (pS d.j.kind),.pv (pI d.j.parts),.pv (pI d.j.need),.pv (pI d.j.window)]
abbrev QZ:Row:=.box [.pv (.sc (.string ⟨#[]⟩)),.e0,.e0,.pv (.sc (.string ⟨#[]⟩)),.pv (.sc (.string ⟨#[]⟩)),.pv (.sc (.int .i64 0)),.pv (.sc (.int .i64 0)),.pv (.sc (.int .i64 0))]
theorem Sa (d:Df):Fn Tryz.prog 9 [d.pv] (.pv (CM d).pv) []:=by
 refine c9.r [] (by simp) ?_
 simp only[go_sem,M9]
 refine cC (by simp only[go_sem]) rfl (Ku d.name) (.inl rfl) trivial ?_
 simp only[go_sem]
 refine cC (by simp only[go_sem]) rfl (Ku d.key) (.inl rfl) trivial ?_
 simp only[go_sem]
 refine cC (by simp only[go_sem]) rfl (RL d.j) (.inl rfl) trivial ?_
 simp only[go_sem]
 refine u7 (T:=Nat) (fun _=>[]) (fun _=>[(3,1,36,1)]) [1,2,3,4] [1,2,3,36]
  (fun i=>⟨[(1,.ptr 1 0),(2,.ptr 2 0),(3,.ptr 3 0),(4,.pv (pI i))],[(1,Q1 d),(2,QZ),(3,Q0 d (.row 36 0 i) .e0),(36,.sl 1 (((d.globs.take i).map rK).map pS))]⟩)
  (fun i=>i≤d.globs.length∧i≤6) (fun i=>6-i) 0 ?_ ⟨Nat.zero_le _,Nat.zero_le _⟩ ?_
 ·simp only[go_sem]
 rintro i ⟨g1,g2⟩
 have fin:∀(k:Nat) (v:AV),(k=d.globs.length∨k=6)→k≤d.globs.length→k≤6→run Tryz.prog (uL [RV.cell 2 8 true] [] (.pv (CM d).pv) []) R9_0 [] ⟨[(1,.ptr 1 0),(2,.ptr 2 0),(3,.ptr 3 0),(4,.pv (pI k)),(24,v)],[(1,Q1 d),(2,QZ),(3,Q0 d (.row 36 0 k) .e0),(36,.sl 1 (((d.globs.take k).map rK).map pS))]⟩:=by
  intro k v hk hkl hk6
  have hkk:d.globs.take k=d.globs.take 6:=by
   rcases hk with rfl|rfl
   ·rw[List.take_length,List.take_of_length_le hk6]
   ·rfl
  simp only[go_sem,R9_0]
  refine u7 (T:=Nat) (fun _=>[]) (fun _=>[(3,2,58,6)]) [1,2,3,5] [1,2,3,36,58]
   (fun j=>⟨[(1,.ptr 1 0),(2,.ptr 2 0),(3,.ptr 3 0),(5,.pv (pI j))],[(1,Q1 d),(2,QZ),(3,Q0 d (.row 36 0 k) (.row 58 0 j)),(36,.sl 1 (((d.globs.take k).map rK).map pS)),(58,.sl 6 (((d.wh.take j).map AO).map Pd.pv))]⟩)
   (fun j=>j≤d.wh.length∧j≤7) (fun j=>7-j) 0 ?_ ⟨Nat.zero_le _,Nat.zero_le _⟩ ?_
  ·simp only[go_sem]
  rintro j ⟨b1,b2⟩
  have fin2:∀(v:AV),(j=d.wh.length∨j=7)→run Tryz.prog (uL [RV.cell 2 8 true] [] (.pv (CM d).pv) []) R9_1 [] ⟨[(1,.ptr 1 0),(2,.ptr 2 0),(3,.ptr 3 0),(5,.pv (pI j)),(46,v)],[(1,Q1 d),(2,QZ),(3,Q0 d (.row 36 0 k) (.row 58 0 j)),(36,.sl 1 (((d.globs.take k).map rK).map pS)),(58,.sl 6 (((d.wh.take j).map AO).map Pd.pv))]⟩:=by
   intro v hj
   have hjj:d.wh.take j=d.wh.take 7:=by
    rcases hj with rfl|rfl
    ·rw[List.take_length,List.take_of_length_le b2]
    ·rfl
   simp only[go_sem,R9_1]
   rw[List.take_of_length_le (i:=k) (by simp;omega),List.take_of_length_le (i:=j) (by simp;omega),hkk,hjj]
   rfl
  by_cases hi:j<d.wh.length
  ·by_cases h6:j<7
   ·have hpq:=Pd.pv_eq d.wh[j]
    simp only[go_sem,B9_1,mB,aK hi,hpq,show(j:Int)<(d.wh.length:Int)by omega,show(j:Int)<7 by omega]
    refine aC (by simp only[go_sem]) rfl (RK d.wh[j]) (.inl rfl) trivial ?_
    simp only[go_sem]
    have hw:=mB [AO d.wh[j]]
    rw[List.map_singleton,Pd.pv_eq]at hw
    refine⟨⟨hw,by omega,by omega⟩,⟨by omega,by omega⟩,j+1,?_,by omega,by omega⟩
    rw[List.take_of_length_le (i:=j) (by simp;omega),FP,List.take_succ_eq_append_getElem hi,List.map_append (f:=AO)]
    rfl
   ·simp only[go_sem,B9_1,show(j:Int)<(d.wh.length:Int)by omega,show ¬(j:Int)<7 by omega]
    exact fin2 _ (.inr (by omega))
  ·simp only[go_sem,B9_1,show ¬(j:Int)<(d.wh.length:Int)by omega]
   exact fin2 _ (.inl (by omega))
 by_cases hi:i<d.globs.length
 ·by_cases h6:i<6
  ·simp only[go_sem,B9_0,mQ,aK hi,show(i:Int)<(d.globs.length:Int)by omega,show(i:Int)<6 by omega]
   refine aC (by simp only[go_sem]) rfl (Ku d.globs[i]) (.inl rfl) trivial ?_
   simp only[go_sem]
   refine⟨⟨mQ [_],by omega,by omega⟩,⟨by omega,by omega⟩,i+1,?_,by omega,by omega⟩
   rw[List.take_of_length_le (i:=i) (by simp;omega),List.take_succ_eq_append_getElem hi,List.map_append (f:=rK),List.map_append]
   rfl
  ·simp only[go_sem,B9_0,show(i:Int)<(d.globs.length:Int)by omega,show ¬(i:Int)<6 by omega]
   exact fin _ _ (.inr (by omega)) g1 g2
 ·simp only[go_sem,B9_0,show ¬(i:Int)<(d.globs.length:Int)by omega]
  exact fin _ _ (.inl (by omega)) g1 g2
structure Oq where
 kind:Int
 s:ByteArray
 d:Df
 ok:Bool
 n:Int
abbrev Oq.pv (o:Oq):PV:=.agg [.sc (.int .u8 o.kind),pS o.s,pS o.d.name,ss o.d.globs,HF o.d.wh,pS o.d.key,pS o.d.j.kind,pI o.d.j.parts,pI o.d.j.need,pI o.d.j.window,pB o.ok,pI o.n]
def Ee (o:Oq):Oq:=⟨o.kind,if 900<o.s.size then o.s.extract 0 900 else o.s,CM o.d,o.ok,o.n⟩
theorem Sd (o:Oq):Fn Tryz.prog 4 [o.pv] (.pv (Ee o).pv) []:=by
 refine c4.r [] (by simp) ?_
 simp only[go_sem,M4]
 have h9:=Sa o.d
 unfold Ee
 refine⟨fun h=>⟨by omega,?_⟩,fun h=>?_⟩
 ·rw[if_pos (by omega)]
  refine aC (by simp only[go_sem]) rfl (h9) (.inl rfl) trivial ?_
  simp only[go_sem]
 ·rw[if_neg (by omega)]
  refine aC (by simp only[go_sem]) rfl (h9) (.inl rfl) trivial ?_
  simp only[go_sem]
end Go.Vc

namespace Go.Vc
open Go.Proofs
set_option maxRecDepth 100000
def M5:MC:=(.seq (.reg [vI 2 0,vI 3 1,aI 4 [.pv (.sc (.int .i64 0)),.e0,.e0,.e0,.pv (.sc (.int .i64 0)),.e0,.e0,.e0],kI 5 0,kI 6 0] [] [2,3,4] [2,3,4,1031,1041,1052,1065,1074,1087,1097,1115,1122,1131]) (.seq (.seq (.reg [fI 22 3 0,lJ 23 22 1,qi 24 (.bin .rem (.t 23) (.c (.int .u8 10)))] [] [2,3,4,24] [2,3,4,1031,1041,1052,1065,1074,1087,1097,1115,1122,1131]) (.block 0 (.seq (.seq (.reg [qi 26 (.bin .eql (.t 24) (.c (.int .u8 0))),mi 25 26] [] [2,3,4,24,25] [2,3,4,1031,1041,1052,1065,1074,1087,1097,1115,1122,1131]) (.cond (.t 25) .skip (.reg [qi 27 (.bin .eql (.t 24) (.c (.int .u8 1))),mi 25 27] [] [2,3,4,24,25] [2,3,4,1031,1041,1052,1065,1074,1087,1097,1115,1122,1131]))) (.cond (.t 25) (.seq (.reg [lI 28 2 8,fI 29 3 1,lJ 30 29 1,cI 31 10 [.t 28,.t 30],xI 32 31 0,xI 33 31 1,xI 34 31 2,⟨none,none,.st (.t 4) (.t 32) 8⟩,mi 5 33,mi 6 34] [] [4,5,6] [4,1031,1041,1052,1065,1074,1087,1097,1115,1122,1131]) .ret) (.seq (.reg [qi 36 (.bin .eql (.t 24) (.c (.int .u8 2))),mi 35 36] [] [2,3,4,24,35] [2,3,4,1031,1041,1052,1065,1074,1087,1097,1115,1122,1131]) (.cond (.t 35) (.seq (.reg [lI 38 2 8,fI 39 3 2,lI 40 39 8,cI 41 11 [.t 38,.t 40],mi 37 41,xI 42 37 0,xI 43 37 1,aI 7 [.pv (.sc (.int .i64 0)),.e0,.e0,.e0,.pv (.sc (.int .i64 0)),.e0,.e0,.e0],⟨none,none,.st (.t 7) (.t 42) 8⟩,mi 8 43] [] [4,7,8] [4,7,1031,1041,1052,1065,1074,1087,1097,1115,1122,1131]) (.seq (.reg [lI 44 7 8,mi 45 8,⟨none,none,.st (.t 4) (.t 44) 8⟩,kI 5 0,mi 6 45] [] [4,5,6] [4,1031,1041,1052,1065,1074,1087,1097,1115,1122,1131]) .ret)) (.seq (.reg [qi 47 (.bin .eql (.t 24) (.c (.int .u8 3))),mi 46 47] [] [2,3,4,24,46] [2,3,4,1031,1041,1052,1065,1074,1087,1097,1115,1122,1131]) (.cond (.t 46) (.seq (.reg [lI 49 2 8,fI 50 3 1,lJ 51 50 1,cI 52 12 [.t 49,.t 51],mi 48 52,xI 53 48 0,xI 54 48 1,aI 9 [.pv (.sc (.int .i64 0)),.e0,.e0,.e0,.pv (.sc (.int .i64 0)),.e0,.e0,.e0],⟨none,none,.st (.t 9) (.t 53) 8⟩,mi 10 54] [] [4,9,10] [4,9,1031,1041,1052,1065,1074,1087,1097,1115,1122,1131]) (.seq (.reg [lI 55 9 8,mi 56 10,⟨none,none,.st (.t 4) (.t 55) 8⟩,kI 5 0,mi 6 56] [] [4,5,6] [4,1031,1041,1052,1065,1074,1087,1097,1115,1122,1131]) .ret)) (.seq (.seq (.reg [qi 58 (.bin .eql (.t 24) (.c (.int .u8 4))),mi 57 58] [] [2,3,4,24,57] [2,3,4,1031,1041,1052,1065,1074,1087,1097,1115,1122,1131]) (.cond (.t 57) .skip (.reg [qi 59 (.bin .eql (.t 24) (.c (.int .u8 5))),mi 57 59] [] [2,3,4,24,57] [2,3,4,1031,1041,1052,1065,1074,1087,1097,1115,1122,1131]))) (.cond (.t 57) (.seq (.reg [lI 60 2 8,fI 61 3 1,lJ 62 61 1,fI 63 3 10,lJ 64 63 1,cI 65 13 [.t 60,.t 62,.t 64],xI 66 65 0,xI 67 65 1,xI 68 65 2,⟨none,none,.st (.t 4) (.t 66) 8⟩,mi 5 67,mi 6 68] [] [4,5,6] [4,1031,1041,1052,1065,1074,1087,1097,1115,1122,1131]) .ret) (.seq (.reg [qi 70 (.bin .eql (.t 24) (.c (.int .u8 6))),mi 69 70] [] [2,3,4,24,69] [2,3,4,1031,1041,1052,1065,1074,1087,1097,1115,1122,1131]) (.cond (.t 69) (.seq (.reg [lI 71 2 8,fI 72 3 1,lJ 73 72 1,cI 74 14 [.t 71,.t 73],xI 75 74 0,xI 76 74 1,xI 77 74 2,⟨none,none,.st (.t 4) (.t 75) 8⟩,mi 5 76,mi 6 77] [] [4,5,6] [4,1031,1041,1052,1065,1074,1087,1097,1115,1122,1131]) .ret) (.seq (.reg [qi 79 (.bin .eql (.t 24) (.c (.int .u8 7))),mi 78 79] [] [2,3,4,24,78] [2,3,4,1031,1041,1052,1065,1074,1087,1097,1115,1122,1131]) (.cond (.t 78) (.seq (.seq (.reg [fI 80 3 10,lJ 81 80 1] [] [2,3,4,81] [2,3,4,1031,1041,1052,1065,1074,1087,1097,1115,1122,1131]) (.cond (.t 81) (.seq (.reg [lI 83 2 8,fI 84 3 11,lJ 85 84 1,qi 86 (.cvw .u64 (.t 85)),cI 87 15 [.t 83,.t 86],mi 82 87,xI 88 82 0,xI 89 82 1,aI 11 [.pv (.sc (.int .i64 0)),.e0,.e0,.e0,.pv (.sc (.int .i64 0)),.e0,.e0,.e0],⟨none,none,.st (.t 11) (.t 88) 8⟩,mi 12 89] [] [4,11,12] [4,11,1031,1041,1052,1065,1074,1087,1097,1115,1122,1131]) (.seq (.reg [lI 90 11 8,mi 91 12,⟨none,none,.st (.t 4) (.t 90) 8⟩,kI 5 0,mi 6 91] [] [4,5,6] [4,1031,1041,1052,1065,1074,1087,1097,1115,1122,1131]) .ret)) .skip)) (.seq (.reg [lI 93 2 8,fI 94 3 11,lJ 95 94 1,qi 96 (.cvw .u64 (.t 95)),cI 97 16 [.t 93,.t 96],mi 92 97,xI 98 92 0,xI 99 92 1,xI 100 92 2,aI 13 [.pv (.sc (.int .i64 0)),.e0,.e0,.e0,.pv (.sc (.int .i64 0)),.e0,.e0,.e0],⟨none,none,.st (.t 13) (.t 98) 8⟩,mi 14 99,mi 15 100] [] [4,13,14,15] [4,13,1031,1041,1052,1065,1074,1087,1097,1115,1122,1131]) (.seq (.seq (.reg [mi 101 14] [] [4,13,15,101] [4,13,1031,1041,1052,1065,1074,1087,1097,1115,1122,1131]) (.cond (.t 101) (.seq (.reg [lI 102 13 8,mi 103 15,⟨none,none,.st (.t 4) (.t 102) 8⟩,kI 5 1,mi 6 103] [] [4,5,6] [4,1031,1041,1052,1065,1074,1087,1097,1115,1122,1131]) .ret) .skip)) (.seq (.reg [lI 104 13 8,mi 105 15,⟨none,none,.st (.t 4) (.t 104) 8⟩,kI 5 0,mi 6 105] [] [4,5,6] [4,1031,1041,1052,1065,1074,1087,1097,1115,1122,1131]) .ret)))) (.seq (.reg [qi 107 (.bin .eql (.t 24) (.c (.int .u8 8))),mi 106 107] [] [2,3,4,106] [2,3,4,1031,1041,1052,1065,1074,1087,1097,1115,1122,1131]) (.cond (.t 106) (.seq (.seq (.reg [fI 108 3 10,lJ 109 108 1] [] [2,3,4,109] [2,3,4,1031,1041,1052,1065,1074,1087,1097,1115,1122,1131]) (.cond (.t 109) (.seq (.reg [lI 111 2 8,fI 112 3 11,lJ 113 112 1,qi 114 (.cvw .u64 (.t 113)),cI 115 17 [.t 111,.t 114],mi 110 115,xI 116 110 0,xI 117 110 1,aI 16 [.pv (.sc (.int .i64 0)),.e0,.e0,.e0,.pv (.sc (.int .i64 0)),.e0,.e0,.e0],⟨none,none,.st (.t 16) (.t 116) 8⟩,mi 17 117] [] [4,16,17] [4,16,1031,1041,1052,1065,1074,1087,1097,1115,1122,1131]) (.seq (.reg [lI 118 16 8,mi 119 17,⟨none,none,.st (.t 4) (.t 118) 8⟩,kI 5 0,mi 6 119] [] [4,5,6] [4,1031,1041,1052,1065,1074,1087,1097,1115,1122,1131]) .ret)) .skip)) (.seq (.reg [lI 121 2 8,cI 122 18 [.t 121],mi 120 122,xI 123 120 0,xI 124 120 1,aI 18 [.pv (.sc (.int .i64 0)),.e0,.e0,.e0,.pv (.sc (.int .i64 0)),.e0,.e0,.e0],⟨none,none,.st (.t 18) (.t 123) 8⟩,mi 19 124] [] [4,18,19] [4,18,1031,1041,1052,1065,1074,1087,1097,1115,1122,1131]) (.seq (.reg [lI 125 18 8,mi 126 19,⟨none,none,.st (.t 4) (.t 125) 8⟩,kI 5 0,mi 6 126] [] [4,5,6] [4,1031,1041,1052,1065,1074,1087,1097,1115,1122,1131]) .ret))) .skip)))))))))))))))) (.seq (.reg [lI 128 2 8,fI 129 3 11,lJ 130 129 1,cI 131 19 [.t 128,.t 130],mi 127 131,xI 132 127 0,xI 133 127 1,aI 20 [.pv (.sc (.int .i64 0)),.e0,.e0,.e0,.pv (.sc (.int .i64 0)),.e0,.e0,.e0],⟨none,none,.st (.t 20) (.t 132) 8⟩,mi 21 133] [] [4,20,21] [4,20,1031,1041,1052,1065,1074,1087,1097,1115,1122,1131]) (.seq (.reg [lI 134 20 8,mi 135 21,⟨none,none,.st (.t 4) (.t 134) 8⟩,kI 5 0,mi 6 135] [] [4,5,6] [4,1031,1041,1052,1065,1074,1087,1097,1115,1122,1131]) .ret))))
theorem c5:Cd 5 136 [RV.cell 4 8 true,RV.tmp 5,RV.tmp 6] M5:=cO [86,96,114] (rn [] [] 32 M5) Tryz.func5 (by kernel_rfl) Tryz.ntmps5
end Go.Vc

namespace Go.Vc
open Go.Proofs
set_option linter.unusedSimpArgs false
set_option linter.unusedVariables false
set_option maxRecDepth 10000
abbrev u64 (n:Int):Int:=IntKind.u64.wrap n
inductive DoP (s:Ro) (o:Oq):Ro×Int×Int→Prop
 | pub (h:o.kind%10=0∨o.kind%10=1):DoP s o (D9 s o.s)
 | sub (h:o.kind%10=2):DoP s o ((D8 s o.d).1,0,(D8 s o.d).2)
 | unsub (h:o.kind%10=3):DoP s o ((mC s o.s).1,0,(mC s o.s).2)
 | step (h:o.kind%10=4∨o.kind%10=5) (r:Ro×Int×Int) (hr:StepP s o.s o.ok r):DoP s o r
 | red (h:o.kind%10=6) (r:Ro×Int×Int) (hr:RedP s o.s r):DoP s o r
 | ack (h:o.kind%10=7):DoP s o ((Eg s (u64 o.n)).1,0,(Eg s (u64 o.n)).2)
 | nack (h:o.kind%10=7) (w:Int):DoP s o ((tB s (u64 o.n)).1,w,(tB s (u64 o.n)).2.2)
 | resend (h:o.kind%10=8):DoP s o ((nX s (u64 o.n)).1,0,(nX s (u64 o.n)).2)
 | retain (h:o.kind%10=8):DoP s o (xE s,0,0)
 | tick (h:o.kind%10=9):DoP s o ((x4 s o.n).1,0,(x4 s o.n).2)
set_option maxHeartbeats 2000000 in
theorem Sc (s:Ro) (o:Oq) (h:RoOk s) (hp:∀x∈s.su,x.passes≤1000000000000) (hs:o.s.size≤1000) (hd:SmD o.d) (hk:0≤o.kind∧o.kind≤255):∃r,DoP s o r∧Fn Tryz.prog 5 [s.pv,o.pv] (.pv (.tup [r.1.pv,pI r.2.1,pI r.2.2])) []:=by
 obtain⟨k,hkk⟩:∃k,k=o.kind%10:=⟨_,rfl⟩
 have hk0:0≤k∧k≤9:=by omega
 have hrem:o.kind.tmod 10=k:=by rw[hkk];exact Int.tmod_eq_emod_of_nonneg hk.1
 by_cases c0:k=0
 ·refine⟨_,.pub (.inl (by omega)),c5.r [] (by simp) ?_⟩
  simp only[go_sem,M5,hrem,c0]
  refine aC (by simp only[go_sem]) rfl (O3 s o.s h hs) (.inl rfl) trivial ?_
  simp only[go_sem]
 by_cases c1:k=1
 ·refine⟨_,.pub (.inr (by omega)),c5.r [] (by simp) ?_⟩
  simp only[go_sem,M5,hrem,c1]
  refine aC (by simp only[go_sem]) rfl (O3 s o.s h hs) (.inl rfl) trivial ?_
  simp only[go_sem]
 by_cases c2:k=2
 ·refine⟨_,.sub (by omega),c5.r [] (by simp) ?_⟩
  simp only[go_sem,M5,hrem,c2]
  refine aC (by simp only[go_sem]) rfl (R0 s o.d h hd) (.inl rfl) trivial ?_
  simp only[go_sem]
 by_cases c3:k=3
 ·refine⟨_,.unsub (by omega),c5.r [] (by simp) ?_⟩
  simp only[go_sem,M5,hrem,c3]
  refine aC (by simp only[go_sem]) rfl (RZ s o.s h) (.inl rfl) trivial ?_
  simp only[go_sem]
 by_cases c4:k=4∨k=5
 ·obtain⟨r,hr,h13⟩:=RY s o.s o.ok h hp
  refine⟨r,.step (by omega) r hr,c5.r [] (by simp) ?_⟩
  rcases c4 with c4|c4
  ·simp only[go_sem,M5,hrem,c4]
   refine aC (by simp only[go_sem]) rfl (h13) (.inl rfl) trivial ?_
   simp only[go_sem]
  ·simp only[go_sem,M5,hrem,c4]
   refine aC (by simp only[go_sem]) rfl (h13) (.inl rfl) trivial ?_
   simp only[go_sem]
 by_cases c6:k=6
 ·obtain⟨r,hr,h14⟩:=RX s o.s h hp
  refine⟨r,.red (by omega) r hr,c5.r [] (by simp) ?_⟩
  simp only[go_sem,M5,hrem,c6]
  refine aC (by simp only[go_sem]) rfl (h14) (.inl rfl) trivial ?_
  simp only[go_sem]
 by_cases c7:k=7
 ·cases hok:o.ok with
  | true=>
   refine⟨_,.ack (by omega),c5.r [] (by simp) ?_⟩
   simp only[go_sem,M5,hrem,c7,hok]
   refine aC (by simp only[go_sem]) rfl (RW s (u64 o.n) h) (.inl rfl) trivial ?_
   simp only[go_sem]
  | false=>
   refine⟨_,.nack (by omega) (if(tB s (u64 o.n)).2.1=true then 1 else 0),c5.r [] (by simp) ?_⟩
   simp only[go_sem,M5,hrem,c7,hok]
   refine aC (by simp only[go_sem]) rfl (RU s (u64 o.n) h) (.inl rfl) trivial ?_
   simp only[go_sem]
   exact⟨fun h=>by rw[if_pos h],fun h=>by rw[if_neg (by rw[h];simp)]⟩
 by_cases c8:k=8
 ·cases hok:o.ok with
  | true=>
   refine⟨_,.resend (by omega),c5.r [] (by simp) ?_⟩
   simp only[go_sem,M5,hrem,c8,hok]
   refine aC (by simp only[go_sem]) rfl (RT s (u64 o.n) h) (.inl rfl) trivial ?_
   simp only[go_sem]
  | false=>
   refine⟨_,.retain (by omega),c5.r [] (by simp) ?_⟩
   simp only[go_sem,M5,hrem,c8,hok]
   refine aC (by simp only[go_sem]) rfl (RS s h) (.inl rfl) trivial ?_
   simp only[go_sem]
 have c9:k=9:=by omega
 refine⟨_,.tick (by omega),c5.r [] (by simp) ?_⟩
 simp only[go_sem,M5,hrem,c9]
 refine aC (by simp only[go_sem]) rfl (RR s o.n h) (.inl rfl) trivial ?_
 simp only[go_sem]
end Go.Vc

namespace Go.Vc
open Go.Proofs
set_option linter.unusedSimpArgs false
set_option linter.unusedVariables false
set_option maxRecDepth 10000
theorem CE {α:Type} {p:α→Bool} {l:List α} {k:Nat} (h:k<l.length):l.countP p=(l.eraseIdx k).countP p+if p l[k]=true then 1 else 0:=by
 conv=>lhs;rw[←List.take_append_drop k l,List.drop_eq_getElem_cons h]
 rw[List.eraseIdx_eq_take_drop_succ,List.countP_append,List.countP_append,List.countP_cons]
 omega
theorem NA {k:Int} {s:Ro} (h:RoOk s) (hb:RoB k s) (hk:k≤1000) {n:ByteArray} {r:Ro×Int×Int} (hr:RedP s n r):KeptR k s r.1:=by
 cases hr with
 | no h1=>exact .self h hb
 | none h1 h2=>exact .self h hb
 | red i j p hi hj hn hd h0 h1=>
  have hs1:RoOk { s with dead:=s.dead.eraseIdx j }:=F7 h (fun x hx=>(List.eraseIdx_sublist s.dead j).subset hx) (by have:=(List.eraseIdx_sublist s.dead j).length_le;have:=h.del;omega)
  have hb1:RoB k { s with dead:=s.dead.eraseIdx j }:=⟨hb.t,hb.su⟩
  have hbt:=hb.t
  have ht0:=h.t0
  have hT:=AS hs1 hb1 hk hi p (bS (cF (s.dead.getD j default).o)).1
  unfold MW
  generalize (bS (cF (s.dead.getD j default).o)).1=e at hT ⊢
  rcases hT with he|⟨he,y,tot,out,T⟩
  ·rw[if_pos he];exact .self h hb
  rw[if_neg (fun h=>h he),T.is]
  have hyd:y.d.name=(s.su[i]).d.name:=by rw[T.d]
  have c1:=T.one
  have c2:=T.bt
  have c3:=T.bp
  have c4:=T.t0
  have c5:=T.t1
  simp only at c1 c4 c5
  refine⟨xD h hi T.ok hyd (by omega) (by omega) T.o1 T.o2 (fun z hz=>by have:=h.gid z hz;omega) T.o4 hs1.del hs1.dead,⟨by show tot≤k+1;omega,fun z hz=>?_⟩,fun m=>?_⟩
  ·rcases fO hz with rfl|hz
   ·exact⟨c2,c3⟩
   ·exact(hb.mono (by omega)).su z hz
  ·show Go.Vc.cnt { s with su:=s.su.set i y,total:=tot,out:=out,dead:=s.dead.eraseIdx j } m=Go.Vc.cnt s m
   have hce:=CE (p:=fun x:De=>decide (x.sub=m)) hj
   by_cases hm:m=(s.su[i]).d.name
   ·rw[pP h.suo hi hyd,if_pos hm]
    rw[if_pos (by rw[hd,hm,hn];simp)]at hce
    rw[hm]at hce ⊢
    rw[jA h.suo (List.getElem_mem hi)]
    unfold dd
    omega
   ·refine lX h.suo hi hyd hm ?_
    rw[if_neg (by rw[hd,←hn];simpa using fun e=>hm e.symm)]at hce
    unfold dd
    omega
structure DoOk (k:Int) (s:Ro) (o:Oq) (r:Ro×Int×Int):Prop where
 ok:RoOk r.1
 b:RoB (k+1) r.1
 cnt:∀m,Go.Vc.cnt r.1 m=if m=o.s∧r.2.2=0∧o.kind%10=3 then 0
  else if m=o.s∧r.2.2=0∧(o.kind%10=4∨o.kind%10=5)∧r.2.1≠0∧r.2.1≠4 then Go.Vc.cnt s m+1 else Go.Vc.cnt s m
theorem DoOk.kept {k:Int} {s:Ro} {o:Oq} {r:Ro×Int×Int} (h:KeptR k s r.1) (h3:o.kind%10≠3) (h4:¬(o.kind%10=4∨o.kind%10=5)):DoOk k s o r:=
 ⟨h.ok,h.b,fun m=>by rw[if_neg (fun h=>h3 h.2.2),if_neg (fun h=>h4 h.2.2.1),h.cnt]⟩
theorem QM {k:Int} {s:Ro} {o:Oq} {r:Ro×Int×Int} (h:RoOk s) (hb:RoB k s) (h0:0≤k) (hk:k≤1000) (hd:SmD o.d) (hr:DoP s o r):DoOk k s o r:=by
 cases hr with
 | pub h1=>exact .kept (NI h hb _) (by omega) (by omega)
 | sub h1=>exact .kept (Nu h hb h0 _ hd) (by omega) (by omega)
 | unsub h1=>
  rcases II h hb o.s with⟨a,b⟩|⟨a,g⟩
  ·refine⟨by simp only[b];exact h,by simp only[b];exact hb.mono (by omega),fun m=>?_⟩
   simp only[b]
   rw[if_neg (fun h=>a h.2.1),if_neg (fun h=>a h.2.1)]
  ·refine⟨g.ok,g.b,fun m=>?_⟩
   by_cases hm:m=o.s
   ·subst hm
    rw[if_pos ⟨rfl,a,h1⟩];exact g.here
   ·rw[if_neg (fun h=>hm h.1),if_neg (fun h=>hm h.1)];exact g.cnt m hm
 | step h1 r hr=>
  have g:=KO h hb hk hr
  refine⟨g.ok,g.b,fun m=>?_⟩
  rw[if_neg (by omega),g.cnt]
  by_cases hc:m=o.s∧r.2.2=0∧r.2.1≠0∧r.2.1≠4
  ·rw[if_pos hc,if_pos ⟨hc.1,hc.2.1,h1,hc.2.2⟩]
  ·rw[if_neg hc,if_neg (fun h=>hc ⟨h.1,h.2.1,h.2.2.2⟩)];simp
 | red h1 r hr=>exact .kept (NA h hb hk hr) (by omega) (by omega)
 | ack h1=>exact .kept (Oy h hb _) (by omega) (by omega)
 | nack h1 w=>exact .kept (Lg h hb _) (by omega) (by omega)
 | resend h1=>exact .kept (GP h hb _) (by omega) (by omega)
 | retain h1=>exact .kept (GO h hb) (by omega) (by omega)
 | tick h1=>exact .kept (KL h hb _) (by omega) (by omega)
end Go.Vc

namespace Go.Vc
open Go.Proofs
set_option maxRecDepth 100000
def B3_2:MC:=(.seq (.seq (.reg [mi 86 14,fI 87 7 7,lJ 88 87 1,nI 89 88 false,oI 90 .lss 86 89] [] [0,3,4,5,7,11,12,13,14,90] [3,7,12,16,1035]) (.cond (.t 90) .skip (.exit 4))) (.seq (.block 5 (.seq (.reg [fI 93 7 7,lJ 94 93 1,mi 95 14,qi 96 (.ia (.t 94) (.t 95) 2),fI 97 96 0,lJ 98 97 1,fI 99 12 0,fI 100 99 0,lJ 101 100 1,oI 102 .eql 98 101] [] [0,3,4,5,7,11,12,13,14,102] [3,7,12,16,1035]) (.cond (.t 102) (.reg [mi 103 13,oJ 104 .add 103 1,mi 13 104] [] [0,3,4,5,7,11,12,13,14] [3,7,12,16,1035]) .skip))) (.reg [mi 91 14,oJ 92 .add 91 1,mi 14 92] [] [0,3,4,5,7,11,12,13,14] [3,7,12,16,1035])))
def R3_2:MC:=(.seq (.reg [mi 105 4,fI 106 12 0,fI 107 106 0,lJ 108 107 1,qi 109 (.mget (.t 105) (.t 108) false Kk.str (.pv (.sc (.int .i64 0)))),fI 110 12 12,lJ 111 110 1,mi 112 13,oI 113 .add 111 112,fI 114 12 13,lJ 115 114 1,oI 116 .add 113 115,fI 117 12 14,lJ 118 117 1,oI 119 .add 116 118,fI 120 12 9,lJ 121 120 1,cI 122 6 [.t 121],nI 123 122 false,oI 124 .add 119 123,oI 125 .neq 109 124] [] [0,3,4,5,7,11,125] [3,7,16,1035]) (.cond (.t 125) (.seq (.reg [bI 2 false] [] [2] [1128,1131]) .ret) .skip))
def B3_1:MC:=(.seq (.seq (.reg [mi 74 11,fI 75 7 3,lJ 76 75 1,nI 77 76 false,oI 78 .lss 74 77] [] [0,3,4,5,7,11,78] [3,7,16,1035]) (.cond (.t 78) .skip (.exit 2))) (.seq (.block 3 (.seq (.reg [fI 81 7 3,lJ 82 81 1,mi 83 11,qi 84 (.ia (.t 82) (.t 83) 15),lI 85 84 15,aI 12 [.pv (.sc (.string ⟨#[]⟩)),.e0,.e0,.pv (.sc (.string ⟨#[]⟩)),.pv (.sc (.string ⟨#[]⟩)),.pv (.sc (.int .i64 0)),.pv (.sc (.int .i64 0)),.pv (.sc (.int .i64 0)),.e0,.e0,.pv (.sc (.int .i64 0)),.pv (.sc (.int .i64 0)),.pv (.sc (.int .i64 0)),.pv (.sc (.int .i64 0)),.pv (.sc (.int .i64 0))],⟨none,none,.st (.t 12) (.t 85) 15⟩] [] [0,3,4,5,7,11,12] [3,7,12,16,1035]) (.seq (.reg [kI 13 0] [] [0,3,4,5,7,11,12,13] [3,7,12,16,1035]) (.seq (.seq (.reg [kI 14 0] [] [0,3,4,5,7,11,12,13,14] [3,7,12,16,1035]) (.block 4 (.loop B3_2))) R3_2)))) (.reg [mi 79 11,oJ 80 .add 79 1,mi 11 80] [] [0,3,4,5,7,11] [3,7,16,1035])))
def R3_1:MC:=(.reg [lI 126 7 8,⟨none,none,.st (.t 3) (.t 126) 8⟩] [] [0,3,4,5] [3,16,1035])
def B3_0:MC:=(.seq (.seq (.reg [mi 17 5,mi 18 0,nI 19 18 false,oI 20 .lss 17 19,mi 21 20,gT 22 21 (.mv (.t 5)),gT 23 21 (.bin .lss (.t 22) (ic 36)),qi 24 (.pick (.t 21) (.t 23) (.c (.bool false)))] [] [0,3,4,5,24] [3,16,1035]) (.cond (.t 24) .skip (.exit 0))) (.seq (.block 1 (.seq (.reg [mi 27 0,mi 28 5,qi 29 (.ia (.t 27) (.t 28) 12),lI 30 29 12,cI 31 4 [.t 30],aI 6 [.pv (.sc (.int .u8 0)),.pv (.sc (.string ⟨#[]⟩)),.pv (.sc (.string ⟨#[]⟩)),.e0,.e0,.pv (.sc (.string ⟨#[]⟩)),.pv (.sc (.string ⟨#[]⟩)),.pv (.sc (.int .i64 0)),.pv (.sc (.int .i64 0)),.pv (.sc (.int .i64 0)),.pv (.sc (.bool false)),.pv (.sc (.int .i64 0))],⟨none,none,.st (.t 6) (.t 31) 12⟩] [] [0,3,4,5,6] [3,6,16,1031,1035]) (.seq (.reg [lI 33 3 8,lI 34 6 12,cI 35 5 [.t 33,.t 34],mi 32 35,xI 36 32 0,xI 37 32 1,xI 38 32 2,aI 7 [.pv (.sc (.int .i64 0)),.e0,.e0,.e0,.pv (.sc (.int .i64 0)),.e0,.e0,.e0],⟨none,none,.st (.t 7) (.t 36) 8⟩,mi 8 37,mi 9 38] [] [0,3,4,5,6,7,8,9] [3,6,7,16,1031,1035]) (.seq (.reg [fI 39 6 0,lJ 40 39 1,qi 41 (.bin .rem (.t 40) (.c (.int .u8 10))),mi 10 41] [] [0,3,4,5,6,7,8,9,10] [3,6,7,16,1031,1035]) (.seq (.seq (.reg [mi 42 9,oJ 43 .eql 42 0,mi 44 43,gT 45 44 (.mv (.t 10)),gT 46 44 (.bin .eql (.t 45) (.c (.int .u8 3))),qi 47 (.pick (.t 44) (.t 46) (.c (.bool false)))] [] [0,3,4,5,6,7,8,9,10,47] [3,6,7,16,1031,1035]) (.cond (.t 47) (.reg [mi 48 4,fI 49 6 1,lJ 50 49 1,⟨none,none,.mdel (.t 48) (.t 50) Kk.str⟩] [] [0,3,4,5,6,7,8,9,10] [3,6,7,16,1031,1035]) .skip)) (.seq (.seq (.reg [mi 51 9,oJ 52 .eql 51 0,mi 53 52,gT 54 53 (.mv (.t 10)),gT 55 53 (.bin .eql (.t 54) (.c (.int .u8 4))),gT 56 53 (.mv (.t 55)),gF 57 56 (.mv (.t 10)),gF 58 56 (.bin .eql (.t 57) (.c (.int .u8 5))),gT 59 53 (.pick (.t 56) (.c (.bool true)) (.t 58)),qi 60 (.pick (.t 53) (.t 59) (.c (.bool false))),mi 61 60,gT 62 61 (.mv (.t 8)),gT 63 61 (.bin .neq (.t 62) (ic 0)),qi 64 (.pick (.t 61) (.t 63) (.c (.bool false))),mi 65 64,gT 66 65 (.mv (.t 8)),gT 67 65 (.bin .neq (.t 66) (ic 4)),qi 68 (.pick (.t 65) (.t 67) (.c (.bool false)))] [] [0,3,4,5,6,7,68] [3,6,7,16,1031,1035]) (.cond (.t 68) (.reg [mi 69 4,fI 70 6 1,lJ 71 70 1,qi 72 (.mget (.t 69) (.t 71) false Kk.str (.pv (.sc (.int .i64 0)))),oJ 73 .add 72 1,⟨none,none,.mset (.t 69) (.t 71) (.t 73) Kk.str⟩] [] [0,3,4,5,7] [3,7,16,1035]) .skip)) (.seq (.seq (.reg [kI 11 0] [] [0,3,4,5,7,11] [3,7,16,1035]) (.block 2 (.loop B3_1))) R3_1))))))) (.reg [mi 25 5,oJ 26 .add 25 1,mi 5 26] [] [0,3,4,5] [3,16,1035])))
def R3_0:MC:=(.seq (.reg [lI 127 3 8,cI 128 7 [.t 127],oJ 129 .eql 128 0,mi 130 129,⟨some 131,some (130,true),.call (.f 8) []⟩,qi 132 (.pick (.t 130) (.t 131) (.c (.bool false))),mi 2 132] [] [2] [1128,1131]) .ret)
def M3:MC:=(.seq (.reg [bI 2 false] [] [0] []) (.seq (.reg [qi 15 (.mk [.pv (.sc (.int .i64 0)),.e0,.e0,.e0,.pv (.sc (.int .i64 0)),.e0,.e0,.e0] []),aI 3 [.pv (.sc (.int .i64 0)),.e0,.e0,.e0,.pv (.sc (.int .i64 0)),.e0,.e0,.e0],⟨none,none,.st (.t 3) (.t 15) 8⟩] [] [0,3] [3,1035]) (.seq (.reg [⟨some 16,none,.mkm⟩,mi 4 16] [] [0,3,4] [3,16,1035]) (.seq (.seq (.reg [kI 5 0] [] [0,3,4,5] [3,16,1035]) (.block 0 (.loop B3_0))) R3_0))))
theorem c3:Cd 3 133 [RV.tmp 2] M3:=cO [] (rz [] [(21,[(0,571),(1,570),(2,572),(3,568),(4,560),(5,544),(6,960),(7,896),(8,768),(9,512)],1023),(23,[(0,1048593),(1,1048606),(2,1048604),(3,1048600),(4,1048592),(5,1591648),(6,1591616),(7,1591680),(8,1591552),(9,1592832),(10,1592320),(11,1591296),(12,1601536),(13,1597440),(14,1589248),(15,2064384),(16,2031616),(17,0),(18,1835008),(19,1572864),(20,1048576)],2097151)] [0,1,2,3,4,3,5,6,7,8,7,10,11,12,13,12,14,15,16,17,20,18,16,21,22,25,26] M3) Tryz.func3 (by kernel_rfl) Tryz.ntmps3
end Go.Vc

namespace Go.Vc
set_option linter.unusedSimpArgs false
set_option linter.unusedVariables false
def St.toD (σ:St) (b:Nat):St:=match aL σ.st b with
 | some (.mp [])=>⟨σ.fr,(b,.mpd [] 0)::aQ σ.st b⟩
 | _=>σ
theorem SRel.toD {e:Env} {σ:St} {x:Cx} {a:Act} (h:SRel e σ x a) (b:Nat):SRel e (σ.toD b) x a:=by
 unfold St.toD
 split
 ·rename_i hb
  have hm:=aH hb
  have old:∀q u,(q,u)∈(b,Row.mpd [] 0)::aQ σ.st b→∃u',(q,u')∈σ.st∧((q=b∧u=.mpd [] 0∧u'=.mp [])∨u=u'):=fun q u hq=>by
   rcases List.mem_cons.1 hq with hq|hq
   ·injection hq with h1 h2;subst h1;subst h2
    exact⟨_,hm,.inl ⟨rfl,rfl,rfl⟩⟩
   ·exact⟨u,(bE hq).1,.inr rfl⟩
  have own:∀bb,d6 ((b,Row.mpd [] 0)::aQ σ.st b) x.ρ bb↔d6 σ.st x.ρ bb:=fun bb=>by
   constructor
   ·rintro⟨q,u,h1,h2⟩
    obtain⟨u',h3,_⟩:=old q u h1
    exact⟨q,u',h3,h2⟩
   ·rintro⟨q,u,h1,h2⟩
    by_cases hq:q=b
    ·subst hq;exact⟨q,_,List.mem_cons_self ..,h2⟩
    ·exact⟨q,u,List.mem_cons_of_mem _ (u9 h1 hq),h2⟩
  exact { h with
   st:=fun q u hq=>by
    obtain⟨u',h1,h2⟩:=old q u hq
    rcases h2 with⟨rfl,rfl,rfl⟩|rfl
    ·have:=h.st q _ h1
     simp only[Row.rel]at this ⊢
     obtain⟨h0,ents,clock,h3,h4,_,h6,_⟩:=this
     have he:ents=[]:=List.eq_nil_of_length_eq_zero h4
     subst he
     subst h6
     exact⟨h0,[],h3,rfl,fun i p e hp=>by simp at hp,by simp,fun p hp=>by cases hp⟩
    ·exact h.st q u h1
   keys:=by
    simp only[List.map_cons,List.nodup_cons]
    refine⟨fun hk=>?_,fC h.keys⟩
    obtain⟨⟨q,u⟩,h1,h2⟩:=List.mem_map.1 hk
    exact(bE h1).2 h2
   inj:=fun q u q' u' hq hq'=>by
    obtain⟨u1,h1,_⟩:=old q u hq
    obtain⟨u2,h2,_⟩:=old q' u' hq'
    exact h.inj q u1 q' u2 h1 h2
   F:=fun bb=>(h.F bb).trans (or_congr Iff.rfl (own bb).symm)
   own:=fun q u hq=>by
    obtain⟨u1,h1,_⟩:=old q u hq
    exact h.own q u1 h1 }
 ·exact h
theorem eC.toD (σ:St) (b:Nat):eC σ (σ.toD b):=fun e x a h=>⟨x,rfl,h.toD b⟩
end Go.Vc

namespace Go.Vc
open Go.Proofs
set_option linter.unusedSimpArgs false
set_option linter.unusedVariables false
set_option maxRecDepth 10000
abbrev ES:=Nat×ByteArray×Int
abbrev J1 (e:ES):Nat×PV×PV:=(e.1,pS e.2.1,pI e.2.2)
def BB:List ES→ByteArray→Option Int
 | [],_=>none
 | e::es,k=>if k=e.2.1 then some e.2.2 else BB es k
def xW:List ES→ByteArray→Int→Nat→List ES
 | [],k,v,c=>[(c,k,v)]
 | e::es,k,v,c=>if k=e.2.1 then(e.1,k,v)::es else e::xW es k v c
def BH:List ES→ByteArray→List ES
 | [],_=>[]
 | e::es,k=>if k=e.2.1 then es else e::BH es k
theorem yC (k:ByteArray):∀es:List ES,rQ (pS k) (oT (es.map J1))=(BB es k).map pI
 | []=>rfl
 | e::es=>by
  have ih:=yC k es
  unfold oT at ih ⊢
  simp only[List.map_cons,rQ,cG,BB,ih]
  by_cases h:k=e.2.1<;>simp[h]
theorem CV (k:ByteArray) (v:Int) (c:Nat):∀es:List ES,kU (pS k) (pI v) c (es.map J1)=(xW es k v c).map J1
 | []=>rfl
 | e::es=>by
  simp only[List.map_cons,kU,cG,xW,CV k v c es]
  by_cases h:k=e.2.1<;>simp[h]
theorem MP (k:ByteArray):∀es:List ES,rX (pS k) (es.map J1)=(BH es k).map J1
 | []=>rfl
 | e::es=>by
  simp only[List.map_cons,rX,cG,BH,MP k es]
  by_cases h:k=e.2.1<;>simp[h]
theorem j8 (k:ByteArray):∀es:List ES,aW .str (pS k) (oT (es.map J1))
 | []=>trivial
 | e::es=>by
  have ih:=j8 k es
  unfold oT at ih ⊢
  simp only[List.map_cons,aW,iI]
  exact⟨trivial,ih⟩
def kV (es:List ES):List ByteArray:=es.map (·.2.1)
theorem Cj (k m:ByteArray) (v:Int) (c:Nat):∀es:List ES,BB (xW es k v c) m=if m=k then some v else BB es m
 | []=>by simp only[xW,BB]
 | e::es=>by
  have ih:=Cj k m v c es
  unfold xW
  by_cases h:k=e.2.1
  ·rw[if_pos h]
   simp only[BB]
   by_cases h2:m=k
   ·rw[if_pos h2,if_pos h2]
   ·rw[if_neg h2,if_neg h2,if_neg (by rw[←h];exact h2)]
  ·rw[if_neg h]
   simp only[BB,ih]
   by_cases h2:m=e.2.1
   ·rw[if_pos h2,if_pos h2,if_neg (by rw[h2];exact fun e=>h e.symm)]
   ·rw[if_neg h2,if_neg h2]
theorem A0 (k:ByteArray) (v:Int) (c:Nat):∀es:List ES,(kV es).Nodup→(kV (xW es k v c)).Nodup∧∀m,m∈kV (xW es k v c)↔m=k∨m∈kV es
 | [],_=>by simp[xW,kV]
 | e::es,h=>by
  simp only[kV,List.map_cons,List.nodup_cons]at h
  obtain⟨i1,i2⟩:=A0 k v c es h.2
  unfold xW
  by_cases hk:k=e.2.1
  ·rw[if_pos hk]
   refine⟨?_,fun m=>?_⟩
   ·simp only[kV,List.map_cons,List.nodup_cons]
    rw[hk];exact h
   ·simp only[kV,List.map_cons,List.mem_cons]
    rw[hk]
    constructor
    ·rintro(h|h)
     ·exact .inl h
     ·exact .inr (.inr h)
    ·rintro(h|h|h)
     ·exact .inl h
     ·exact .inl h
     ·exact .inr h
  ·rw[if_neg hk]
   refine⟨?_,fun m=>?_⟩
   ·simp only[kV,List.map_cons,List.nodup_cons]at i1 i2 ⊢
    refine⟨fun hm=>?_,i1⟩
    rcases(i2 _).1 hm with h4|h4
    ·exact hk h4.symm
    ·exact h.1 h4
   ·simp only[kV,List.map_cons,List.mem_cons]at i2 ⊢
    rw[i2]
    constructor
    ·rintro(h|h|h)
     ·exact .inr (.inl h)
     ·exact .inl h
     ·exact .inr (.inr h)
    ·rintro(h|h|h)
     ·exact .inr (.inl h)
     ·exact .inl h
     ·exact .inr (.inr h)
theorem Dt {m:ByteArray}:∀{es:List ES},m∉kV es→BB es m=none
 | [],_=>rfl
 | e::es,h=>by
  simp only[kV,List.map_cons,List.mem_cons,not_or]at h
  simp only[BB]
  rw[if_neg h.1]
  exact Dt h.2
theorem FV (k m:ByteArray):∀es:List ES,(kV es).Nodup→BB (BH es k) m=if m=k then none else BB es m
 | [],_=>by simp[BH,BB]
 | e::es,h=>by
  simp only[kV,List.map_cons,List.nodup_cons]at h
  have ih:=FV k m es h.2
  unfold BH
  by_cases hk:k=e.2.1
  ·rw[if_pos hk]
   by_cases h2:m=k
   ·rw[if_pos h2,h2]
    exact Dt (by rw[hk];exact h.1)
   ·rw[if_neg h2]
    simp only[BB]
    rw[if_neg (by rw[←hk];exact h2)]
  ·rw[if_neg hk]
   simp only[BB,ih]
   by_cases h2:m=e.2.1
   ·rw[if_pos h2,if_pos h2,if_neg (by rw[h2];exact fun e=>hk e.symm)]
   ·rw[if_neg h2,if_neg h2]
theorem DK (k:ByteArray):∀es:List ES,(BH es k).Sublist es
 | []=>.slnil
 | e::es=>by
  unfold BH
  split
  ·exact List.sublist_cons_self _ _
  ·exact(DK k es).cons_cons _
structure Tells (es:List ES) (s:Ro):Prop where
 keys:(kV es).Nodup
 cnt:∀n,(BB es n).getD 0=cnt s n
theorem pA (l:List Oq):cY 12 (l.map Oq.pv):=kZ (f:=Oq.pv) (s:=12) (fun a=>⟨rfl,fun c hc=>by
 simp only[PV.cells,List.mem_cons,List.not_mem_nil,or_false]at hc
 rcases hc with rfl|rfl|rfl|rfl|rfl|rfl|rfl|rfl|rfl|rfl|rfl|rfl<;>rfl⟩) l
def zR:Ro:=⟨0,[],[],[],0,[],[],[]⟩
theorem O7:RoOk zR where
 n0:=Int.le_refl _
 n1:=(by decide:(0:Int)≤1099511627775)
 tp:=⟨Nat.zero_le _,fun t h=>(nomatch h),List.Pairwise.nil⟩
 la:=(by decide:dV []=true)
 sul:=Nat.zero_le _
 su:=fun x h=>(nomatch h)
 suo:=List.Pairwise.nil
 t0:=Int.le_refl _
 t1:=(by decide:(0:Int)≤1000000000000)
 out:=(by decide:bL []=true)
 gone:=(by decide:bL []=true)
 oid:=fun x h=>(nomatch h)
 gid:=fun x h=>(nomatch h)
 apart:=fun x h=>(nomatch h)
 del:=Nat.zero_le _
 dead:=fun x h=>(nomatch h)
structure S3 where
 i:Nat
 s:Ro
 es:List ES
 c:Nat
structure G3 (n:Nat) (t:S3):Prop where
 i0:t.i≤n
 i1:t.i≤36
 ok:RoOk t.s
 b:RoB t.i t.s
 tells:Tells t.es t.s
def BI (r:Ro) (n:ByteArray) (d:Nat):Nat:=(r.dead.take d).countP fun x=>decide (x.sub=n)
theorem Hq {r:Ro} {n:ByteArray} {d:Nat} (h:d<r.dead.length):BI r n (d+1)=BI r n d+if(r.dead[d]).sub=n then 1 else 0:=by
 unfold BI
 rw[List.take_succ_eq_append_getElem h,List.countP_append,List.countP_singleton]
 simp only[decide_eq_true_eq]
theorem F8 (r:Ro) (n:ByteArray) (d:Nat):BI r n d≤d:=by
 unfold BI
 have:=List.countP_le_length (p:=fun x:De=>decide (x.sub=n)) (l:=r.dead.take d)
 rw[List.length_take]at this
 omega
abbrev R7 (L:PV) (s r:Ro) (es:List ES) (c:Nat) (i j:Nat):St:=⟨[(0,.pv L),(3,.ptr 3 0),(4,.mp 16),(5,.pv (pI i)),(7,.ptr 7 0),(11,.pv (pI j))],[(3,.box s.av),(7,.box r.av),(16,.mpd (es.map J1) c)]⟩
theorem lA {k:Int} {r:Ro} (hr:RoOk r) (hb:RoB k r) (hk:k≤1000) {es:List ES} (ht:Tells es r) (L:PV) (s:Ro) (c i:Nat) (Q:Exit→St→Prop) (ks:List KI)
  (h:eE Tryz.prog Q ks .normal ⟨[(0,.pv L),(3,.ptr 3 0),(4,.mp 16),(5,.pv (pI i))],[(3,.box r.av),(16,.mpd (es.map J1) c)]⟩):
  run Tryz.prog Q (.loop B3_1) (.blk 2::.code R3_1::ks) (R7 L s r es c i 0):=by
 have hsl:=hr.sul
 have hdl:=hr.del
 refine bK (T:=Nat) [0,3,4,5,7,11] [3,7,16] (fun j=>R7 L s r es c i j) (fun j=>j≤r.su.length) (fun j=>r.su.length-j) 0 ?_ (Nat.zero_le _) ?_
 ·simp only[go_sem]
  rfl
 intro j hj
 by_cases hlt:j<r.su.length
 ·have hx:=hr.su _ (List.getElem_mem hlt)
  obtain⟨b1,b2⟩:=hb.su _ (List.getElem_mem hlt)
  have hc:=jA hr.suo (List.getElem_mem hlt)
  have htn:=ht.cnt (r.su[j]).d.name
  have hg:=aK (f:=Su.pv) hlt
  obtain⟨x,hxe⟩:∃x,x=r.su[j]:=⟨_,rfl⟩
  rw[←hxe]at hx b1 b2 hc htn hg
  have hin:=hx.insl
  have h6:=Sb x.ins_ (by omega) hin.2
  simp only[go_sem,B3_1,kC,hg,show(j:Int)<(r.su.length:Int)by omega]
  refine bK (T:=Nat) [0,3,4,5,7,11,12,13,14] [3,7,12,16] (fun d=>⟨[(0,.pv L),(3,.ptr 3 0),(4,.mp 16),(5,.pv (pI i)),(7,.ptr 7 0),(11,.pv (pI j)),(12,.ptr 12 0),(13,.pv (pI (BI r x.d.name d))),(14,.pv (pI d))],[(3,.box s.av),(7,.box r.av),(12,.box x.av),(16,.mpd (es.map J1) c)]⟩)
   (fun d=>d≤r.dead.length) (fun d=>r.dead.length-d) 0 ?_ (Nat.zero_le _) ?_
  ·simp only[go_sem]
   rfl
  intro d hd
  by_cases hlt2:d<r.dead.length
  ·have hdd:=F8 r x.d.name d
   have hsc:=Hq (n:=x.d.name) hlt2
   simp only[go_sem,B3_2,pD,aK hlt2,show(d:Int)<(r.dead.length:Int)by omega]
   refine⟨fun h=>⟨⟨by omega,by omega⟩,⟨by omega,by omega⟩,d+1,?_,by omega,by omega⟩,fun h=>⟨⟨by omega,by omega⟩,d+1,?_,by omega,by omega⟩⟩
   ·rw[hsc,if_pos h];rfl
   ·rw[hsc,if_neg h];rfl
  ·obtain rfl:d=r.dead.length:=by omega
   have hfull:BI r x.d.name r.dead.length=dd r x.d.name:=by unfold BI dd;rw[List.take_length]
   have hdd:=F8 r x.d.name r.dead.length
   have p0:=hx.p0
   have i0:=hx.i0
   have v0:=hx.v0
   have hcn:=hx.cnt
   rw[←hfull]at hc
   have hsum:x.passes+(BI r x.d.name r.dead.length:Int)+x.fires+x.over+((eB x.ins_).length:Int)=(BB es x.d.name).getD 0:=by
    rw[htn,hc,p5];omega
   have hal:=p5 x.ins_
   rcases hlk:BB es x.d.name with _|v
   ·rw[hlk]at hsum
    simp only[Option.getD_none]at hsum
    simp only[go_sem,B3_2,R3_2,yC,hlk,Option.map_none,show ¬(r.dead.length:Int)<(r.dead.length:Int)by omega]
    refine⟨j8 _ _,⟨by omega,by omega⟩,⟨by omega,by omega⟩,⟨by omega,by omega⟩,?_⟩
    refine aC (by simp only[go_sem]) rfl (h6) (.inl rfl) trivial ?_
    simp only[go_sem,hsum]
    exact⟨⟨by omega,by omega⟩,j+1,rfl,by omega,by omega⟩
   ·rw[hlk]at hsum
    simp only[Option.getD_some]at hsum
    simp only[go_sem,B3_2,R3_2,yC,hlk,Option.map_some,show ¬(r.dead.length:Int)<(r.dead.length:Int)by omega]
    refine⟨j8 _ _,⟨by omega,by omega⟩,⟨by omega,by omega⟩,⟨by omega,by omega⟩,?_⟩
    refine aC (by simp only[go_sem]) rfl (h6) (.inl rfl) trivial ?_
    simp only[go_sem,hsum]
    exact⟨⟨by omega,by omega⟩,⟨by omega,by omega⟩,j+1,rfl,by omega,by omega⟩
 ·simp only[go_sem,B3_1,R3_1,show ¬(j:Int)<(r.su.length:Int)by omega]
  exact h
set_option maxHeartbeats 4000000 in
theorem Rh (l:List Oq) (hk:∀o∈l,0≤o.kind∧o.kind≤255):Fn Tryz.prog 3 [.lst (l.map Oq.pv)] (.pv (pB true)) []:=by
 refine c3.r [] (by simp) ?_
 simp only[go_sem,M3]
 refine Gv (T:=S3) [0,3,4,5] [3,16] (fun t=>⟨[(0,.pv (.lst (l.map Oq.pv))),(3,.ptr 3 0),(4,.mp 16),(5,.pv (pI t.i))],[(3,.box t.s.av),(16,.mpd (t.es.map J1) t.c)]⟩) (G3 l.length) (fun t=>l.length-t.i) ⟨0,zR,[],0⟩
  ⟨_,(eC.toD _ 16).trans (eC.virtBs _ [(3,1,0,0),(3,2,0,0),(3,3,0,0),(3,5,0,0),(3,6,0,0),(3,7,0,0)]),?_⟩ ⟨Nat.zero_le _,Nat.zero_le _,O7,⟨Int.le_refl _,fun x h=>nomatch h⟩,⟨List.Pairwise.nil,fun n=>rfl⟩⟩ ?_
 ·simp only[go_sem,St.toD]
  rfl
 rintro⟨i,s,es,c⟩ ⟨g1,g2,g3,g4,g5⟩
 simp only at g1 g2 g3 g4 g5 ⊢
 by_cases hlt:i<l.length
 ·by_cases h36:i<36
  ·obtain⟨k0,k1⟩:=hk _ (List.getElem_mem hlt)
   obtain⟨o,ho⟩:∃o,o=l[i]:=⟨_,rfl⟩
   have hgo:=aK (f:=Oq.pv) hlt
   rw[←ho]at k0 k1 hgo
   have hpass:∀x∈s.su,x.passes≤1000000000000:=fun x hx=>by have:=(g4.su x hx).2;omega
   have hcs:(Ee o).s.size≤1000:=by
    unfold Ee
    simp only
    split
    ·rw[ByteArray.size_extract];omega
    ·omega
   obtain⟨r,hr,h5⟩:=Sc s (Ee o) g3 hpass hcs (Ai o.d) ⟨k0,k1⟩
   have hok:=QM g3 g4 (by omega) (by omega) (Ai o.d) hr
   have h4:=Sd o
   obtain⟨r,w,e⟩:=r
   simp only at h5
   have hq0:0≤(Ee o).kind:=k0
   generalize Ee o=q at h4 h5 hok hq0
   obtain⟨k,hkk⟩:∃k,k=q.kind%10:=⟨_,rfl⟩
   have hrem:q.kind.tmod 10=k:=by rw[hkk];exact Int.tmod_eq_emod_of_nonneg hq0
   have hcnt:=hok.cnt
   simp only[←hkk]at hcnt
   have same:(∀m,cnt r m=cnt s m)→Tells es r:=fun h=>⟨g5.keys,fun n=>by rw[g5.cnt,h]⟩
   have hi2:∀(es':List ES) (c':Nat),Tells es' r→G3 l.length ⟨i+1,r,es',c'⟩:=fun es' c' ht=>⟨by simp only;omega,by simp only;omega,hok.ok,hok.b,ht⟩
   have hbk:((i:Int)+1:Int)≤1000:=by omega
   by_cases he:e=0
   ·by_cases k3:k=3
    ·have ht:Tells (BH es q.s) r:=⟨g5.keys.sublist ((DK q.s es).map _),fun n=>by
      rw[FV _ _ _ g5.keys,hcnt]
      by_cases hn:n=q.s
      ·rw[if_pos hn,if_pos ⟨hn,he,k3⟩];rfl
      ·rw[if_neg hn,if_neg (fun h=>hn h.1),if_neg (fun h=>hn h.1),g5.cnt]⟩
     simp only[go_sem,B3_0,pA,hgo,show(i:Int)<(l.length:Int)by omega,show(i:Int)<36 by omega]
     refine aC (by simp only[go_sem]) rfl (h4) (.inl rfl) trivial ?_
     simp only[go_sem]
     refine aC (by simp only[go_sem]) rfl (h5) (.inl rfl) trivial ?_
     simp only[go_sem,hrem,he,k3,MP]
     refine⟨j8 _ _,lA hok.ok hok.b hbk ht _ s _ i _ _ ?_⟩
     simp only[go_sem]
     exact⟨⟨by omega,by omega⟩,⟨i+1,r,_,_⟩,⟨_,eC.refl' _,rfl⟩,hi2 _ _ ht,by simp only;omega⟩
    ·by_cases k45:k=4∨k=5
     ·by_cases hw:w=0∨w=4
      ·have ht:Tells es r:=same fun m=>by rw[hcnt,if_neg (fun h=>k3 h.2.2),if_neg (fun h=>by rcases hw with hw|hw;exact h.2.2.2.1 hw;exact h.2.2.2.2 hw)]
       rcases k45 with k4|k4<;>rcases hw with hw|hw
       ·skip
        simp only[go_sem,B3_0,pA,hgo,show(i:Int)<(l.length:Int)by omega,show(i:Int)<36 by omega]
        refine aC (by simp only[go_sem]) rfl (h4) (.inl rfl) trivial ?_
        simp only[go_sem]
        refine aC (by simp only[go_sem]) rfl (h5) (.inl rfl) trivial ?_
        simp only[go_sem,hrem,he,k4,hw]
        refine lA hok.ok hok.b hbk ht _ s _ i _ _ ?_
        simp only[go_sem]
        exact⟨⟨by omega,by omega⟩,⟨i+1,r,_,_⟩,⟨_,eC.refl' _,rfl⟩,hi2 _ _ ht,by simp only;omega⟩
       ·skip
        simp only[go_sem,B3_0,pA,hgo,show(i:Int)<(l.length:Int)by omega,show(i:Int)<36 by omega]
        refine aC (by simp only[go_sem]) rfl (h4) (.inl rfl) trivial ?_
        simp only[go_sem]
        refine aC (by simp only[go_sem]) rfl (h5) (.inl rfl) trivial ?_
        simp only[go_sem,hrem,he,k4,hw]
        refine lA hok.ok hok.b hbk ht _ s _ i _ _ ?_
        simp only[go_sem]
        exact⟨⟨by omega,by omega⟩,⟨i+1,r,_,_⟩,⟨_,eC.refl' _,rfl⟩,hi2 _ _ ht,by simp only;omega⟩
       ·skip
        simp only[go_sem,B3_0,pA,hgo,show(i:Int)<(l.length:Int)by omega,show(i:Int)<36 by omega]
        refine aC (by simp only[go_sem]) rfl (h4) (.inl rfl) trivial ?_
        simp only[go_sem]
        refine aC (by simp only[go_sem]) rfl (h5) (.inl rfl) trivial ?_
        simp only[go_sem,hrem,he,k4,hw]
        refine lA hok.ok hok.b hbk ht _ s _ i _ _ ?_
        simp only[go_sem]
        exact⟨⟨by omega,by omega⟩,⟨i+1,r,_,_⟩,⟨_,eC.refl' _,rfl⟩,hi2 _ _ ht,by simp only;omega⟩
       ·skip
        simp only[go_sem,B3_0,pA,hgo,show(i:Int)<(l.length:Int)by omega,show(i:Int)<36 by omega]
        refine aC (by simp only[go_sem]) rfl (h4) (.inl rfl) trivial ?_
        simp only[go_sem]
        refine aC (by simp only[go_sem]) rfl (h5) (.inl rfl) trivial ?_
        simp only[go_sem,hrem,he,k4,hw]
        refine lA hok.ok hok.b hbk ht _ s _ i _ _ ?_
        simp only[go_sem]
        exact⟨⟨by omega,by omega⟩,⟨i+1,r,_,_⟩,⟨_,eC.refl' _,rfl⟩,hi2 _ _ ht,by simp only;omega⟩
      ·have w0:¬w=0:=fun h=>hw (.inl h)
       have w4:¬w=4:=fun h=>hw (.inr h)
       have hcb:cnt s q.s≤1000000 ∧ -1000000≤cnt s q.s:=by
        by_cases hx:∃x∈s.su,x.d.name=q.s
        ·obtain⟨x,hx,hxn⟩:=hx
         have h1:=jA g3.suo hx
         have h2:=(g3.su x hx).p0
         have h3:=(g3.su x hx).cnt
         have h4:=(g3.su x hx).i0
         have h5:=(g3.su x hx).v0
         have h6:=g4.su x hx
         have h7:dd s x.d.name≤s.dead.length:=List.countP_le_length
         have h8:=g3.del
         rw[←hxn,h1]
         omega
        ·rw[nU fun x h2 e2=>hx ⟨x,h2,e2⟩];omega
       have htp:∀v c',v=cnt s q.s+1→Tells (xW es q.s v c') r:=fun v c' hv=>⟨(A0 _ _ _ _ g5.keys).1,fun n=>by
        by_cases hn:n=q.s
        ·rw[Cj,if_pos hn,hcnt,if_neg (fun h=>k3 h.2.2),if_pos ⟨hn,he,k45,w0,w4⟩,hn];exact hv
        ·rw[Cj,if_neg hn,hcnt,if_neg (fun h=>hn h.1),if_neg (fun h=>hn h.1),g5.cnt]⟩
       have hgc:=g5.cnt q.s
       rcases hlk:BB es q.s with _|v<;>rw[hlk]at hgc
       ·have ht:=fun c'=>htp 1 c' (by rw[←hgc];rfl)
        rcases k45 with k4|k4
        ·skip
         simp only[go_sem,B3_0,pA,hgo,show(i:Int)<(l.length:Int)by omega,show(i:Int)<36 by omega]
         refine aC (by simp only[go_sem]) rfl (h4) (.inl rfl) trivial ?_
         simp only[go_sem]
         refine aC (by simp only[go_sem]) rfl (h5) (.inl rfl) trivial ?_
         simp only[go_sem,hrem,he,k4,w0,w4,yC,hlk,Option.map_none]
         rw[CV]
         refine⟨j8 _ _,j8 _ _,lA hok.ok hok.b hbk (ht _) _ s _ i _ _ ?_⟩
         simp only[go_sem]
         exact⟨⟨by omega,by omega⟩,⟨i+1,r,_,_⟩,⟨_,eC.refl' _,rfl⟩,hi2 _ _ (ht _),by simp only;omega⟩
        ·skip
         simp only[go_sem,B3_0,pA,hgo,show(i:Int)<(l.length:Int)by omega,show(i:Int)<36 by omega]
         refine aC (by simp only[go_sem]) rfl (h4) (.inl rfl) trivial ?_
         simp only[go_sem]
         refine aC (by simp only[go_sem]) rfl (h5) (.inl rfl) trivial ?_
         simp only[go_sem,hrem,he,k4,w0,w4,yC,hlk,Option.map_none]
         rw[CV]
         refine⟨j8 _ _,j8 _ _,lA hok.ok hok.b hbk (ht _) _ s _ i _ _ ?_⟩
         simp only[go_sem]
         exact⟨⟨by omega,by omega⟩,⟨i+1,r,_,_⟩,⟨_,eC.refl' _,rfl⟩,hi2 _ _ (ht _),by simp only;omega⟩
       ·have ht:=fun c'=>htp (v+1) c' (by rw[←hgc];rfl)
        simp only[Option.getD_some]at hgc
        rcases k45 with k4|k4
        ·skip
         simp only[go_sem,B3_0,pA,hgo,show(i:Int)<(l.length:Int)by omega,show(i:Int)<36 by omega]
         refine aC (by simp only[go_sem]) rfl (h4) (.inl rfl) trivial ?_
         simp only[go_sem]
         refine aC (by simp only[go_sem]) rfl (h5) (.inl rfl) trivial ?_
         simp only[go_sem,hrem,he,k4,w0,w4,yC,hlk,Option.map_some]
         rw[CV]
         refine⟨j8 _ _,⟨by omega,by omega⟩,j8 _ _,lA hok.ok hok.b hbk (ht _) _ s _ i _ _ ?_⟩
         simp only[go_sem]
         exact⟨⟨by omega,by omega⟩,⟨i+1,r,_,_⟩,⟨_,eC.refl' _,rfl⟩,hi2 _ _ (ht _),by simp only;omega⟩
        ·skip
         simp only[go_sem,B3_0,pA,hgo,show(i:Int)<(l.length:Int)by omega,show(i:Int)<36 by omega]
         refine aC (by simp only[go_sem]) rfl (h4) (.inl rfl) trivial ?_
         simp only[go_sem]
         refine aC (by simp only[go_sem]) rfl (h5) (.inl rfl) trivial ?_
         simp only[go_sem,hrem,he,k4,w0,w4,yC,hlk,Option.map_some]
         rw[CV]
         refine⟨j8 _ _,⟨by omega,by omega⟩,j8 _ _,lA hok.ok hok.b hbk (ht _) _ s _ i _ _ ?_⟩
         simp only[go_sem]
         exact⟨⟨by omega,by omega⟩,⟨i+1,r,_,_⟩,⟨_,eC.refl' _,rfl⟩,hi2 _ _ (ht _),by simp only;omega⟩
     ·have ht:Tells es r:=same fun m=>by rw[hcnt,if_neg (fun h=>k3 h.2.2),if_neg (fun h=>k45 h.2.2.1)]
      have k4:¬k=4:=fun h=>k45 (.inl h)
      have k5:¬k=5:=fun h=>k45 (.inr h)
      simp only[go_sem,B3_0,pA,hgo,show(i:Int)<(l.length:Int)by omega,show(i:Int)<36 by omega]
      refine aC (by simp only[go_sem]) rfl (h4) (.inl rfl) trivial ?_
      simp only[go_sem]
      refine aC (by simp only[go_sem]) rfl (h5) (.inl rfl) trivial ?_
      simp only[go_sem,hrem,he,k3,k4,k5]
      refine lA hok.ok hok.b hbk ht _ s _ i _ _ ?_
      simp only[go_sem]
      exact⟨⟨by omega,by omega⟩,⟨i+1,r,_,_⟩,⟨_,eC.refl' _,rfl⟩,hi2 _ _ ht,by simp only;omega⟩
   ·have ht:Tells es r:=same fun m=>by rw[hcnt,if_neg (fun h=>he h.2.1),if_neg (fun h=>he h.2.1)]
    simp only[go_sem,B3_0,pA,hgo,show(i:Int)<(l.length:Int)by omega,show(i:Int)<36 by omega]
    refine aC (by simp only[go_sem]) rfl (h4) (.inl rfl) trivial ?_
    simp only[go_sem]
    refine aC (by simp only[go_sem]) rfl (h5) (.inl rfl) trivial ?_
    simp only[go_sem,hrem,he]
    refine lA hok.ok hok.b hbk ht _ s _ i _ _ ?_
    simp only[go_sem]
    exact⟨⟨by omega,by omega⟩,⟨i+1,r,_,_⟩,⟨_,eC.refl' _,rfl⟩,hi2 _ _ ht,by simp only;omega⟩
  ·simp only[go_sem,B3_0,R3_0,show(i:Int)<(l.length:Int)by omega,show ¬(i:Int)<36 by omega]
   refine aA (by simp only[go_sem]) (by simp only[go_sem]<;>rfl) (HI s g3) ⟨rfl,trivial⟩ trivial ?_
   simp only[go_sem]
   refine aF (by simp only[go_sem]) (by simp only[go_sem]) (by simp only[go_sem]<;>rfl) (fun _=>R6) rfl ?_
   simp only[go_sem]
 ·simp only[go_sem,B3_0,R3_0,show ¬(i:Int)<(l.length:Int)by omega]
  refine aA (by simp only[go_sem]) (by simp only[go_sem]<;>rfl) (HI s g3) ⟨rfl,trivial⟩ trivial ?_
  simp only[go_sem]
  refine aF (by simp only[go_sem]) (by simp only[go_sem]) (by simp only[go_sem]<;>rfl) (fun _=>R6) rfl ?_
  simp only[go_sem]
end Go.Vc

namespace Go.Vc
open Go.Proofs Go.Proofs.YtblffnoimmmpeaaGreatDoor
set_option maxRecDepth 100000
theorem NJ {p:PV} (h:OkTr (fun ps=>bH [.str,.str,.bool,.int .i64,.str] ps) p):∃l:List Pd,p=.lst (l.map Pd.pv):=by
 induction h with
 | mk xs q r hl hx hr ih=>
  have hc:∀i:Nat,∃x:Pd,∀h:i<xs.length,xs[i]'h=x.pv:=by
   intro i
   by_cases hi:i<xs.length
   ·obtain⟨h1,h2⟩:=hx i hi
    obtain⟨l,hl2⟩:=ih i hi
    simp only[bH,nR]at h2
    obtain⟨_,_,e0,⟨a,rfl,_⟩,_,_,rfl,⟨b,rfl,_⟩,_,_,rfl,⟨m,rfl⟩,_,_,rfl,⟨n,rfl,_⟩,_,_,rfl,⟨s,rfl,_⟩,rfl⟩:=h2
    refine⟨.mk a b ⟨m,n,s⟩ l,fun h=>?_⟩
    rw[List.getElem?_eq_getElem hi,Option.some.injEq]at h1
    rw[h1,e0,hl2,Pd.pv_eq]
    rfl
   ·exact⟨default,fun h=>absurd h hi⟩
  obtain⟨f,hf⟩:=Classical.axiomOfChoice hc
  refine⟨(List.range xs.length).map f,?_⟩
  congr 1
  apply List.ext_getElem (by simp)
  intro i h1 h2
  simp only[List.getElem_map,List.getElem_range]
  exact hf i h1
abbrev OI:List Sh:=[.int .u8,.str,.str,.lst false [.str],.tr [.str,.str,.bool,.int .i64,.str],.str,.str,.int .i64,.int .i64,.int .i64,.bool,.int .i64]
theorem Pc {p:PV} (h:nR (.lst false [.str]) p):∃l:List ByteArray,p=ss l:=by
 simp only[nR]at h
 obtain⟨xs,rfl,hl,hx⟩:=h
 obtain⟨l,rfl⟩:=Iw (f:=fun b:ByteArray=>pS b) (fun x hx'=>by
  have:=(hx x hx').2 trivial
  simp only[bH,nR]at this
  obtain⟨_,_,e,⟨n,rfl,_⟩,rfl⟩:=this
  injection e with e1 _
  exact⟨n,e1⟩)
 exact⟨l,rfl⟩
theorem NL {p:PV} (h:C8 (false,[.lst true OI]) p):∃l:List Oq,p=.lst (l.map Oq.pv)∧∀o∈l,0≤o.kind∧o.kind≤255:=by
 have h1:=BA h
 unfold nR at h1
 obtain⟨xs,rfl,hl,hx⟩:=h1
 have key:∀x∈xs,∃o:Oq,x=o.pv∧0≤o.kind∧o.kind≤255:=by
  intro x hx'
  obtain⟨qs,rfl,hq⟩:=(hx x hx').1 rfl
  simp only[bH]at hq
  obtain⟨_,_,rfl,h1,_,_,rfl,h2,_,_,rfl,h3,_,_,rfl,h4,_,_,rfl,h5,_,_,rfl,h6,_,_,rfl,h7,_,_,rfl,h8,_,_,rfl,h9,_,_,rfl,h10,_,_,rfl,h11,_,_,rfl,h12,rfl⟩:=hq
  obtain⟨gl,rfl⟩:=Pc h4
  unfold nR at h5
  obtain⟨ps,rfl⟩:=NJ h5
  simp only[nR]at h1 h2 h3 h6 h7 h8 h9 h10 h11 h12
  obtain⟨n1,rfl,hn⟩:=h1
  obtain⟨a2,rfl,_⟩:=h2
  obtain⟨a3,rfl,_⟩:=h3
  obtain⟨a6,rfl,_⟩:=h6
  obtain⟨a7,rfl,_⟩:=h7
  obtain⟨a8,rfl,_⟩:=h8
  obtain⟨a9,rfl,_⟩:=h9
  obtain⟨a10,rfl,_⟩:=h10
  obtain⟨a11,rfl⟩:=h11
  obtain⟨a12,rfl,_⟩:=h12
  exact⟨⟨n1,a2,⟨a3,gl,ps,a6,⟨a7,a8,a9,a10⟩⟩,a11,a12⟩,rfl,Go.bounds_u8 hn⟩
 have hc:∀i:Nat,∃o:Oq,∀h:i<xs.length,xs[i]'h=o.pv∧0≤o.kind∧o.kind≤255:=fun i=>by
  by_cases hi:i<xs.length
  ·obtain⟨o,h⟩:=key _ (List.getElem_mem hi)
   exact⟨o,fun _=>h⟩
  ·exact⟨⟨0,⟨#[]⟩,default,false,0⟩,fun h=>absurd h hi⟩
 obtain⟨f,hf⟩:=Classical.axiomOfChoice hc
 refine⟨(List.range xs.length).map f,?_,fun o ho=>?_⟩
 ·congr 1
  apply List.ext_getElem (by simp)
  intro i h1 h2
  simp only[List.getElem_map,List.getElem_range]
  exact(hf i h1).1
 ·obtain⟨i,hi,rfl⟩:=List.mem_map.1 ho
  exact(hf i (List.mem_range.1 hi)).2
abbrev CZ:List (String×DataW Unit):=[("math/bits.deBruijn32tab",Rows.laid_math_bits_deBruijn32tab),("math/bits.deBruijn64tab",Rows.laid_math_bits_deBruijn64tab),("internal/strconv.uint64pow10",Rows.laid_internal_strconv_uint64pow10),("unicode/utf8.acceptRanges",Rows.laid_unicode_utf8_acceptRanges),("unicode/utf8.first",Rows.laid_unicode_utf8_first)]
theorem Im {P:Program} {w:World} {name:String} {k:IntKind} {zs:List Int} {g:Nat} (h:Lib.TabIs P w name k zs) (hg:P.globalNamed name=some g):g<w.heap.size:=by
 unfold Lib.TabIs World.var? at h
 rw[hg]at h
 simp only[Option.bind_some]at h
 rcases Nat.lt_or_ge g w.heap.size with h1|h1
 ·exact h1
 ·rw[Array.getElem?_eq_none h1]at h;cases h
theorem G4:(Rows.laid_math_bits_deBruijn64tab:DataW Unit)=Lib.tabData .u8 (Lib.deBruijn64tab.map fun n:Nat=>(n:Int)):=by kernel_rfl
theorem G5:(Rows.laid_internal_strconv_uint64pow10:DataW Unit)=Lib.tabData .u64 Lib.pow10Tab:=by kernel_rfl
theorem yY {P:Program} {w:World} {a:String×DataW Unit} {l:List (String×DataW Unit)} (h:laidMet P (a::l) w):laidMet P l w:=by
 obtain⟨ps,⟨g,t,cs,fuel,p,q,_,_,_,_,hq,rfl⟩,hn,ha⟩:=h
 exact⟨q,hq,(List.nodup_append.1 hn).2.1,fun b off hm=>ha b off (List.mem_append.2 (.inr hm))⟩
theorem IO (w:World) (h:laidMetH Tryz.prog CZ w):o8 Tryz.prog w (fun _=>False):=fun t ht g hg=>by
 rw[Go.MakeChecks.laidMetH_plain _ _ _ (by kernel_rfl)]at h
 simp only[Ce,List.mem_cons,List.not_mem_nil,or_false]at ht
 rcases ht with rfl|rfl
 ·have hgn:Tryz.prog.globalNamed "math/bits.deBruijn64tab"=some 3:=by kernel_rfl
  have hT:Lib.TabIs Tryz.prog w "math/bits.deBruijn64tab" .u8 (Lib.deBruijn64tab.map fun n:Nat=>(n:Int)):=by
   unfold CZ at h
   rw[G4]at h
   exact Lib.tabIs_of_head (t:=327) (e:=5) (n:=64) hgn (by kernel_rfl) (by kernel_rfl) (by kernel_rfl) (by kernel_rfl) (by kernel_rfl) (yY h)
  exact⟨fun h=>h,Im hT hg,hT⟩
 ·have hgn:Tryz.prog.globalNamed "internal/strconv.uint64pow10"=some 0:=by kernel_rfl
  have hT:Lib.TabIs Tryz.prog w "internal/strconv.uint64pow10" .u64 Lib.pow10Tab:=by
   unfold CZ at h
   rw[G5]at h
   exact Lib.tabIs_of_head (t:=298) (e:=61) (n:=20) hgn (by kernel_rfl) (by kernel_rfl) (by kernel_rfl) (by kernel_rfl) (by kernel_rfl) (yY (yY h))
  exact⟨fun h=>h,Im hT hg,hT⟩
theorem Lc:ownKnob Tryz.prog.godebug=none:=by kernel_rfl
theorem D3:laidOutB Tryz.prog=true:=by kernel_rfl
noncomputable def vD (os:Os):World:=CY (CY (CY (CY (CY (World.holding Tryz.prog os ⟨#[],#[],[]⟩) 0 (yF (Rows.laid_internal_strconv_uint64pow10:DataW Unit))) 2 (yF (Rows.laid_math_bits_deBruijn32tab:DataW Unit))) 3 (yF (Rows.laid_math_bits_deBruijn64tab:DataW Unit))) 4 (yF Rows.laid_unicode_utf8_first)) 5 (yF (Rows.laid_unicode_utf8_acceptRanges:DataW Unit))
theorem Jq (os:Os) (args:Array Value):laidMetH Tryz.prog CZ ((vD os).forCall (fun _ _=>0) ⟨#[],args,[]⟩).memory:=by
 have h:laidMet Tryz.prog CZ ((vD os).forCall (fun _ _=>0) ⟨#[],args,[]⟩).memory:=laidMet_of_run3 8 (by kernel_rfl) (by kernel_rfl) (by kernel_rfl)
 exact laidMetH_of_parts h (by kernel_rfl)
end Go.Vc
