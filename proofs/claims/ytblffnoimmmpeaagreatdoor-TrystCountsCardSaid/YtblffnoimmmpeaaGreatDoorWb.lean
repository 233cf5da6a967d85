/- A part of the proofs of the seat YtblffnoimmmpeaaGreatDoor: the contracts of functions, each proved out of its code. -/
import Derived.Test.YtblffnoimmmpeaaGreatDoorWa
import Derived.Test.YtblffnoimmmpeaaGreatDoorVc
import Derived.Test.YtblffnoimmmpeaaGreatDoorProg
namespace Go.Vc
open Go.Proofs
set_option linter.unusedSimpArgs false
set_option linter.unusedVariables false
set_option maxRecDepth 10000
def BC (v:Vl):Vl:={ v with s:=if 70<v.s.size then v.s.extract 0 70 else v.s }
theorem Qu (v:Vl):Fn Tryz.prog 139 [v.pv] (.pv (BC v).pv) []:=by
 refine c139.r [] (by simp) ?_
 simp only[go_sem,M139]
 refine⟨fun h=>⟨by omega,?_⟩,fun h=>?_⟩
 ·simp[BC,show 70<v.s.size by omega]
 ·simp[BC,show ¬70<v.s.size by omega]
theorem Mn (n:Int):Fn Tryz.prog 244 [pI n] (.pv (pB false)) []:=by
 refine c244.r [] (by simp) ?_
 simp only[go_sem,M244]
theorem P4 (a b:Int):Fn Tryz.prog 212 [pI a,pI b] (.pv (pI (oV a b))) []:=by
 refine c212.r [] (by simp) ?_
 simp only[go_sem,M212]
 refine aA (by simp only[go_sem]) (by simp only[go_sem]) (Mn a) ⟨rfl,trivial⟩ trivial ?_
 simp only[go_sem]
 refine aA (by simp only[go_sem]) (by simp only[go_sem]) (Mn b) ⟨rfl,trivial⟩ trivial ?_
 simp only[go_sem]
 unfold oV
 refine⟨fun h=>by rw[if_pos h],fun h=>⟨fun h1=>by rw[if_neg h,if_pos h1],fun h1=>by rw[if_neg h,if_neg h1]⟩⟩
theorem P3 (a b:ByteArray):Fn Tryz.prog 213 [pS a,pS b] (.pv (pI (BJ a b))) []:=by
 refine c213.r [] (by simp) ?_
 simp only[go_sem,M213]
 refine aA (by simp only[go_sem]) (by simp only[go_sem]) (PU a b) ⟨rfl,trivial⟩ trivial ?_
 simp only[go_sem]
theorem Ga:∀x y:List UInt8,Lib.compareBytes x y=if Op.bytesLess x y=true then -1 else if x=y then 0 else 1
 | [],[]=>by simp[Lib.compareBytes,Op.bytesLess]
 | [],_::_=>by simp[Lib.compareBytes,Op.bytesLess]
 | _::_,[]=>by simp[Lib.compareBytes,Op.bytesLess]
 | a::x,b::y=>by
  have ih:=Ga x y
  simp only[Lib.compareBytes,Op.bytesLess]
  by_cases h1:a<b
  ·simp[h1]
  ·by_cases h2:b<a
   ·have h3:a≠b:=fun e=>by subst e;exact h1 h2
    simp[h1,h2,h3]
   ·have h3:a=b:=by
     apply UInt8.toNat_inj.1
     have g1:¬a.toNat<b.toNat:=h1
     have g2:¬b.toNat<a.toNat:=h2
     omega
    subst h3
    simp[h1,ih]
theorem tK (a b:ByteArray):BJ a b=if Op.bytesLess a.toList b.toList=true then -1 else if a=b then 0 else 1:=by
 unfold BJ
 rw[Ga,Lib.toList_data,Lib.toList_data]
 by_cases h:a=b
 ·subst h;simp
 ·have:¬a.data.toList=b.data.toList:=fun e=>h (by
   obtain⟨a⟩:=a
   obtain⟨b⟩:=b
   exact congrArg ByteArray.mk (Array.toList_inj.1 e))
  simp[h,this]
def cE (a b:Vl):Int:=bif a.num then(bif b.num then oV a.n b.n else -1)else(bif b.num then 1 else BJ a.s b.s)
theorem Ia (a b:Vl):Fn Tryz.prog 172 [a.pv,b.pv] (.pv (pI (cE a b))) []:=by
 refine c172.r [] (by simp) ?_
 simp only[go_sem,M172]
 refine⟨fun⟨h1,h2⟩=>?_,fun h=>⟨fun h1=>?_,fun h1=>⟨fun h2=>?_,fun h2=>?_⟩⟩⟩
 ·refine aA (by simp only[go_sem]) (by simp only[go_sem]) (P4 a.n b.n) ⟨rfl,trivial⟩ trivial ?_
  simp only[go_sem,cE,h1,h2]
 ·have h2:b.num=false:=by rcases h with h|h;rw[h1]at h;cases h;exact h
  simp[cE,h1,h2]
 ·simp[cE,h1,h2]
 ·refine aA (by simp only[go_sem]) (by simp only[go_sem]) (P3 a.s b.s) ⟨rfl,trivial⟩ trivial ?_
  simp only[go_sem,cE,h1,h2]
structure In where
 key:Vl
 l:List Kp
 deriving DecidableEq
instance:Inhabited In:=⟨⟨⟨false,0,⟨#[]⟩⟩,[]⟩⟩
abbrev In.pv (i:In):PV:=.agg [pB i.key.num,pI i.key.n,pS i.key.s,ks i.l]
abbrev ins (l:List In):PV:=.lst (l.map In.pv)
theorem iC (l:List In):cY 4 (l.map In.pv):=by
 intro p hp
 obtain⟨k,_,rfl⟩:=List.mem_map.1 hp
 refine⟨rfl,fun c hc=>?_⟩
 simp only[PV.cells,List.mem_cons,List.not_mem_nil,or_false]at hc
 rcases hc with rfl|rfl|rfl|rfl<;>rfl
theorem lE {l:List In} {i:Nat} (h:i<l.length):(l.map In.pv).getD i default=(l.getD i default).pv:=by
 simp[List.getD_eq_getElem?_getD,h]
theorem nQ {l:List In} {i:Nat} (h:i<l.length):l.getD i default=l[i]:=by simp[List.getD_eq_getElem?_getD,h]
abbrev Vl.pt (v:Vl):PV:=.pt [pB v.num,pI v.n,pS v.s]
theorem P5 (x:In) (k:Vl):Fn Tryz.prog 205 [x.pv,k.pt] (.pv (pB (decide (x.key=k)))) []:=by
 refine c205.r [] (by simp) ?_
 simp only[go_sem,M205]
 obtain⟨⟨a,b,c⟩,l⟩:=x
 obtain⟨a',b',c'⟩:=k
 simp
theorem Mt (l:List In) (g:Nat) (caps:List PV) (q:In→Bool) (hl:l.length<100000) (hg:∀k∈l,Fn Tryz.prog g (k.pv::caps) (.pv (pB (q k))) []):
  Fn Tryz.prog 204 [ins l,.fn g caps] (.pv (pI (gZ q l))) []:=rZ c204.r l (iC l) (fun _=>rfl) g caps q hl hg
def kX (l:List In) (k:Vl):Int:=gZ (fun x=>decide (x.key=k)) l
theorem Qi (l:List In) (k:Vl) (hl:l.length<100000):Fn Tryz.prog 165 [ins l,k.pv] (.pv (pI (kX l k))) []:=by
 refine c165.r [] (by simp) ?_
 simp only[go_sem,M165]
 refine aA (by simp only[go_sem]) (by simp only[go_sem]) (Mt l 205 [k.pt] (fun x=>decide (x.key=k)) hl (fun x hx=>P5 x k)) ⟨rfl,trivial⟩ trivial ?_
 simp only[go_sem]
 rfl
def dG (l:List In):Nat:=(l.map fun x=>x.l.length).sum
def eB (l:List In):List Kp:=(l.map fun x=>x.l).flatten
theorem p5 (l:List In):(eB l).length=dG l:=by simp[eB,dG,List.length_flatten,List.map_map,Function.comp_def]
theorem wV {l:List In} {i:Nat} (h:i<l.length):dG (l.take (i+1))=dG (l.take i)+l[i].l.length:=by
 unfold dG
 rw[fB h,nQ h,List.map_append,List.sum_append]
 simp only[List.map_cons,List.map_nil,List.sum_cons,List.sum_nil,Nat.add_zero]
theorem vP {l:List In} {i:Nat} (h:i<l.length):eB (l.take (i+1))=eB (l.take i)++l[i].l:=by
 unfold eB
 rw[fB h,nQ h,List.map_append,List.flatten_append]
 simp only[List.map_cons,List.map_nil,List.flatten_cons,List.flatten_nil,List.append_nil]
theorem vN {l:List In} (hk:∀x∈l,x.l.length<100000):∀i,dG (l.take i)≤i*100000
 | 0=>by simp[dG]
 | i+1=>by
  have ih:=vN hk i
  by_cases h:i<l.length
  ·rw[wV h]
   have:=hk _ (List.getElem_mem h)
   omega
  ·rw[List.take_of_length_le (by omega)]
   rw[List.take_of_length_le (by omega)]at ih
   exact Nat.le_trans ih (Nat.mul_le_mul_right _ (Nat.le_succ i))
theorem Qg (l:List In) (hl:l.length<100000) (hk:∀x∈l,x.l.length<100000):Fn Tryz.prog 178 [ins l] (.pv (pI (dG l))) []:=by
 refine c178.r [] (by simp) ?_
 simp only[go_sem,M178]
 refine aZ (T:=Nat) (fun i=>⟨[(3,.pv (pI (dG (l.take i)))),(6,.pv (ins l)),(7,.pv (pI l.length)),(8,.pv (pI i))],[]⟩) (fun i=>i≤l.length) (fun i=>l.length-i) 0 rfl (Nat.zero_le _) ?_
 intro i hi
 by_cases hlt:i<l.length
 ·have hb:=vN hk i
  have hx:=hk _ (List.getElem_mem hlt)
  have hs:=wV hlt
  simp only[go_sem,B178_0,iC,lE hlt,nQ hlt,show(i:Int)<(l.length:Int)by omega]
  refine⟨⟨by omega,by omega⟩,⟨by omega,by omega⟩,i+1,?_,hlt,by omega⟩
  rw[hs];rfl
 ·have hie:i=l.length:=by omega
  subst hie
  simp only[go_sem,B178_0,R178_0,show ¬((l.length:Int)<(l.length:Int))by omega]
theorem Sb (l:List In) (hl:l.length<100000) (hk:∀x∈l,x.l.length<100000):Fn Tryz.prog 6 [ins l] (.pv (ks (eB l))) []:=by
 refine c6.r [false] (by simp) ?_
 simp only[go_sem,M6]
 refine aZ (T:=Nat) (fun i=>⟨[(0,.pv (ins l)),(3,.row 2003 0 (eB (l.take i)).length),(4,.pv (pI i))],[(2003,.sl 3 ((eB (l.take i)).map Kp.pv))]⟩) (fun i=>i≤l.length) (fun i=>l.length-i) 0 rfl (Nat.zero_le _) ?_
 intro i hi
 by_cases hlt:i<l.length
 ·have hb:=vN hk i
  rw[←p5]at hb
  have hx:=hk _ (List.getElem_mem hlt)
  have hs:=vP hlt
  simp only[go_sem,B6_0,iC,lE hlt,nQ hlt,show(i:Int)<(l.length:Int)by omega,fX]
  refine⟨⟨by omega,by omega⟩,⟨by omega,by omega⟩,i+1,?_,hlt,by omega⟩
  rw[bF,hs,List.length_append,List.map_append];rfl
 ·have hie:i=l.length:=by omega
  subst hie
  simp only[go_sem,B6_0,R6_0,show ¬((l.length:Int)<(l.length:Int))by omega]
  rw[List.take_of_length_le (by simp)]
theorem P6 (k:Kp) (n:Int):Fn Tryz.prog 203 [k.pv,.pt [pU n]] (.pv (pB (decide (k.id=n)))) []:=by
 refine c203.r [] (by simp) ?_
 simp only[go_sem,M203]
theorem P7 (x:In) (n:Int) (hx:x.l.length<100000):Fn Tryz.prog 201 [x.pv,.pt [pU n]] (.pv (pB (oU x.l n))) []:=by
 refine c201.r [] (by simp) ?_
 simp only[go_sem,M201]
 refine aA (by simp only[go_sem]) (by simp only[go_sem]) (Mu x.l 203 [.pt [pU n]] (fun k=>decide (k.id=n)) hx (fun k _=>P6 k n)) ⟨rfl,trivial⟩ trivial ?_
 simp only[go_sem]
 rfl
theorem P8 (l:List In) (g:Nat) (caps:List PV) (q:In→Bool) (hl:l.length<100000) (hg:∀k∈l,Fn Tryz.prog g (k.pv::caps) (.pv (pB (q k))) []):
  Fn Tryz.prog 200 [ins l,.fn g caps] (.pv (pB (l.any q))) []:=Ml c200.r l g caps q (Mt l g caps q hl hg)
theorem Qj (l:List In) (n:Int) (hl:l.length<100000) (hk:∀x∈l,x.l.length<100000):Fn Tryz.prog 164 [ins l,pU n] (.pv (pB (l.any fun x=>oU x.l n))) []:=by
 refine c164.r [] (by simp) ?_
 simp only[go_sem,M164]
 refine aA (by simp only[go_sem]) (by simp only[go_sem]) (P8 l 201 [.pt [pU n]] (fun x=>oU x.l n) hl (fun x hx=>P7 x n (hk x hx))) ⟨rfl,trivial⟩ trivial ?_
 simp only[go_sem]
theorem IB (l:List Kp) (hl:l.length<100000):Fn Tryz.prog 176 [ks l] (.pv (ks l)) []:=(C2 l hl).row (by simp)
def dH (key:Vl) (left:List Kp) (s:List In×Bool) (x:In):List In×Bool:=
 ((if s.2=false∧0≤cE x.key key then s.1++[⟨key,left⟩]else s.1)++(if x.key=key then[]else[x]),s.2||decide (0≤cE x.key key))
def e9 (key:Vl) (left:List Kp) (l:List In) (i:Nat):List In×Bool:=(l.take i).foldl (dH key left) ([],decide (left=[]))
def AI (l:List In) (key:Vl) (left:List Kp):List In:=(e9 key left l l.length).1++if(e9 key left l l.length).2=false then[⟨key,left⟩]else[]
theorem DW {key:Vl} {left:List Kp} {l:List In} {i:Nat} (h:i<l.length):e9 key left l (i+1)=dH key left (e9 key left l i) l[i]:=by
 unfold e9
 rw[fB h,nQ h,List.foldl_append]
 rfl
theorem My (l:List In) (key:Vl) (left:List Kp) (hl:l.length≤1000) (hk:∀x∈l,x.l.length<100000) (hf:left.length<1000000):Fn Tryz.prog 167 [ins l,key.pv,ks left] (.pv (ins (AI l key left))) []:=by
 refine c167.r [false] (by simp) ?_
 simp only[go_sem,M167]
 refine⟨⟨by omega,by omega⟩,⟨by omega,by omega,by omega⟩,?_⟩
 refine aZ (T:=Nat) (fun i=>⟨[(2,.pv (ks left)),(4,.ptr 4 0),(7,.row 14 0 (e9 key left l i).1.length),(8,.pv (pB (e9 key left l i).2)),(18,.pv (ins l)),(19,.pv (pI l.length)),(20,.pv (pI i))],
  [(4,.box [.pv (pB key.num),.pv (pI key.n),.pv (pS key.s)]),(14,.sl 4 ((e9 key left l i).1.map In.pv))]⟩) (fun i=>i≤l.length∧(e9 key left l i).1.length≤2*i) (fun i=>l.length-i) 0 ?_ ⟨Nat.zero_le _,by simp[e9]⟩ ?_
 ·have:decide ((left.length:Int)=0)=decide (left=[]):=decide_eq_decide.2 (by
   constructor
   ·intro h;exact List.eq_nil_of_length_eq_zero (by omega)
   ·intro h;rw[h];rfl)
  rw[this];rfl
 intro i ⟨hi,hlen⟩
 by_cases hlt:i<l.length
 ·have hx:=hk _ (List.getElem_mem hlt)
  have hs:=DW (key:=key) (left:=left) hlt
  have hkey:(decide (l[i].key.num=key.num)&&(decide (l[i].key.n=key.n)&&decide (l[i].key.s=key.s)))=decide (l[i].key=key):=by
   obtain⟨⟨a,b,c⟩,ll⟩:=l[i]
   obtain⟨a',b',c'⟩:=key
   simp
  generalize e9 key left l i=o at*
  obtain⟨out,placed⟩:=o
  have hdiff:(¬l[i].key.num=key.num∨¬l[i].key.n=key.n∨¬l[i].key.s=key.s)→¬l[i].key=key:=fun h e=>by
   rw[e]at h
   rcases h with h|h|h<;>exact h rfl
  have hsame:(l[i].key.num=key.num∧l[i].key.n=key.n∧l[i].key.s=key.s)→l[i].key=key:=fun⟨h1,h2,h3⟩=>by
   generalize l[i].key=a at*
   obtain⟨a1,a2,a3⟩:=a
   obtain⟨b1,b2,b3⟩:=key
   simp only at h1 h2 h3
   rw[h1,h2,h3]
  simp only at hlen
  simp only[go_sem,B167_0,iC,lE hlt,nQ hlt,show(i:Int)<(l.length:Int)by omega]
  refine aF (by simp only[go_sem]) (by simp only[go_sem]) (by simp only[go_sem];rfl) (fun _=>Ia l[i].key key) rfl ?_
  simp only[go_sem,bF]
  refine⟨fun⟨hp,ho⟩=>⟨⟨iC [⟨key,left⟩],by omega,by omega⟩,fun hd=>?_,fun he=>?_⟩,fun hpo=>⟨fun hd=>?_,fun he=>?_⟩⟩
  ·have h1:e9 key left l (i+1)=(out++[⟨key,left⟩]++[l[i]],true):=by
    rw[hs];simp[dH,hp,ho,hdiff hd]
   refine aC (by simp only[go_sem]) rfl (IB l[i].l hx) (.inl rfl) trivial ?_
   simp only[go_sem]
   refine⟨⟨iC [l[i]],by omega,by omega⟩,⟨by omega,by omega⟩,i+1,?_,⟨hlt,by rw[h1];simp;omega⟩,by omega⟩
   rw[h1,List.take_of_length_le (by simp)]
   simp
  ·have h1:e9 key left l (i+1)=(out++[⟨key,left⟩],true):=by
    rw[hs];simp[dH,hp,ho,eq_true (hsame he)]
   refine⟨⟨by omega,by omega⟩,i+1,?_,⟨hlt,by rw[h1];simp;omega⟩,by omega⟩
   rw[h1]
   simp
  ·have h1:e9 key left l (i+1)=(out++[l[i]],placed):=by
    rw[hs]
    rcases hpo with h|h<;>simp[dH,h,hdiff hd]
   refine aC (by simp only[go_sem]) rfl (IB l[i].l hx) (.inl rfl) trivial ?_
   simp only[go_sem]
   refine⟨⟨iC [l[i]],by omega,by omega⟩,⟨by omega,by omega⟩,i+1,?_,⟨hlt,by rw[h1];simp;omega⟩,by omega⟩
   rw[h1,bF]
   simp
  ·have h1:e9 key left l (i+1)=(out,placed):=by
    rw[hs]
    rcases hpo with h|h<;>simp[dH,h,eq_true (hsame he)]
   refine⟨⟨by omega,by omega⟩,i+1,?_,⟨hlt,by rw[h1];simp;omega⟩,by omega⟩
   rw[h1]
   rfl
 ·have hie:i=l.length:=by omega
  subst hie
  simp only[go_sem,B167_0,R167_0,show ¬((l.length:Int)<(l.length:Int))by omega,bF]
  unfold AI
  generalize e9 key left l l.length=o at*
  obtain⟨out,placed⟩:=o
  refine⟨fun h=>⟨⟨iC [⟨key,left⟩],by omega,by omega⟩,?_⟩,fun h=>?_⟩
  ·simp only at h
   rw[List.take_of_length_le (by simp)]
   simp[h]
  ·simp only at h
   simp[h]
end Go.Vc

namespace Go.Vc
open Go.Proofs
set_option maxRecDepth 100000
def M193:MC:=(.seq (.reg [vI 1 0,bI 2 false] [] [1] [1]) (.seq (.reg [fI 6 1 1,lJ 7 6 1,qi 8 (.bin .eql (.t 7) (.c (.string ⟨#[]⟩))),mi 3 8] [] [1,3] [1,1021,1026,1032]) (.seq (.reg [kI 4 0] [] [1,3,4] [1,1021,1026,1032]) (.seq (.reg [fI 9 1 2,lI 10 9 3,qi 11 (.mk [.pv (.sc (.bool false)),.pv (.sc (.int .i64 0)),.pv (.sc (.string ⟨#[]⟩))] []),qi 12 (.seq false [2,0,1] (.t 10) (.t 11)),mi 5 12] [] [1,3,4,5] [1,1021,1026,1032,1035]) (.seq (.seq (.reg [fI 13 1 0,lJ 14 13 1] [] [1,3,4,5,14] [1,1021,1026,1032,1035]) (.block 0 (.seq (.reg [qi 16 (.bin .eql (.t 14) (.c (.string ⟨#[97,108,108]⟩))),mi 15 16] [] [1,3,4,5,14,15] [1,1021,1026,1032,1035]) (.cond (.t 15) .skip (.seq (.reg [qi 18 (.bin .eql (.t 14) (.c (.string ⟨#[116,111,112,105,99]⟩))),mi 17 18] [] [1,3,4,5,14,17] [1,1021,1026,1032,1035]) (.cond (.t 17) (.reg [fI 19 1 1,lJ 20 19 1,cI 21 77 [.t 20],mi 3 21] [] [1,3,4,5] [1,1021,1026,1032,1035]) (.seq (.reg [qi 23 (.bin .eql (.t 14) (.c (.string ⟨#[104,97,115]⟩))),mi 22 23] [] [1,3,4,5,14,22] [1,1021,1026,1032,1035]) (.cond (.t 22) (.reg [fI 24 1 1,lJ 25 24 1,cI 26 71 [.t 25],mi 3 26] [] [1,3,4,5] [1,1021,1026,1032,1035]) (.seq (.seq (.reg [qi 28 (.bin .eql (.t 14) (.c (.string ⟨#[101,113]⟩))),mi 27 28] [] [1,3,4,5,14,27] [1,1021,1026,1032,1035]) (.cond (.t 27) .skip (.reg [qi 29 (.bin .eql (.t 14) (.c (.string ⟨#[108,116]⟩))),mi 27 29] [] [1,3,4,5,14,27] [1,1021,1026,1032,1035]))) (.cond (.t 27) (.reg [fI 30 1 1,lJ 31 30 1,fI 33 1 2,lI 34 33 3,cI 32 71 [.t 31],cI 35 75 [.t 34],mi 3 32,mi 5 35] [] [1,3,4,5] [1,1021,1026,1032,1035]) (.seq (.reg [qi 37 (.bin .eql (.t 14) (.c (.string ⟨#[110,111,116]⟩))),mi 36 37] [] [1,3,5,14,36] [1,1021,1026,1032,1035]) (.cond (.t 36) (.reg [kI 4 1] [] [1,3,4,5] [1,1021,1026,1032,1035]) (.seq (.seq (.reg [qi 39 (.bin .eql (.t 14) (.c (.string ⟨#[97,110,100]⟩))),mi 38 39] [] [1,3,5,14,38] [1,1021,1026,1032,1035]) (.cond (.t 38) .skip (.reg [qi 40 (.bin .eql (.t 14) (.c (.string ⟨#[111,114]⟩))),mi 38 40] [] [1,3,5,38] [1,1021,1026,1032,1035]))) (.cond (.t 38) (.reg [kI 4 2] [] [1,3,4,5] [1,1021,1026,1032,1035]) (.seq (.reg [bI 2 false] [] [2] [1021,1026,1032,1035]) .ret))))))))))))))) (.seq (.reg [mi 41 3,mi 42 41,gT 43 42 (.mv (.t 5)),qi 44 (.pick (.t 42) (.t 43) (.c (.bool false))),mi 45 44,gT 46 45 (.fa (.t 1) 5),gT 47 45 (.ld (.t 46) 1 false),gT 48 45 (.len (.t 47) false),gT 49 45 (.mv (.t 4)),gT 50 45 (.bin .eql (.t 48) (.t 49)),qi 51 (.pick (.t 45) (.t 50) (.c (.bool false))),mi 2 51] [] [2] [1021,1026,1032,1035]) .ret))))))
theorem c193:Cd 193 52 [RV.tmp 2] M193:=cO [] (rz [] [(13,[(0,231),(1,230),(3,248),(4,240),(2,0),(5,0),(6,192),(7,128)],255)] [0,1,2,3,4,18,5,6,3,8,3,11,10,3,13,3,15,16,3,19] M193) Tryz.func193 (by kernel_rfl) Tryz.ntmps193
def M192:MC:=(.reg [lJ 1 0 1,oJ 2 .add 1 1,⟨none,none,.st (.t 0) (.t 2) 1⟩] [] [] [250000])
theorem PE:bX Tryz.prog [] Tryz.f192.ntmps [(0,⟨[],[250000],[],0,[],none⟩)] (Tryz.f192.body.getD .skip)=some M192:=by kernel_rfl
def M99:MC:=(.seq (.reg [vI 1 0,bI 2 false] [] [1] [1]) (.seq (.reg [aI 3 [.pv (.sc (.int .i64 0))]] [] [1,3] [1,3,1008]) (.seq (.reg [lI 7 1 6,dI 8 153 [.t 3,.t 7,.c (.int .i64 8)],mi 6 8,xI 9 6 0,xI 10 6 1,mi 4 9,mi 5 10] [] [4,5] [3,1008]) (.seq (.reg [mi 11 5,mi 12 11,gT 13 12 (.mv (.t 4)),gT 14 12 (.bin .leq (.t 13) (ic 8)),qi 15 (.pick (.t 12) (.t 14) (.c (.bool false))),mi 2 15] [] [2] [3,1008]) .ret))))
theorem c99:Cd 99 16 [RV.tmp 2] M99:=cO [8] (rn [] [] 4 M99) Tryz.func99 (by kernel_rfl) Tryz.ntmps99
def M197:MC:=(.seq (.reg [vI 1 0,qi 2 (.mv (.c (.pointer none)))] [] [1] [1]) (.seq (.reg [lI 4 1 4,qi 5 (.mk [.pv (.sc (.string ⟨#[]⟩)),.pv (.sc (.string ⟨#[]⟩)),.pv (.sc (.int .u64 0)),.e0,.pv (.sc (.map none))] [(0,4,(.t 4))]),vI 6 5,mi 3 6] [] [3] [6,8]) (.seq (.reg [mi 7 3,⟨some 8,none,.mkm⟩,mi 9 3,qi 10 (.bnd 227 [.t 9]),⟨none,none,.mset (.t 8) (.c (.string ⟨#[97,108,108]⟩)) (.t 10) Kk.str⟩,mi 11 3,qi 12 (.bnd 228 [.t 11]),⟨none,none,.mset (.t 8) (.c (.string ⟨#[116,111,112,105,99]⟩)) (.t 12) Kk.str⟩,mi 13 3,qi 14 (.bnd 229 [.t 13]),⟨none,none,.mset (.t 8) (.c (.string ⟨#[104,97,115]⟩)) (.t 14) Kk.str⟩,mi 15 3,qi 16 (.bnd 230 [.t 15]),⟨none,none,.mset (.t 8) (.c (.string ⟨#[101,113]⟩)) (.t 16) Kk.str⟩,mi 17 3,qi 18 (.bnd 231 [.t 17]),⟨none,none,.mset (.t 8) (.c (.string ⟨#[108,116]⟩)) (.t 18) Kk.str⟩,mi 19 3,qi 20 (.bnd 232 [.t 19]),⟨none,none,.mset (.t 8) (.c (.string ⟨#[110,111,116]⟩)) (.t 20) Kk.str⟩,mi 21 3,qi 22 (.bnd 233 [.t 21]),⟨none,none,.mset (.t 8) (.c (.string ⟨#[97,110,100]⟩)) (.t 22) Kk.str⟩,mi 23 3,qi 24 (.bnd 234 [.t 23]),⟨none,none,.mset (.t 8) (.c (.string ⟨#[111,114]⟩)) (.t 24) Kk.str⟩,mi 25 8,hI 26 7,fI 27 26 4,⟨none,none,.st (.t 27) (.t 25) 1⟩] [] [3] [6,8]) (.seq (.reg [mi 28 3,mi 2 28] [] [2] [6,8]) .ret))))
theorem PD:bX Tryz.prog [] Tryz.f197.ntmps [(0,⟨[1],[1],[],0,[],none⟩),
  (1,⟨[3],[6,8],[],0,[],none⟩),
  (2,⟨[3],[6,8],[],0,[],none⟩),
  (3,⟨[2],[6,8],[],0,[],none⟩)] (Tryz.f197.body.getD .skip)=some M197:=by kernel_rfl
def M227:MC:=(.seq (.reg [vI 3 1,bI 4 false] [] [] [200001,200002]) (.seq (.reg [bI 4 true] [] [4] [200001,200002]) .ret))
theorem c227:Cd 227 5 [RV.tmp 4] M227:=cO [] (rn [] [] 2 M227) Tryz.func227 (by kernel_rfl) Tryz.ntmps227
def M228:MC:=(.seq (.reg [vI 3 1,bI 4 false] [] [0,3] [3,200001,200002]) (.seq (.reg [fI 5 3 1,lJ 6 5 1,mi 7 0,hI 8 7,fI 9 8 0,fI 10 9 0,lJ 11 10 1,cI 12 27 [.t 6,.t 11],mi 4 12] [] [4] [1012,200001,200002]) .ret))
theorem c228:Cd 228 13 [RV.tmp 4] M228:=cO [] (rn [] [(1,[(0,387),(1,386),(2,508),(3,504),(4,496),(5,480),(6,448),(7,0),(8,256)],511)] 2 M228) Tryz.func228 (by kernel_rfl) Tryz.ntmps228
def M229:MC:=(.seq (.reg [vI 3 1,bI 4 false] [] [0,3] [3,200001,200002]) (.seq (.seq (.grp [5,1014] [⟨8,none,.q (.mv (.t 0)),[0],[200001]⟩,⟨9,none,.q (.nch (.t 8)),[8],[200001]⟩,⟨10,none,.q (.fa (.t 9) 0),[9],[200001]⟩,⟨11,none,.q (.ld (.t 10) 4 true),[10],[200001]⟩,⟨12,none,.q (.fa (.t 3) 1),[3],[3]⟩,⟨13,none,.q (.ld (.t 12) 1 false),[12],[3]⟩,⟨14,none,.call (.f 163) [.t 11,.t 13],[11,13],[]⟩,⟨7,none,.q (.mv (.t 14)),[14],[1014]⟩,⟨15,none,.q (.ext (.t 7) 0),[7],[1014]⟩,⟨16,none,.q (.ext (.t 7) 1),[7],[1014]⟩,⟨5,none,.alloc [.pv (.sc (.bool false)),.pv (.sc (.int .i64 0)),.pv (.sc (.string ⟨#[]⟩))],[],[]⟩] [5,6,15,16] [5,1014,200001,200002]) (.reg [⟨none,none,.st (.t 5) (.t 15) 3⟩,mi 6 16] [] [6] [1014,200001,200002])) (.seq (.reg [mi 17 6,mi 4 17] [] [4] [1014,200001,200002]) .ret)))
theorem c229:Cd 229 18 [RV.tmp 4] M229:=cO [] (rz [(1,⟨[6],[1014,200001,200002],[(11,0),(12,4096)],6143,[],some ⟨[5,1014],[(0,[0],[200001]),(1,[8],[200001]),(2,[9],[200001]),(3,[10],[200001]),(4,[3],[3]),(5,[12],[3]),(6,[11,13],[]),(7,[14],[1014]),(8,[7],[1014]),(9,[7],[1014]),(10,[],[])],[5,6,15,16],[5,1014,200001,200002]⟩⟩)] [] [0,0,2] M229) Tryz.func229 (by kernel_rfl) Tryz.ntmps229
def M230:MC:=(.seq (.reg [vI 3 1,bI 4 false] [] [0,3] [3,200001,200002]) (.seq (.seq (.grp [5,1014] [⟨8,none,.q (.mv (.t 0)),[0],[200001]⟩,⟨9,none,.q (.nch (.t 8)),[8],[200001]⟩,⟨10,none,.q (.fa (.t 9) 0),[9],[200001]⟩,⟨11,none,.q (.ld (.t 10) 4 true),[10],[200001]⟩,⟨12,none,.q (.fa (.t 3) 1),[3],[3]⟩,⟨13,none,.q (.ld (.t 12) 1 false),[12],[3]⟩,⟨14,none,.call (.f 163) [.t 11,.t 13],[11,13],[]⟩,⟨7,none,.q (.mv (.t 14)),[14],[1014]⟩,⟨15,none,.q (.ext (.t 7) 0),[7],[1014]⟩,⟨16,none,.q (.ext (.t 7) 1),[7],[1014]⟩,⟨5,none,.alloc [.pv (.sc (.bool false)),.pv (.sc (.int .i64 0)),.pv (.sc (.string ⟨#[]⟩))],[],[]⟩] [3,5,6,15,16] [3,5,1014,200001,200002]) (.reg [⟨none,none,.st (.t 5) (.t 15) 3⟩,mi 6 16] [] [3,5,6] [3,5,1014,200001,200002])) (.seq (.reg [mi 17 6,mi 18 17,gT 19 18 (.ld (.t 5) 3 true),gT 20 18 (.fa (.t 3) 2),gT 21 18 (.ld (.t 20) 3 true),gT 22 18 (.seq false [2,0,1] (.t 19) (.t 21)),qi 23 (.pick (.t 18) (.t 22) (.c (.bool false))),mi 4 23] [] [4] [1014,200001,200002]) .ret)))
theorem c230:Cd 230 24 [RV.tmp 4] M230:=cO [] (rz [(1,⟨[3,5,6],[3,5,1014,200001,200002],[(11,0),(12,4096)],6143,[],some ⟨[5,1014],[(0,[0],[200001]),(1,[8],[200001]),(2,[9],[200001]),(3,[10],[200001]),(4,[3],[3]),(5,[12],[3]),(6,[11,13],[]),(7,[14],[1014]),(8,[7],[1014]),(9,[7],[1014]),(10,[],[])],[3,5,6,15,16],[3,5,1014,200001,200002]⟩⟩)] [] [0,0,2] M230) Tryz.func230 (by kernel_rfl) Tryz.ntmps230
def M231:MC:=(.seq (.reg [vI 3 1,bI 4 false] [] [0,3] [3,200001,200002]) (.seq (.seq (.grp [5,1014] [⟨8,none,.q (.mv (.t 0)),[0],[200001]⟩,⟨9,none,.q (.nch (.t 8)),[8],[200001]⟩,⟨10,none,.q (.fa (.t 9) 0),[9],[200001]⟩,⟨11,none,.q (.ld (.t 10) 4 true),[10],[200001]⟩,⟨12,none,.q (.fa (.t 3) 1),[3],[3]⟩,⟨13,none,.q (.ld (.t 12) 1 false),[12],[3]⟩,⟨14,none,.call (.f 163) [.t 11,.t 13],[11,13],[]⟩,⟨7,none,.q (.mv (.t 14)),[14],[1014]⟩,⟨15,none,.q (.ext (.t 7) 0),[7],[1014]⟩,⟨16,none,.q (.ext (.t 7) 1),[7],[1014]⟩,⟨5,none,.alloc [.pv (.sc (.bool false)),.pv (.sc (.int .i64 0)),.pv (.sc (.string ⟨#[]⟩))],[],[]⟩] [3,5,6,15,16] [3,5,1014,200001,200002]) (.reg [⟨none,none,.st (.t 5) (.t 15) 3⟩,mi 6 16] [] [3,5,6] [3,5,1014,200001,200002])) (.seq (.reg [mi 17 6,mi 18 17,gT 19 18 (.fa (.t 5) 0),gT 20 18 (.ld (.t 19) 1 false),gT 21 18 (.fa (.t 3) 2),gT 22 18 (.fa (.t 21) 0),gT 23 18 (.ld (.t 22) 1 false),gT 24 18 (.beq false (.t 20) (.t 23)),qi 25 (.pick (.t 18) (.t 24) (.c (.bool false))),mi 26 25,gT 27 26 (.ld (.t 5) 3 true),gT 28 26 (.fa (.t 3) 2),gT 29 26 (.ld (.t 28) 3 true),⟨some 30,some (26,true),.call (.f 172) [.t 27,.t 29]⟩,gT 31 26 (.bin .lss (.t 30) (ic 0)),qi 32 (.pick (.t 26) (.t 31) (.c (.bool false))),mi 4 32] [] [4] [1014,1030,200001,200002]) .ret)))
theorem c231:Cd 231 33 [RV.tmp 4] M231:=cO [] (rz [(1,⟨[3,5,6],[3,5,1014,200001,200002],[(11,0),(12,4096)],6143,[],some ⟨[5,1014],[(0,[0],[200001]),(1,[8],[200001]),(2,[9],[200001]),(3,[10],[200001]),(4,[3],[3]),(5,[12],[3]),(6,[11,13],[]),(7,[14],[1014]),(8,[7],[1014]),(9,[7],[1014]),(10,[],[])],[3,5,6,15,16],[3,5,1014,200001,200002]⟩⟩)] [] [0,0,2] M231) Tryz.func231 (by kernel_rfl) Tryz.ntmps231
def M232:MC:=(.seq (.reg [vI 3 1,bI 4 false] [] [0,3] [3,1010,200001,200002]) (.seq (.reg [mi 5 0,fI 6 3 5,lJ 7 6 1,qi 8 (.ia (.t 7) (ic 0) 6),lI 9 8 6,dI 10 198 [.t 5,.t 9],qi 11 (.not (.t 10)),mi 4 11] [] [4] [1010,200001,200002]) .ret))
theorem c232:Cd 232 12 [RV.tmp 4] M232:=cO [10] (rn [] [] 2 M232) Tryz.func232 (by kernel_rfl) Tryz.ntmps232
def M233:MC:=(.seq (.reg [vI 3 1,bI 4 false] [] [0,3] [3,1010,1017,200001,200002]) (.seq (.reg [mi 5 0,fI 6 3 5,lJ 7 6 1,qi 8 (.ia (.t 7) (ic 0) 6),lI 9 8 6,dI 10 198 [.t 5,.t 9],mi 11 10,gT 12 11 (.mv (.t 0)),gT 13 11 (.fa (.t 3) 5),gT 14 11 (.ld (.t 13) 1 false),gT 15 11 (.ia (.t 14) (ic 1) 6),gT 16 11 (.ld (.t 15) 6 true),⟨some 17,some (11,true),.calls (.f 198) [.t 12,.t 16]⟩,qi 18 (.pick (.t 11) (.t 17) (.c (.bool false))),mi 4 18] [] [4] [1010,1017,200001,200002]) .ret))
theorem c233:Cd 233 19 [RV.tmp 4] M233:=cO [10,17] (rn [] [] 2 M233) Tryz.func233 (by kernel_rfl) Tryz.ntmps233
def M234:MC:=(.seq (.reg [vI 3 1,bI 4 false] [] [0,3] [3,1010,1017,200001,200002]) (.seq (.reg [mi 5 0,fI 6 3 5,lJ 7 6 1,qi 8 (.ia (.t 7) (ic 0) 6),lI 9 8 6,dI 10 198 [.t 5,.t 9],mi 11 10,gF 12 11 (.mv (.t 0)),gF 13 11 (.fa (.t 3) 5),gF 14 11 (.ld (.t 13) 1 false),gF 15 11 (.ia (.t 14) (ic 1) 6),gF 16 11 (.ld (.t 15) 6 true),⟨some 17,some (11,false),.calls (.f 198) [.t 12,.t 16]⟩,qi 18 (.pick (.t 11) (.c (.bool true)) (.t 17)),mi 4 18] [] [4] [1010,1017,200001,200002]) .ret))
theorem c234:Cd 234 19 [RV.tmp 4] M234:=cO [10,17] (rn [] [] 2 M234) Tryz.func234 (by kernel_rfl) Tryz.ntmps234
def M198:MC:=(.seq (.reg [vI 3 1,bI 4 false] [] [0,3] [3,200001,200002]) (.seq (.reg [mi 5 0,hI 6 5,fI 7 6 4,lJ 8 7 1,fI 9 3 0,lJ 10 9 1,qi 11 (.mget (.t 8) (.t 10) false Kk.str (.pv (.sc .nilFunc))),lI 12 3 6,⟨some 13,none,.calls (.t 11) [.t 12]⟩,mi 4 13] [] [4] [1013,200001,200002]) .ret))
theorem c198:Cd 198 14 [RV.tmp 4] M198:=cO [13] (rn [] [(1,[(0,847),(1,846),(2,844),(3,840),(4,880),(5,864),(6,832),(7,896),(8,0),(9,512)],767)] 2 M198) Tryz.func198 (by kernel_rfl) Tryz.ntmps198
def M163:MC:=(.seq (.reg [vI 2 0,aI 4 [.pv (.sc (.bool false)),.pv (.sc (.int .i64 0)),.pv (.sc (.string ⟨#[]⟩))],bI 5 false] [] [1,2,4] [2,4]) (.seq (.reg [lI 7 2 4,mi 8 1,cI 9 199 [.t 7,.t 8],mi 6 9] [] [2,4,6] [2,4,1009]) (.seq (.seq (.reg [mi 10 6,oJ 11 .lss 10 0] [] [2,4,6,11] [2,4,1009]) (.cond (.t 11) (.seq (.reg [qi 12 (.mk [.pv (.sc (.bool false)),.pv (.sc (.int .i64 0)),.pv (.sc (.string ⟨#[]⟩))] []),⟨none,none,.st (.t 4) (.t 12) 3⟩,bI 5 false] [] [4,5] [4]) .ret) .skip)) (.seq (.reg [fI 13 2 3,lJ 14 13 1,mi 15 6,qi 16 (.ia (.t 14) (.t 15) 4),fI 17 16 1,lI 18 17 3,⟨none,none,.st (.t 4) (.t 18) 3⟩,bI 5 true] [] [4,5] [4]) .ret))))
theorem c163:Cd 163 19 [RV.cell 4 3 true,RV.tmp 5] M163:=cO [] (rn [] [] 5 M163) Tryz.func163 (by kernel_rfl) Tryz.ntmps163
def M199:MC:=(.seq (.reg [vI 2 0,vI 3 1,kI 4 0] [] [2,3] [2,3]) (.seq (.reg [fI 5 2 3,lJ 6 5 1,qi 7 (.clo 236 [.t 3]),cI 8 235 [.t 6,.t 7],mi 4 8] [] [4] [1008]) .ret))
theorem c199:Cd 199 9 [RV.tmp 4] M199:=cO [] (rn [] [] 2 M199) Tryz.func199 (by kernel_rfl) Tryz.ntmps199
def M236:MC:=(.seq (.reg [vI 2 0,bI 3 false] [] [1,2] [2]) (.seq (.reg [fI 4 2 0,lJ 5 4 1,lJ 6 1 1,oI 7 .eql 5 6,mi 3 7] [] [3] []) .ret))
theorem c236:Cd 236 8 [RV.tmp 3] M236:=cO [] (rn [] [] 2 M236) Tryz.func236 (by kernel_rfl) Tryz.ntmps236
def M162:MC:=(.seq (.reg [vI 2 0,vI 3 1,bI 4 false] [(2,2,0)] [2,3] [2,3]) (.seq (.reg [lI 5 2 6,cI 6 99 [.t 5],mi 7 6,gT 8 7 (.ld (.t 3) 4 true),gT 10 7 (.ldc (.t 2) 6 true),⟨some 9,some (7,true),.calls (.f 197) [.t 8]⟩,⟨some 11,some (7,true),.calls (.f 198) [.t 9,.t 10]⟩,qi 12 (.pick (.t 7) (.t 11) (.c (.bool false))),mi 4 12] [] [4] [1006,1009,1011]) .ret))
theorem c162:Cd 162 13 [RV.tmp 4] M162:=cO [9,11] (rn [] [(1,[(0,511),(1,0),(2,508),(3,472),(5,480),(4,0),(6,0),(7,384),(8,256)],431)] 2 M162) Tryz.func162 (by kernel_rfl) Tryz.ntmps162
end Go.Vc

namespace Go.Vc
open Go.Proofs
set_option maxRecDepth 100000
def M153a:MC:=(.reg [⟨(some 4),none,(.box (.t 1))⟩,⟨(some 6),none,(.alloc [(.pv (.sc (.int .i64 0)))])⟩,⟨(some 7),none,(.q (.mv (.c (.bool false))))⟩] [] [0,2,4,6] [4,6,1046,200000])
theorem NQ:bX Tryz.prog [46] Tryz.f153.ntmps [(0,⟨[0,2,4,6],[4,6,1046,200000],[],0,[],none⟩),
  (1,⟨[0,2,4,6],[4,6,1046,200000],[],0,[],none⟩),
  (2,⟨[0,2,4,6],[4,6,1046,200000],[],0,[],none⟩),
  (3,⟨[0,2,4,6,33],[4,6,1031,1046,200000],[],0,[],none⟩),
  (4,⟨[6,7],[6,1046,200000],[],0,[],none⟩),
  (5,⟨[0,2,6,35,36,37],[6,1046,200000],[],0,[],none⟩),
  (6,⟨[0,2,6,35,36,37,38],[6,1046,200000],[],0,[],none⟩),
  (7,⟨[0,2,6,9,35,36,37],[6,9,1046,200000],[],0,[],none⟩),
  (8,⟨[0,2,6,10,11,35,36,37],[6,1046,200000],[],0,[],none⟩),
  (9,⟨[0,2,6,10,35,36,37,50],[6,1046,200000],[],0,[],none⟩),
  (10,⟨[6,7],[6,1046,200000],[],0,[],none⟩),
  (11,⟨[0,2,6,35,36,37],[6,1046,200000],[],0,[],none⟩),
  (12,⟨[0,2,6,35,36,37],[6,1046,200000],[],0,[],none⟩),
  (13,⟨[6,7],[6,1046,200000],[],0,[],none⟩)] (c0Of (Tryz.f153.body.getD .skip))=some M153a:=by kernel_rfl
def B153_0:MC:=(.seq (.reg [⟨(some 38),none,(.q (.bin .lss (.t 37) (.t 36)))⟩] [] [0,2,6,35,36,37,38] [250000,1046,200000]) (.seq (.cond (.t 38) .skip (.exit 0)) (.seq (.block 1 (.seq (.reg [⟨(some 39),none,(.q (.ia (.t 35) (.t 37) 6))⟩,⟨(some 40),none,(.q (.ld (.t 39) 6 true))⟩,⟨(some 9),none,(.alloc [(.pv (.sc (.string ⟨#[]⟩))),(.pv (.sc (.string ⟨#[]⟩))),(.pv (.sc (.bool false))),(.pv (.sc (.int .i64 0))),(.pv (.sc (.string ⟨#[]⟩))),.e0])⟩,⟨none,none,(.st (.t 9) (.t 40) 6)⟩] [] [0,2,6,9,35,36,37] [250000,9,1046,200000]) (.seq (.reg [⟨(some 42),none,(.q (.mv (.t 0)))⟩,⟨(some 43),none,(.q (.ld (.t 9) 6 true))⟩,⟨(some 44),none,(.q (.mv (.t 2)))⟩,⟨(some 45),none,(.q (.bin .sub (.t 44) (ic 1)))⟩,⟨(some 46),none,(.calls (.f 153) [(.t 42),(.t 43),(.t 45)])⟩,⟨(some 41),none,(.q (.mv (.t 46)))⟩,⟨(some 47),none,(.q (.ext (.t 41) 0))⟩,⟨(some 48),none,(.q (.ext (.t 41) 1))⟩,⟨(some 10),none,(.q (.mv (.t 47)))⟩,⟨(some 11),none,(.q (.mv (.t 48)))⟩] [] [0,2,6,10,11,35,36,37] [250000,1046,200000]) (.seq (.seq (.reg [⟨(some 49),none,(.q (.mv (.t 11)))⟩,⟨(some 50),none,(.q (.not (.t 49)))⟩] [] [0,2,6,10,35,36,37,50] [250000,1046,200000]) (.cond (.t 50) (.seq (.reg [⟨none,none,(.st (.t 6) (ic 0) 1)⟩,⟨(some 7),none,(.q (.mv (.c (.bool false))))⟩] [] [6,7] [250000,1046,200000]) .ret) .skip)) (.reg [⟨(some 51),none,(.q (.ld (.t 6) 1 false))⟩,⟨(some 52),none,(.q (.mv (.t 10)))⟩,⟨(some 53),none,(.q (.mm true (.t 51) (.t 52)))⟩,⟨none,none,(.st (.t 6) (.t 53) 1)⟩] [] [0,2,6,35,36,37] [250000,1046,200000]))))) (.reg [⟨(some 54),none,(.q (.bin .add (.t 37) (ic 1)))⟩,⟨(some 37),none,(.q (.mv (.t 54)))⟩] [] [0,2,6,35,36,37] [250000,1046,200000]))))
def R153_0:MC:=(.seq (.reg [⟨(some 55),none,(.q (.ld (.t 6) 1 false))⟩,⟨none,none,(.st (.t 6) (.t 55) 1)⟩,⟨(some 7),none,(.q (.mv (.c (.bool true))))⟩] [] [6,7] [250000,1046,200000]) .ret)
def M153b:MC:=(.seq (.reg [⟨(some 13),none,(.q (.mv (.t 0)))⟩,⟨(some 14),none,(.q (.nch (.t 13)))⟩,⟨(some 15),none,(.q (.fa (.t 14) 0))⟩,⟨(some 16),none,(.q (.ld (.t 15) 1 false))⟩,⟨(some 17),none,(.q (.bin .add (.t 16) (ic 1)))⟩,⟨(some 18),none,(.q (.nch (.t 13)))⟩,⟨(some 19),none,(.q (.fa (.t 18) 0))⟩,⟨none,none,(.st (.t 19) (.t 17) 1)⟩] [] [0,2,4,6] [4,250000,1046,200000]) (.seq (.seq (.reg [⟨(some 20),none,(.q (.mv (.t 2)))⟩,⟨(some 21),none,(.q (.bin .lss (.t 20) (ic 1)))⟩,⟨(some 22),none,(.q (.mv (.t 21)))⟩,⟨(some 23),(some (22,false)),(.q (.mv (.t 0)))⟩,⟨(some 24),(some (22,false)),(.q (.nch (.t 23)))⟩,⟨(some 25),(some (22,false)),(.q (.fa (.t 24) 0))⟩,⟨(some 26),(some (22,false)),(.q (.ld (.t 25) 1 false))⟩,⟨(some 27),(some (22,false)),(.q (.bin .gtr (.t 26) (ic 40)))⟩,⟨(some 28),none,(.q (.pick (.t 22) (.c (.bool true)) (.t 27)))⟩,⟨(some 29),none,(.q (.mv (.t 28)))⟩,⟨(some 30),(some (29,false)),(.q (.ld (.t 4) 6 true))⟩,⟨(some 31),(some (29,false)),(.call (.f 193) [(.t 30)])⟩,⟨(some 32),(some (29,false)),(.q (.not (.t 31)))⟩,⟨(some 33),none,(.q (.pick (.t 29) (.c (.bool true)) (.t 32)))⟩] [] [0,2,4,6,33] [4,250000,1031,1046,200000]) (.cond (.t 33) (.seq (.reg [⟨none,none,(.st (.t 6) (ic 0) 1)⟩,⟨(some 7),none,(.q (.mv (.c (.bool false))))⟩] [] [6,7] [250000,1046,200000]) .ret) .skip)) (.seq (.seq (.reg [⟨(some 34),none,(.q (.fa (.t 4) 5))⟩,⟨(some 35),none,(.q (.ld (.t 34) 1 false))⟩,⟨(some 36),none,(.q (.len (.t 35) false))⟩,⟨(some 37),none,(.q (.mv (ic 0)))⟩] [] [0,2,6,35,36,37] [250000,1046,200000]) (.block 0 (.loop B153_0))) R153_0)))
theorem NP:bX Tryz.prog [46] Tryz.f153.ntmps [(0,⟨[0,2,4,6],[4,250000,1046,200000],[],0,[],none⟩),
  (1,⟨[0,2,4,6],[4,250000,1046,200000],[],0,[],none⟩),
  (2,⟨[0,2,4,6],[4,250000,1046,200000],[],0,[],none⟩),
  (3,⟨[0,2,4,6,33],[4,250000,1031,1046,200000],[],0,[],none⟩),
  (4,⟨[6,7],[250000,1046,200000],[],0,[],none⟩),
  (5,⟨[0,2,6,35,36,37],[250000,1046,200000],[],0,[],none⟩),
  (6,⟨[0,2,6,35,36,37,38],[250000,1046,200000],[],0,[],none⟩),
  (7,⟨[0,2,6,9,35,36,37],[250000,9,1046,200000],[],0,[],none⟩),
  (8,⟨[0,2,6,10,11,35,36,37],[250000,1046,200000],[],0,[],none⟩),
  (9,⟨[0,2,6,10,35,36,37,50],[250000,1046,200000],[],0,[],none⟩),
  (10,⟨[6,7],[250000,1046,200000],[],0,[],none⟩),
  (11,⟨[0,2,6,35,36,37],[250000,1046,200000],[],0,[],none⟩),
  (12,⟨[0,2,6,35,36,37],[250000,1046,200000],[],0,[],none⟩),
  (13,⟨[6,7],[250000,1046,200000],[],0,[],none⟩)] (c1Of (Tryz.f153.body.getD .skip))=some M153b:=by kernel_rfl
end Go.Vc

namespace Go.Vc
open Go.Proofs
set_option maxRecDepth 100000
theorem c39:Cd 39 95 [RV.tmp 6] (Ej 15 208 (.agg [(.sc (.string ⟨#[]⟩)),(.lst []),(.lst []),(.sc (.string ⟨#[]⟩)),(.sc (.string ⟨#[]⟩)),(.sc (.int .i64 0)),(.sc (.int .i64 0)),(.sc (.int .i64 0)),(.lst []),(.lst []),(.sc (.int .i64 0)),(.sc (.int .i64 0)),(.sc (.int .i64 0)),(.sc (.int .i64 0)),(.sc (.int .i64 0))]) 101 102):=cO [60,67] CU Tryz.func39 (by kernel_rfl) Tryz.ntmps39
theorem c40:Cd 40 8 [RV.tmp 2] (Az 15 208):=cO [] (vT 15) Tryz.func40 (by kernel_rfl) Tryz.ntmps40
theorem c42:Cd 42 33 [RV.tmp 6] (HU 15 208 (.agg [(.sc (.string ⟨#[]⟩)),(.lst []),(.lst []),(.sc (.string ⟨#[]⟩)),(.sc (.string ⟨#[]⟩)),(.sc (.int .i64 0)),(.sc (.int .i64 0)),(.sc (.int .i64 0)),(.lst []),(.lst []),(.sc (.int .i64 0)),(.sc (.int .i64 0)),(.sc (.int .i64 0)),(.sc (.int .i64 0)),(.sc (.int .i64 0))])):=cO [26,31] H0 Tryz.func42 (by kernel_rfl) Tryz.ntmps42
theorem c44:Cd 44 8 [RV.tmp 2] (Az 2 32):=cO [] (vT 2) Tryz.func44 (by kernel_rfl) Tryz.ntmps44
theorem c53:Cd 53 19 [RV.tmp 4] (xC 2):=cO [] rU Tryz.func53 (by kernel_rfl) Tryz.ntmps53
theorem c55:Cd 55 33 [RV.tmp 6] (HU 2 32 (.agg [(.sc (.string ⟨#[]⟩)),(.sc (.string ⟨#[]⟩))])):=cO [26,31] H0 Tryz.func55 (by kernel_rfl) Tryz.ntmps55
theorem c66:Cd 66 8 [RV.tmp 2] (Az 3 48):=cO [] (vT 3) Tryz.func66 (by kernel_rfl) Tryz.ntmps66
theorem c88:Cd 88 95 [RV.tmp 6] (Ej 3 48 (.agg [(.sc (.string ⟨#[]⟩)),(.sc (.int .i64 0)),(.lst [])]) 146 147):=cO [60,67] CU Tryz.func88 (by kernel_rfl) Tryz.ntmps88
theorem c106:Cd 106 19 [RV.tmp 4] (xC 3):=cO [] rU Tryz.func106 (by kernel_rfl) Tryz.ntmps106
theorem c132:Cd 132 19 [RV.tmp 4] (xC 15):=cO [] rU Tryz.func132 (by kernel_rfl) Tryz.ntmps132
theorem c148:Cd 148 8 [RV.tmp 2] (Az 1 16):=cO [] (vT 1) Tryz.func148 (by kernel_rfl) Tryz.ntmps148
theorem c160:Cd 160 19 [RV.tmp 4] (xC 6):=cO [] rU Tryz.func160 (by kernel_rfl) Tryz.ntmps160
theorem c169:Cd 169 8 [RV.tmp 2] (Az 2 24):=cO [] (vT 2) Tryz.func169 (by kernel_rfl) Tryz.ntmps169
theorem c170:Cd 170 95 [RV.tmp 6] (Ej 2 24 (.agg [(.sc (.string ⟨#[]⟩)),(.sc (.int .i64 0))]) 209 210):=cO [60,67] CU Tryz.func170 (by kernel_rfl) Tryz.ntmps170
theorem c195:Cd 195 19 [RV.tmp 4] (xC 2):=cO [] rU Tryz.func195 (by kernel_rfl) Tryz.ntmps195
theorem c235:Cd 235 19 [RV.tmp 4] (xC 4):=cO [] rU Tryz.func235 (by kernel_rfl) Tryz.ntmps235
end Go.Vc

namespace Go.Vc
open Go.Proofs
set_option linter.unusedSimpArgs false
set_option linter.unusedVariables false
set_option maxRecDepth 10000
inductive Pd where
 | mk (op s:ByteArray) (v:Vl) (l:List Pd)
instance:Inhabited Pd:=⟨.mk ⟨#[]⟩ ⟨#[]⟩ default []⟩
def Pd.op:Pd→ByteArray|.mk o _ _ _=>o
def Pd.s:Pd→ByteArray|.mk _ s _ _=>s
def Pd.v:Pd→Vl|.mk _ _ v _=>v
def Pd.l:Pd→List Pd|.mk _ _ _ l=>l
mutual
def Pd.pv:Pd→PV
 | .mk o s v l=>.agg [pS o,pS s,pB v.num,pI v.n,pS v.s,.lst (Kf l)]
def Kf:List Pd→List PV
 | []=>[]
 | p::l=>p.pv::Kf l
end
theorem Dm:∀l:List Pd,Kf l=l.map Pd.pv
 | []=>rfl
 | p::l=>by rw[Kf,Dm l];rfl
theorem Pd.pv_eq (p:Pd):p.pv=.agg [pS p.op,pS p.s,pB p.v.num,pI p.v.n,pS p.v.s,.lst (p.l.map Pd.pv)]:=by
 cases p;rw[Pd.pv,Dm];rfl
abbrev HF (l:List Pd):PV:=.lst (l.map Pd.pv)
theorem mB (l:List Pd):cY 6 (l.map Pd.pv):=fun p hp=>by
 obtain⟨q,_,rfl⟩:=List.mem_map.1 hp
 rw[Pd.pv_eq]
 exact⟨rfl,fun c hc=>by
  simp only[PV.cells,List.mem_cons,List.not_mem_nil,or_false]at hc
  rcases hc with rfl|rfl|rfl|rfl|rfl|rfl<;>rfl⟩
abbrev Kl:ByteArray:=⟨#[97,108,108]⟩
abbrev BY:ByteArray:=⟨#[116,111,112,105,99]⟩
abbrev Ki:ByteArray:=⟨#[104,97,115]⟩
abbrev QW:ByteArray:=⟨#[101,113]⟩
abbrev QV:ByteArray:=⟨#[108,116]⟩
abbrev Kh:ByteArray:=⟨#[110,111,116]⟩
abbrev Kj:ByteArray:=⟨#[97,110,100]⟩
abbrev QU:ByteArray:=⟨#[111,114]⟩
def Ep (p:Pd):Prop:=(p.op=Kl∨(p.op=BY∧p.s.size≤1000)∨p.op=Ki∨p.op=QW∨p.op=QV∨(p.op=Kh∧p.l.length=1)∨(p.op=Kj∧p.l.length=2)∨(p.op=QU∧p.l.length=2))∧p.l.length≤2∧p.s.size≤1000∧p.v.s.size≤1000
def vZ (v:Vl):Bool:=decide (v.num=false)&&(decide (v.n=0)&&decide (v.s=⟨#[]⟩))
def Cb (op s:ByteArray) (v:Vl) (n:Nat):Bool:=
 if op=Kl then(decide (s=⟨#[]⟩)&&vZ v)&&decide (n=0)
 else if op=BY then(rY s&&vZ v)&&decide (n=0)
 else if op=Ki then(b8 s&&vZ v)&&decide (n=0)
 else if op=QW then(b8 s&&cU v)&&decide (n=0)
 else if op=QV then(b8 s&&cU v)&&decide (n=0)
 else if op=Kh then(decide (s=⟨#[]⟩)&&vZ v)&&decide (n=1)
 else if op=Kj then(decide (s=⟨#[]⟩)&&vZ v)&&decide (n=2)
 else if op=QU then(decide (s=⟨#[]⟩)&&vZ v)&&decide (n=2)
 else false
abbrev uR (p:Pd):Bool:=Cb p.op p.s p.v p.l.length
theorem Qb (p:Pd) (hl:p.l.length≤100000):Fn Tryz.prog 193 [p.pv] (.pv (pB (uR p))) []:=by
 rw[Pd.pv_eq]
 obtain⟨op,s,v,l⟩:=p
 show Fn Tryz.prog 193 [.agg [pS op,pS s,pB v.num,pI v.n,pS v.s,.lst (l.map Pd.pv)]] (.pv (pB (Cb op s v l.length))) []
 simp only[Pd.l]at hl
 refine c193.r [] (by simp) ?_
 simp only[go_sem,M193]
 have hz:vZ v=(decide (v.num=false)&&(decide (v.n=0)&&decide (v.s=({ data:=#[] }:ByteArray)))):=rfl
 have hL0:decide ((l.length:Int)=0)=decide (l.length=0):=decide_eq_decide.2 (by omega)
 have hL1:decide ((l.length:Int)=1)=decide (l.length=1):=decide_eq_decide.2 (by omega)
 have hL2:decide ((l.length:Int)=2)=decide (l.length=2):=decide_eq_decide.2 (by omega)
 unfold Cb
 simp only[←hz,hL0,hL1,hL2]
 generalize vZ v=z
 refine⟨fun h=>by rw[if_pos h],fun h1=>?_⟩
 rw[if_neg h1]
 refine⟨fun h=>?_,fun h2=>?_⟩
 ·rw[if_pos h]
  refine aA (by simp only[go_sem]) (by simp only[go_sem]<;>rfl) (Nj s) ⟨rfl,trivial⟩ trivial ?_
  simp only[go_sem,hL0]
 rw[if_neg h2]
 refine⟨fun h=>?_,fun h3=>?_⟩
 ·rw[if_pos h]
  refine aA (by simp only[go_sem]) (by simp only[go_sem]<;>rfl) (x2 s) ⟨rfl,trivial⟩ trivial ?_
  simp only[go_sem,hL0]
 rw[if_neg h3]
 refine⟨fun h=>?_,fun h4=>?_⟩
 ·rw[if_pos h]
  refine⟨fun _=>?_,fun h0=>absurd h h0⟩
  refine aA (by simp only[go_sem]) (by simp only[go_sem]<;>rfl) (x2 s) ⟨rfl,trivial⟩ trivial ?_
  simp only[go_sem]
  refine aA (by simp only[go_sem]) (by simp only[go_sem]<;>rfl) (Ea v) ⟨rfl,trivial⟩ trivial ?_
  simp only[go_sem,hL0]
 rw[if_neg h4]
 refine⟨fun h=>?_,fun h5=>?_⟩
 ·rw[if_pos h]
  refine aA (by simp only[go_sem]) (by simp only[go_sem]<;>rfl) (x2 s) ⟨rfl,trivial⟩ trivial ?_
  simp only[go_sem]
  refine aA (by simp only[go_sem]) (by simp only[go_sem]<;>rfl) (Ea v) ⟨rfl,trivial⟩ trivial ?_
  simp only[go_sem,hL0]
 rw[if_neg h5]
 refine⟨fun h=>by rw[if_pos h],fun h6=>?_⟩
 rw[if_neg h6]
 refine⟨fun h=>?_,fun h7=>?_⟩
 ·rw[if_pos h]
  exact⟨fun _=>rfl,fun h0=>absurd h h0⟩
 rw[if_neg h7]
 exact⟨fun h=>by rw[if_pos h],fun h=>by rw[if_neg h]⟩
theorem JT {p:Pd} (h:uR p=true):Ep p:=by
 unfold uR Cb at h
 unfold Ep
 have hz:vZ p.v=true→p.v.s.size≤1000:=fun h=>by
  simp only[vZ,Bool.and_eq_true,decide_eq_true_eq]at h
  rw[h.2.2];decide
 have hg:rY p.s=true→p.s.size≤1000:=fun h=>by
  simp only[rY,vV,Bool.and_eq_true,decide_eq_true_eq]at h;omega
 have hf:b8 p.s=true→p.s.size≤1000:=fun h=>by
  simp only[b8,Bool.and_eq_true,decide_eq_true_eq]at h;omega
 have hv:cU p.v=true→p.v.s.size≤1000:=fun h=>by
  unfold cU at h
  split at h
  ·rw[of_decide_eq_true h];decide
  ·simp only[Bool.and_eq_true,decide_eq_true_eq]at h;omega
 have he:(⟨#[]⟩:ByteArray).size≤1000:=by decide
 repeat' split at h
 all_goals(simp only[Bool.and_eq_true,decide_eq_true_eq,Bool.false_eq_true]at h)
 all_goals(first|exact h.elim|(obtain⟨⟨h1,h2⟩,h3⟩:=h))
 all_goals(simp only[*,true_and,true_or,or_true,and_true,and_self])
 all_goals(try simp[*])
mutual
def dY:Pd→Int→Int→Int×Bool×Int
 | .mk o s v l,room,k=>if room<1∨40<k+1∨uR (.mk o s v l)=false then(1,false,k+1)else((eW l room (k+1) 0).1+1,(eW l room (k+1) 0).2.1,(eW l room (k+1) 0).2.2)
def eW:List Pd→Int→Int→Int→Int×Bool×Int
 | [],_,k,d=>(d,true,k)
 | q::l,room,k,d=>if(dY q (room-1) k).2.1=false then(0,false,(dY q (room-1) k).2.2)else eW l room (dY q (room-1) k).2.2 (if d<(dY q (room-1) k).1 then(dY q (room-1) k).1 else d)
end
inductive SmP:Pd→Prop
 | mk {p:Pd} (hl:p.l.length≤3) (hs:∀q∈p.l,SmP q):SmP p
inductive GoodP:Pd→Prop
 | mk {p:Pd} (hn:Ep p) (hs:∀q∈p.l,GoodP q):GoodP p
theorem zA (p:Pd) (room k:Int):dY p room k=if room<1∨40<k+1∨uR p=false then(1,false,k+1)else((eW p.l room (k+1) 0).1+1,(eW p.l room (k+1) 0).2.1,(eW p.l room (k+1) 0).2.2):=by
 cases p;rw[dY];rfl
structure DeepOk (room k:Int) (r:Int×Bool×Int):Prop where
 d0:0≤r.1
 d1:r.1≤room+1
 k0:k≤r.2.2
 k1:r.2.2≤41
 k2:r.2.1=true→r.2.2≤40
theorem DM {room:Int} (hr:1≤room):∀(l:List Pd),(∀q∈l,∀k,0≤k→k≤40→DeepOk (room-1) k (dY q (room-1) k)∧((dY q (room-1) k).2.1=true→GoodP q))→
  ∀(k d:Int),0≤k→k≤40→0≤d→d≤room→(0≤(eW l room k d).1∧(eW l room k d).1≤room∧k≤(eW l room k d).2.2∧(eW l room k d).2.2≤41∧((eW l room k d).2.1=true→(eW l room k d).2.2≤40∧∀q∈l,GoodP q))
 | [],_,k,d,h1,h2,h3,h4=>by
  simp only[eW]
  exact⟨h3,h4,Int.le_refl _,by omega,fun _=>⟨h2,fun q hq=>by cases hq⟩⟩
 | q::l,h,k,d,h1,h2,h3,h4=>by
  obtain⟨⟨a1,a2,a3,a4,a5⟩,a6⟩:=h q List.mem_cons_self k h1 h2
  simp only[eW]
  cases hb:(dY q (room-1) k).2.1 with
  | false=>simp only[if_true];exact⟨by omega,by omega,a3,a4,fun h=>by cases h⟩
  | true=>
   simp only[Bool.true_eq_false,if_false]
   have h40:=a5 hb
   have:=DM hr l (fun q hq=>h q (List.mem_cons_of_mem _ hq)) (dY q (room-1) k).2.2 (if d<(dY q (room-1) k).1 then(dY q (room-1) k).1 else d) (by omega) h40 (by split<;>omega) (by split<;>omega)
   refine⟨this.1,this.2.1,by omega,this.2.2.2.1,fun ht=>?_⟩
   obtain⟨b1,b2⟩:=this.2.2.2.2 ht
   refine⟨b1,fun x hx=>?_⟩
   rcases List.mem_cons.1 hx with rfl|hx
   ·exact a6 hb
   ·exact b2 x hx
theorem DL {p:Pd} (h:SmP p):∀(room k:Int),0≤room→0≤k→k≤40→DeepOk room k (dY p room k)∧((dY p room k).2.1=true→GoodP p):=by
 induction h with
 | @mk p hl hs ih=>
  intro room k h1 h2 h3
  rw[zA]
  by_cases hc:room<1∨40<k+1∨uR p=false
  ·rw[if_pos hc]
   exact⟨⟨by simp,by simp only;omega,by simp only;omega,by simp only;omega,fun h=>by cases h⟩,fun h=>by cases h⟩
  ·rw[if_neg hc]
   have hr:1≤room:=by omega
   obtain⟨b1,b2,b3,b4,b5⟩:=DM hr p.l (fun q hq k h4 h5=>ih q hq (room-1) k (by omega) h4 h5) (k+1) 0 (by omega) (by omega) (by omega) (by omega)
   refine⟨⟨by simp only;omega,by simp only;omega,by simp only;omega,b4,fun h=>(b5 h).1⟩,fun h=>.mk (JT (by simp only[not_or]at hc;simpa using hc.2.2)) (b5 h).2⟩
theorem Ex (n:Int) (h:n+1≤9223372036854775807) (h0:0≤n):Q2 Tryz.prog 192 [.ptr 250000 0] [(250000,.box [.pv (pI n)])] (.pv (.tup [])) [(250000,.box [.pv (pI (n+1))])]:=by
 refine LU (by kernel_rfl) Tryz.func192 (by decide) rfl PE (rvs:=[]) (by kernel_rfl) (by rw[Tryz.ntmps192];decide) (by rw[Tryz.ntmps192];decide) (by simp) ?_
 simp only[go_sem,M192]
 exact⟨by omega,by omega⟩
theorem Og {p:Pd} (hp:SmP p):∀(room k:Int),0≤room→room≤8→0≤k→k≤40→j4 Tryz.prog 153 [.ptr 200000 0,.pv p.pv,.pv (pI room)] [(200000,.box [.pv (pI k)])] (.pv (.tup [pI (dY p room k).1,pB (dY p room k).2.1])) [(200000,.box [.pv (pI (dY p room k).2.2)])]:=by
 induction hp with
 | @mk p hl hs ih=>
 intro room k hr0 hr8 hk0 hk40
 refine CF (fn:=Tryz.f153) (c0:=c0Of (Tryz.f153.body.getD .skip)) (c1:=c1Of (Tryz.f153.body.getD .skip)) (mf:=Rf (Tryz.f153.body.getD .skip)) (df:=R2 (Tryz.f153.body.getD .skip)) (id:=Rj (Tryz.f153.body.getD .skip))
  (g:=192) (tb:=6) (tc:=12) (Q:=250000) (d:=3) (by kernel_rfl) Tryz.func153 (by decide) (by kernel_rfl) NQ NP (by kernel_rfl) (by kernel_rfl) (by kernel_rfl) (by kernel_rfl) (by kernel_rfl) (by kernel_rfl) (by rw[Tryz.ntmps153];decide) (by rw[Tryz.ntmps153];decide) (by decide)
  (rvs:=[.cell 6 1 false,.tmp 7]) (by kernel_rfl) (by rw[Tryz.ntmps153];simp) (by rw[Tryz.ntmps153];decide) (by simp) (by simp) (by simp) ?_ ?_ ?_
 ·intro w F ρ ρ' cv h
  simpa only[aB,aD]using h
 ·intro r row hm w F ρ ρ' l h
  simp only[List.mem_singleton,Prod.mk.injEq]at hm
  obtain⟨rfl,rfl⟩:=hm
  simpa only[Row.rel,aO,aB]using h
 ·rw[El,Pd.pv_eq]
  have h193:=Qb p (by omega)
  rw[Pd.pv_eq]at h193
  simp only[go_sem,M153a]
  refine⟨6,rfl,by omega,?_⟩
  rw[El]
  simp only[go_sem,St.renA,g9,List.map_cons,List.map_nil,M153b]
  refine⟨by omega,?_⟩
  refine aF (by simp only[go_sem]) (by simp only[go_sem]) (by simp only[go_sem]<;>rfl) (fun _=>h193) rfl ?_
  simp only[go_sem]
  refine⟨fun hc=>?_,fun hc=>?_⟩
  ·have e1:dY p room k=(1,false,k+1):=by rw[zA,if_pos (by rcases hc with(h|h)|h<;>simp[h])]
   rw[e1]
   refine⟨.box [.pv (pI 0)],.box [.pv (pI 1)],.pv (.tup []),rfl,Ex 0 (by omega) (by omega),?_⟩
   simp only[go_sem,hH,List.map_cons,List.map_nil,List.cons_append,List.nil_append,kF]
  ·have e1:dY p room k=((eW p.l room (k+1) 0).1+1,(eW p.l room (k+1) 0).2.1,(eW p.l room (k+1) 0).2.2):=by
    rw[zA,if_neg (by rintro(h|h|h);exact hc.1.1 h;exact hc.1.2 h;rw[h]at hc;simp at hc)]
   rw[e1]
   have hk1:k+1≤40:=by omega
   have hr1:1≤room:=by omega
   refine aZ (T:=Nat×Int×Int) (fun t=>⟨[(0,.ptr 200000 0),(2,.pv (pI room)),(6,.ptr 250000 0),(35,.pv (HF p.l)),(36,.pv (pI p.l.length)),(37,.pv (pI t.1))],[(250000,.box [.pv (pI t.2.1)]),(200000,.box [.pv (pI t.2.2)])]⟩)
    (fun t=>t.1≤p.l.length∧0≤t.2.1∧t.2.1≤room∧0≤t.2.2∧t.2.2≤40∧eW p.l room (k+1) 0=eW (p.l.drop t.1) room t.2.2 t.2.1) (fun t=>p.l.length-t.1) (0,0,k+1) rfl ⟨Nat.zero_le _,by simp only;omega,by simp only;omega,by simp only;omega,by simp only;omega,rfl⟩ ?_
   rintro⟨i,d,n⟩ ⟨hi,hd0,hd1,hn0,hn1,he⟩
   simp only at hi hd0 hd1 hn0 hn1 he
   rw[he]
   by_cases hlt:i<p.l.length
   ·have hq:p.l[i]∈p.l:=List.getElem_mem hlt
    have hS:=ih _ hq (room-1) n (by omega) (by omega) hn0 hn1
    obtain⟨g1,_⟩:=DL (hs _ hq) (room-1) n (by omega) hn0 hn1
    have e2:eW (p.l.drop i) room n d=if(dY p.l[i] (room-1) n).2.1=false then(0,false,(dY p.l[i] (room-1) n).2.2)else eW (p.l.drop (i+1)) room (dY p.l[i] (room-1) n).2.2 (if d<(dY p.l[i] (room-1) n).1 then(dY p.l[i] (room-1) n).1 else d):=by
     rw[List.drop_eq_getElem_cons hlt,eW]
    rw[e2]
    have hpq:=Pd.pv_eq p.l[i]
    simp only[go_sem,B153_0,mB,aK hlt,hpq,show(i:Int)<(p.l.length:Int)by omega]
    refine⟨by omega,?_⟩
    rw[hpq]at hS
    refine aP (fun _=>200000) (by simp only[go_sem]) (by simp only[go_sem]<;>rfl) hS rfl (by intro e he;simp only[List.mem_cons,List.not_mem_nil,or_false]at he;subst he;simp only[go_sem]) (by simp) (by simp) (by simp) (by intro e he h2;simp only[List.mem_cons,List.not_mem_nil,or_false]at he;subst he;exact absurd h2 (Nat.lt_irrefl _)) ?_
    generalize dY p.l[i] (room-1) n=R at g1 ⊢
    obtain⟨rd,rb,rk⟩:=R
    obtain⟨g2,g3,g4,g5,g6⟩:=g1
    simp only at g2 g3 g4 g5 g6 ⊢
    simp only[go_sem]
    cases rb with
    | false=>
     simp only[go_sem]
     refine⟨.box [.pv (pI 0)],.box [.pv (pI 1)],.pv (.tup []),rfl,Ex 0 (by omega) (by omega),?_⟩
     simp only[go_sem,hH,List.map_cons,List.map_nil,List.cons_append,List.nil_append,kF]
    | true=>
     simp only[go_sem]
     refine⟨by omega,(i+1,if rd>d then rd else d,rk),rfl,⟨hlt,?_,?_,by simp only;omega,g6 rfl,rfl⟩,by simp only;omega⟩
     ·simp only;split<;>omega
     ·simp only;split<;>omega
   ·have e2:i=p.l.length:=by omega
    subst e2
    rw[List.drop_length,eW]
    simp only[go_sem,B153_0,R153_0,show ¬(p.l.length:Int)<(p.l.length:Int)by omega]
    refine⟨.box [.pv (pI d)],.box [.pv (pI (d+1))],.pv (.tup []),rfl,Ex d (by omega) (by omega),?_⟩
    simp only[go_sem,hH,List.map_cons,List.map_nil,List.cons_append,List.nil_append,kF]
def CL (p:Pd):Bool:=(dY p 8 0).2.1&&decide ((dY p 8 0).1≤8)
theorem GZ {p:Pd} (hs:SmP p) (h:CL p=true):GoodP p:=by
 simp only[CL,Bool.and_eq_true]at h
 exact(DL hs 8 0 (by omega) (by omega) (by omega)).2 h.1
theorem OQ {p:Pd} (hs:SmP p):Fn Tryz.prog 99 [p.pv] (.pv (pB (CL p))) []:=by
 refine c99.r [] (by simp) ?_
 have hS:=Og hs 8 0 (by omega) (by omega) (by omega) (by omega)
 rw[Pd.pv_eq]at hS ⊢
 simp only[go_sem,M99]
 refine aP (fun n=>if n=200000 then 3 else n) (by simp only[go_sem]) (by simp only[go_sem]<;>rfl) hS rfl (by intro e he;simp only[List.mem_cons,List.not_mem_nil,or_false]at he;rcases he with rfl;simp only[go_sem]) (by simp) (by simp) (by simp) (by intro e he h9;simp only[List.mem_cons,List.not_mem_nil,or_false]at he;rcases he with rfl;simp at h9) ?_
 simp only[go_sem]
 rfl
abbrev R5:List PV:=[pS Kl,pS BY,pS Ki,pS QW,pS QV,pS Kh,pS Kj,pS QU]
abbrev R4 (r:Nat):List AV:=[.bnd 227 [.ptr r 0],.bnd 228 [.ptr r 0],.bnd 229 [.ptr r 0],.bnd 230 [.ptr r 0],.bnd 231 [.ptr r 0],.bnd 232 [.ptr r 0],.bnd 233 [.ptr r 0],.bnd 234 [.ptr r 0]]
abbrev o6 (e:Ev) (a m:Nat):List (Nat×Row):=[(a,.box [.pv (pS e.topic),.pv (pS e.producer),.pv (.sc (.int .u64 e.seq)),.pv (.lst (e.l.map Fd.pv)),.mp m]),(m,.mpx R5 (R4 a))]
theorem Oe (e:Ev):j4 Tryz.prog 197 [.pv e.pv] [] (.ptr 6 0) (o6 e 6 8):=by
 refine Ge (by kernel_rfl) Tryz.func197 (by decide) rfl PD (rvs:=[.tmp 2]) (by kernel_rfl) (by rw[Tryz.ntmps197];simp) (by rw[Tryz.ntmps197];decide) (by simp) ?_
 simp only[go_sem,M197,rJ,LZ]
 simp
theorem P1 (f:Fd) (n:ByteArray):Fn Tryz.prog 236 [f.pv,.pt [pS n]] (.pv (pB (decide (f.name=n)))) []:=by
 refine c236.r [] (by simp) ?_
 simp only[go_sem,M236]
def C4 (l:List Fd) (n:ByteArray):Int:=gZ (fun f:Fd=>decide (f.name=n)) l
theorem P9 (e:Ev) (n:ByteArray) (hl:e.l.length<100000):Fn Tryz.prog 199 [e.pv,pS n] (.pv (pI (C4 e.l n))) []:=by
 refine c199.r [] (by simp) ?_
 simp only[go_sem,M199]
 refine aA (by simp only[go_sem]) (by simp only[go_sem]<;>rfl) (rZ c235.r e.l (HW e.l) (fun _=>rfl) 236 [.pt [pS n]] (fun f:Fd=>decide (f.name=n)) hl (fun f _=>P1 f n)) ⟨rfl,trivial⟩ trivial ?_
 simp only[go_sem]
 rfl
def mN (e:Ev) (n:ByteArray):Vl×Bool:=if C4 e.l n<0 then(default,false)else((e.l.getD (C4 e.l n).toNat default).v,true)
theorem Fu (e:Ev) (n:ByteArray) (hl:e.l.length<100000):Fn Tryz.prog 163 [e.pv,pS n] (.pv (.tup [(mN e n).1.pv,pB (mN e n).2])) []:=by
 refine c163.r [] (by simp) ?_
 simp only[go_sem,M163]
 refine aA (by simp only[go_sem]) (by simp only[go_sem]<;>rfl) (P9 e n hl) ⟨rfl,trivial⟩ trivial ?_
 simp only[go_sem]
 unfold mN
 rcases eY (fun f:Fd=>decide (f.name=n)) e.l with⟨h1,_⟩|⟨k,hk,h1,_,_⟩
 ·have:C4 e.l n = -1:=h1
  rw[this]
  refine⟨fun _=>rfl,fun h=>absurd h (by omega)⟩
 ·have:C4 e.l n=k:=h1
  rw[this]
  refine⟨fun h=>absurd h (by omega),fun _=>?_⟩
  have e1:((k:Int)).toNat=k:=by omega
  have e2:¬((k:Int)<0):=by omega
  simp only[go_sem,e1,e2,HW,aK hk,aM hk]
  omega
theorem Oc (e:Ev) (p:Pd):j4 Tryz.prog 227 [.ptr 200001 0,.pv p.pv] (o6 e 200001 200002) (.pv (pB true)) (o6 e 200001 200002):=by
 refine c227.s (by simp) (by simp) ?_
 rw[Pd.pv_eq]
 simp only[go_sem,M227]
 done
theorem Ob (e:Ev) (p:Pd) (hg:p.s.size≤1000) (ht:e.topic.size≤1000):j4 Tryz.prog 228 [.ptr 200001 0,.pv p.pv] (o6 e 200001 200002) (.pv (pB (nT p.s e.topic))) (o6 e 200001 200002):=by
 refine c228.s (by simp) (by simp) ?_
 rw[Pd.pv_eq]
 simp only[go_sem,M228]
 refine aA (by simp only[go_sem]) (by simp only[go_sem]<;>rfl) (No p.s e.topic hg ht) ⟨rfl,trivial⟩ trivial ?_
 simp only[go_sem]
 done
theorem Oa (e:Ev) (p:Pd) (hl:e.l.length<100000):j4 Tryz.prog 229 [.ptr 200001 0,.pv p.pv] (o6 e 200001 200002) (.pv (pB (mN e p.s).2)) (o6 e 200001 200002):=by
 refine c229.s (by simp) (by simp) ?_
 rw[Pd.pv_eq]
 simp only[go_sem,M229]
 refine jJ (by simp only[go_sem]) (by simp only[go_sem]<;>rfl) (Fu e p.s hl) ⟨rfl,trivial⟩ trivial ?_
 simp only[go_sem]
 done
theorem Pb (a b:Vl):(decide (a.num=b.num)&&(decide (a.n=b.n)&&decide (a.s=b.s)))=decide (a=b):=by
 cases a;cases b;simp[Bool.decide_and]
theorem N9 (e:Ev) (p:Pd) (hl:e.l.length<100000):j4 Tryz.prog 230 [.ptr 200001 0,.pv p.pv] (o6 e 200001 200002) (.pv (pB ((mN e p.s).2&&decide ((mN e p.s).1=p.v)))) (o6 e 200001 200002):=by
 refine c230.s (by simp) (by simp) ?_
 rw[Pd.pv_eq]
 simp only[go_sem,M230]
 refine jJ (by simp only[go_sem]) (by simp only[go_sem]<;>rfl) (Fu e p.s hl) ⟨rfl,trivial⟩ trivial ?_
 simp only[go_sem]
 rw[Pb]
theorem N8 (e:Ev) (p:Pd) (hl:e.l.length<100000):j4 Tryz.prog 231 [.ptr 200001 0,.pv p.pv] (o6 e 200001 200002) (.pv (pB (((mN e p.s).2&&(mN e p.s).1.num==p.v.num)&&decide (cE (mN e p.s).1 p.v<0)))) (o6 e 200001 200002):=by
 refine c231.s (by simp) (by simp) ?_
 rw[Pd.pv_eq]
 simp only[go_sem,M231]
 refine jJ (by simp only[go_sem]) (by simp only[go_sem]<;>rfl) (Fu e p.s hl) ⟨rfl,trivial⟩ trivial ?_
 simp only[go_sem]
 refine aF (by simp only[go_sem]) (by simp only[go_sem]) (by simp only[go_sem]<;>rfl) (fun _=>Ia (mN e p.s).1 p.v) rfl ?_
 simp only[go_sem]
 done
abbrev QN (o:ByteArray):Option AV:=if o=Kl then some (AV.bnd 227 [AV.ptr 200001 0])else if o=BY then some (AV.bnd 228 [AV.ptr 200001 0])else if o=Ki then some (AV.bnd 229 [AV.ptr 200001 0])else if o=QW then some (AV.bnd 230 [AV.ptr 200001 0])else if o=QV then some (AV.bnd 231 [AV.ptr 200001 0])else if o=Kh then some (AV.bnd 232 [AV.ptr 200001 0])else if o=Kj then some (AV.bnd 233 [AV.ptr 200001 0])else if o=QU then some (AV.bnd 234 [AV.ptr 200001 0])else none
theorem gD {e:Ev} {p:Pd} {g:Nat} {b:Bool} (hop:QN p.op=some (AV.bnd g [AV.ptr 200001 0]))
  (h:j4 Tryz.prog g [.ptr 200001 0,.pv p.pv] (o6 e 200001 200002) (.pv (pB b)) (o6 e 200001 200002)):j4 Tryz.prog 198 [.ptr 200001 0,.pv p.pv] (o6 e 200001 200002) (.pv (pB b)) (o6 e 200001 200002):=by
 refine c198.s (by simp) (by simp) ?_
 rw[Pd.pv_eq]at h ⊢
 simp only[go_sem,M198,hop,Option.isSome_some]
 refine wH hH (by simp only[go_sem]) (by simp only[go_sem]<;>rfl) h rfl (by intro e he;simp only[List.mem_cons,List.not_mem_nil,or_false]at he;rcases he with rfl|rfl<;>simp only[go_sem,hH]) (by simp) (by simp[hH]) (by simp[hH]) (by intro e he h9;simp only[List.mem_cons,List.not_mem_nil,or_false]at he;rcases he with rfl|rfl<;>simp at h9) ?_
 simp only[go_sem,hH]
 done
theorem Od {p:Pd} (hp:GoodP p) (e:Ev) (hl:e.l.length<100000) (ht:e.topic.size≤1000):∃b:Bool,j4 Tryz.prog 198 [.ptr 200001 0,.pv p.pv] (o6 e 200001 200002) (.pv (pB b)) (o6 e 200001 200002):=by
 induction hp with
 | @mk p hn hs ih=>
 obtain⟨hop,_,hsz,_⟩:=hn
 rcases hop with h|h|h|h|h|h|h|h
 ·exact⟨_,gD (g:=227) (by rw[h];rfl) (Oc e p)⟩
 ·exact⟨_,gD (g:=228) (by rw[h.1];rfl) (Ob e p hsz ht)⟩
 ·exact⟨_,gD (g:=229) (by rw[h];rfl) (Oa e p hl)⟩
 ·exact⟨_,gD (g:=230) (by rw[h];rfl) (N9 e p hl)⟩
 ·exact⟨_,gD (g:=231) (by rw[h];rfl) (N8 e p hl)⟩
 ·obtain⟨q,hq⟩:∃q,p.l=[q]:=List.length_eq_one_iff.1 h.2
  obtain⟨b,hb⟩:=ih q (by rw[hq];simp)
  refine⟨!b,gD (g:=232) (by rw[h.1];rfl) (c232.s (by simp) (by simp) ?_)⟩
  have hpq:=Pd.pv_eq q
  have hw:=mB p.l
  rw[hq]at hw
  simp only[List.map_cons,List.map_nil]at hw
  rw[hpq]at hb hw
  have hsub:p.pv=.agg [pS p.op,pS p.s,pB p.v.num,pI p.v.n,pS p.v.s,.lst [q.pv]]:=by rw[Pd.pv_eq,hq];rfl
  rw[hsub]
  simp only[go_sem,M232,hpq,hw]
  refine aP hH (by simp only[go_sem]) (by simp only[go_sem]<;>rfl) hb rfl (by intro e he;simp only[List.mem_cons,List.not_mem_nil,or_false]at he;rcases he with rfl|rfl<;>simp only[go_sem,hH]) (by simp) (by simp[hH]) (by simp[hH]) (by intro e he h9;simp only[List.mem_cons,List.not_mem_nil,or_false]at he;rcases he with rfl|rfl<;>simp at h9) ?_
  simp only[go_sem,hH]
  done
 ·obtain⟨q,r,hq⟩:∃q r,p.l=[q,r]:=by
   match p.l,h.2 with
   | [q,r],_=>exact⟨q,r,rfl⟩
  obtain⟨b,hb⟩:=ih q (by rw[hq];simp)
  obtain⟨c,hc⟩:=ih r (by rw[hq];simp)
  have hpq:=Pd.pv_eq q
  have hpr:=Pd.pv_eq r
  have hw:=mB p.l
  rw[hq]at hw
  simp only[List.map_cons,List.map_nil]at hw
  rw[hpq]at hb hw
  rw[hpr]at hc hw
  have hsub:p.pv=.agg [pS p.op,pS p.s,pB p.v.num,pI p.v.n,pS p.v.s,.lst [q.pv,r.pv]]:=by rw[Pd.pv_eq,hq];rfl
  cases b with
  | false=>
   refine⟨false,gD (g:=233) (by rw[h.1];rfl) (c233.s (by simp) (by simp) ?_)⟩
   rw[hsub]
   simp only[go_sem,M233,hpq,hpr,hw]
   refine aP hH (by simp only[go_sem]) (by simp only[go_sem]<;>rfl) hb rfl (by intro e he;simp only[List.mem_cons,List.not_mem_nil,or_false]at he;rcases he with rfl|rfl<;>simp only[go_sem,hH]) (by simp) (by simp[hH]) (by simp[hH]) (by intro e he h9;simp only[List.mem_cons,List.not_mem_nil,or_false]at he;rcases he with rfl|rfl<;>simp at h9) ?_
   simp only[go_sem,hH,hw]
   done
  | true=>
   refine⟨c,gD (g:=233) (by rw[h.1];rfl) (c233.s (by simp) (by simp) ?_)⟩
   rw[hsub]
   simp only[go_sem,M233,hpq,hpr,hw]
   refine aP hH (by simp only[go_sem]) (by simp only[go_sem]<;>rfl) hb rfl (by intro e he;simp only[List.mem_cons,List.not_mem_nil,or_false]at he;rcases he with rfl|rfl<;>simp only[go_sem,hH]) (by simp) (by simp[hH]) (by simp[hH]) (by intro e he h9;simp only[List.mem_cons,List.not_mem_nil,or_false]at he;rcases he with rfl|rfl<;>simp at h9) ?_
   simp only[go_sem,hH,hw]
   refine aP hH (by simp only[go_sem]) (by simp only[go_sem]<;>rfl) hc rfl (by intro e he;simp only[List.mem_cons,List.not_mem_nil,or_false]at he;rcases he with rfl|rfl<;>simp only[go_sem,hH]) (by simp) (by simp[hH]) (by simp[hH]) (by intro e he h9;simp only[List.mem_cons,List.not_mem_nil,or_false]at he;rcases he with rfl|rfl<;>simp at h9) ?_
   simp only[go_sem,hH]
   done
 ·obtain⟨q,r,hq⟩:∃q r,p.l=[q,r]:=by
   match p.l,h.2 with
   | [q,r],_=>exact⟨q,r,rfl⟩
  obtain⟨b,hb⟩:=ih q (by rw[hq];simp)
  obtain⟨c,hc⟩:=ih r (by rw[hq];simp)
  have hpq:=Pd.pv_eq q
  have hpr:=Pd.pv_eq r
  have hw:=mB p.l
  rw[hq]at hw
  simp only[List.map_cons,List.map_nil]at hw
  rw[hpq]at hb hw
  rw[hpr]at hc hw
  have hsub:p.pv=.agg [pS p.op,pS p.s,pB p.v.num,pI p.v.n,pS p.v.s,.lst [q.pv,r.pv]]:=by rw[Pd.pv_eq,hq];rfl
  cases b with
  | false=>
   refine⟨c,gD (g:=234) (by rw[h.1];rfl) (c234.s (by simp) (by simp) ?_)⟩
   rw[hsub]
   simp only[go_sem,M234,hpq,hpr,hw]
   refine aP hH (by simp only[go_sem]) (by simp only[go_sem]<;>rfl) hb rfl (by intro e he;simp only[List.mem_cons,List.not_mem_nil,or_false]at he;rcases he with rfl|rfl<;>simp only[go_sem,hH]) (by simp) (by simp[hH]) (by simp[hH]) (by intro e he h9;simp only[List.mem_cons,List.not_mem_nil,or_false]at he;rcases he with rfl|rfl<;>simp at h9) ?_
   simp only[go_sem,hH,hw]
   refine aP hH (by simp only[go_sem]) (by simp only[go_sem]<;>rfl) hc rfl (by intro e he;simp only[List.mem_cons,List.not_mem_nil,or_false]at he;rcases he with rfl|rfl<;>simp only[go_sem,hH]) (by simp) (by simp[hH]) (by simp[hH]) (by intro e he h9;simp only[List.mem_cons,List.not_mem_nil,or_false]at he;rcases he with rfl|rfl<;>simp at h9) ?_
   simp only[go_sem,hH]
   done
  | true=>
   refine⟨true,gD (g:=234) (by rw[h.1];rfl) (c234.s (by simp) (by simp) ?_)⟩
   rw[hsub]
   simp only[go_sem,M234,hpq,hpr,hw]
   refine aP hH (by simp only[go_sem]) (by simp only[go_sem]<;>rfl) hb rfl (by intro e he;simp only[List.mem_cons,List.not_mem_nil,or_false]at he;rcases he with rfl|rfl<;>simp only[go_sem,hH]) (by simp) (by simp[hH]) (by simp[hH]) (by intro e he h9;simp only[List.mem_cons,List.not_mem_nil,or_false]at he;rcases he with rfl|rfl<;>simp at h9) ?_
   simp only[go_sem,hH,hw]
   done
theorem Qk {p:Pd} (hs:SmP p) (e:Ev) (hl:e.l.length<100000) (ht:e.topic.size≤1000):∃b:Bool,Fn Tryz.prog 162 [p.pv,e.pv] (.pv (pB b)) []:=by
 have hpv:=Pd.pv_eq p
 have h99:=OQ hs
 cases hm:CL p with
 | false=>
  refine⟨false,c162.r [] (by simp) ?_⟩
  rw[hm]at h99
  rw[hpv]at h99 ⊢
  simp only[go_sem,M162]
  refine aA (by simp only[go_sem]) (by simp only[go_sem]<;>rfl) (h99) ⟨rfl,trivial⟩ trivial ?_
  simp only[go_sem]
  done
 | true=>
  obtain⟨b,hb⟩:=Od (GZ hs hm) e hl ht
  refine⟨b,c162.r [] (by simp) ?_⟩
  rw[hm]at h99
  rw[hpv]at h99 hb ⊢
  simp only[go_sem,M162]
  refine aA (by simp only[go_sem]) (by simp only[go_sem]<;>rfl) (h99) ⟨rfl,trivial⟩ trivial ?_
  simp only[go_sem]
  refine aP (fun n=>n+5000) (by simp only[go_sem]) (by simp only[go_sem]<;>rfl) (Oe e) rfl (by intro e he;cases he) (by simp) (by simp) (by simp) (by intro e he h9;simp only[List.mem_cons,List.not_mem_nil,or_false]at he;rcases he with rfl|rfl<;>simp) ?_
  simp only[go_sem]
  refine aP (fun n=>if n=200001 then 5006 else if n=200002 then 5008 else n) (by simp only[go_sem]) (by simp only[go_sem]<;>rfl) hb rfl (by intro e he;simp only[List.mem_cons,List.not_mem_nil,or_false]at he;rcases he with rfl|rfl<;>simp only[go_sem]) (by simp) (by simp) (by simp) (by intro e he h9;simp only[List.mem_cons,List.not_mem_nil,or_false]at he;rcases he with rfl|rfl<;>simp at h9) ?_
  simp only[go_sem]
  done
end Go.Vc

namespace Go.Vc
open Go.Proofs
set_option linter.unusedSimpArgs false
set_option linter.unusedVariables false
set_option maxRecDepth 10000
def bS (l:List UInt8):Ev×Nat×Nat:=
 if(mT l).2.err=0∧(800<(mT l).2.at_∨iU (mT l).1=false)then(default,0,2)
 else if(mT l).2.err≠0 then(default,0,(mT l).2.err)else((mT l).1,(mT l).2.at_,0)
structure EvN (e:Ev):Prop where
 seq0:0≤e.seq
 seq1:e.seq≤18446744073709551615
 n:∀f∈e.l,-9223372036854775808≤f.v.n∧f.v.n≤9223372036854775807
theorem jM {e:Ev} (h:iU e=true):nS e.topic=true∧b8 e.producer=true∧1≤e.seq∧e.l.length≤8∧∀f∈e.l,b8 f.name=true∧cU f.v=true:=by
 unfold iU at h
 simp only[Bool.and_eq_true,Bool.not_eq_true',decide_eq_false_iff_not,decide_eq_true_eq,List.all_eq_true,List.mem_range]at h
 refine⟨h.1.1.1,h.1.1.2,by omega,h.1.2.2,fun f hf=>?_⟩
 obtain⟨i,hi,rfl⟩:=List.mem_iff_getElem.1 hf
 have:=h.2 i hi
 unfold HH at this
 rw[aM hi]at this
 simp only[Bool.and_eq_true]at this
 exact this.1
theorem fH {s:ByteArray} (h:nS s=true):s.size≤40:=by
 simp only[nS,vV,Bool.and_eq_true,decide_eq_true_eq]at h;omega
theorem fM {s:ByteArray} (h:b8 s=true):s.size≤16:=by
 simp only[b8,Bool.and_eq_true,decide_eq_true_eq]at h;omega
theorem IL {e:Ev} (h:iU e=true) (hn:EvN e):bS (eM e)=(e,(eM e).length,0)∧(eM e).length≤800:=by
 obtain⟨h1,h2,h3,h4,h5⟩:=jM h
 have a1:=fH h1
 have a2:=fM h2
 have a3:∀f∈e.l,f.name.size≤16∧LY f.v:=fun f hf=>⟨fM (h5 f hf).1,(h5 f hf).2,hn.n f hf⟩
 have h8:=Jl a1 a2 hn.seq0 hn.seq1 h4 a3
 refine⟨?_,h8⟩
 unfold bS
 rw[Ja a1 a2 hn.seq0 hn.seq1 h4 a3]
 simp only[h,Bool.true_eq_false,or_false,true_and]
 rw[if_neg (by omega),if_neg (by simp)]
theorem Gm {n:Nat} (h:n<18446744073709551616) : -9223372036854775808≤kH n∧kH n≤9223372036854775807:=by
 unfold kH;split<;>omega
theorem KE (r:Rd) : -9223372036854775808≤r.value.1.n∧r.value.1.n≤9223372036854775807:=by
 have hd:(default:Vl).n=0:=rfl
 unfold Rd.value
 split
 ·rw[hd];omega
 ·simp only
  cases r.rest with
  | nil=>simp only[jW];rw[hd];omega
  | cons k s=>
   have:=BR s
   simp only[jW]
   repeat' split
   all_goals(first|(simp only[hd];omega)|exact Gm this|(simp only;omega))
theorem DG:∀(n:Nat) (r:Rd),∀f∈(Rd.fields n r).1,-9223372036854775808≤f.v.n∧f.v.n≤9223372036854775807
 | 0,r,f,h=>by simp[Rd.fields]at h
 | n+1,r,f,h=>by
  simp only[Rd.fields]at h
  rcases List.mem_cons.1 h with rfl|h
  ·exact KE _
  ·exact DG n _ f h
theorem Me (r:Rd) (most:Nat) (hm:most≤18446744073709551615):(r.num most).1≤18446744073709551615:=by
 have:=BR r.rest
 unfold Rd.num
 repeat' split
 all_goals(simp only;omega)
theorem Ol (a b:ByteArray) (n k:Nat) (r:Rd) (h:n≤18446744073709551615):EvN ⟨a,b,n,(Rd.fields k r).1⟩:=⟨by simp only;omega,by simp only;omega,DG k r⟩
theorem NB (l:List UInt8):EvN (mT l).1:=Ol _ _ _ _ _ (Me _ _ (Nat.le_refl _))
theorem nW {l:List UInt8} (h:(bS l).2.2=0):iU (bS l).1=true∧EvN (bS l).1∧(bS l).2.1≤800:=by
 have hn:=NB l
 unfold bS at h ⊢
 generalize mT l=R at h hn ⊢
 split
 ·rename_i h1;rw[if_pos h1]at h;cases h
 ·rename_i h1
  rw[if_neg h1]at h
  split
  ·rename_i h2;rw[if_pos h2]at h;exact absurd h h2
  ·rename_i h2
   have h3:R.2.err=0:=by omega
   refine⟨?_,hn,?_⟩
   ·cases hm:iU R.1 with
    | true=>rfl
    | false=>exact absurd ⟨h3,.inr hm⟩ h1
   ·exact Nat.le_of_not_lt fun h4=>h1 ⟨h3,.inl h4⟩
end Go.Vc

namespace Go.Vc
open Go.Proofs
set_option maxRecDepth 100000
def B31_0:MC:=(.seq (.reg [oI 27 .lss 26 25] [] [2,5,6,25,26,27] [2,5,6,21,1011,1013,1015,1017,1032,1038]) (.seq (.cond (.t 27) .skip (.exit 0)) (.seq (.block 1 (.seq (.reg [mi 28 26,mi 8 28] [] [2,5,6,8,25,26] [2,5,6,21,1011,1013,1015,1017,1032,1038]) (.seq (.alt (.reg [fI 29 6 3,mi 31 8,lJ 30 29 1,dI 32 82 [.t 5,.c (.int .u64 16)],qi 33 (.ia (.t 30) (.t 31) 4),fI 34 33 0,⟨none,none,.st (.t 34) (.t 32) 1⟩] [] [2,5,6,8,25,26] [2,5,6,21,1011,1013,1015,1017,1032,1038]) (.reg [fI 29 6 3,mi 31 8,dI 32 82 [.t 5,.c (.int .u64 16)],lJ 30 29 1,qi 33 (.ia (.t 30) (.t 31) 4),fI 34 33 0,⟨none,none,.st (.t 34) (.t 32) 1⟩] [] [2,5,6,8,25,26] [2,5,6,21,1011,1013,1015,1017,1032,1038])) (.alt (.reg [fI 35 6 3,mi 37 8,lJ 36 35 1,dI 38 84 [.t 5],qi 39 (.ia (.t 36) (.t 37) 4),fI 40 39 1,⟨none,none,.st (.t 40) (.t 38) 3⟩] [] [2,5,6,25,26] [2,5,6,21,1011,1013,1015,1017,1032,1038]) (.reg [fI 35 6 3,mi 37 8,dI 38 84 [.t 5],lJ 36 35 1,qi 39 (.ia (.t 36) (.t 37) 4),fI 40 39 1,⟨none,none,.st (.t 40) (.t 38) 3⟩] [] [2,5,6,25,26] [2,5,6,21,1011,1013,1015,1017,1032,1038]))))) (.reg [oJ 41 .add 26 1,mi 26 41] [] [2,5,6,25,26] [2,5,6,21,1011,1013,1015,1017,1032,1038]))))
def R31_0:MC:=(.seq (.seq (.reg [fI 42 5 2,lJ 43 42 1,oJ 44 .eql 43 0,mi 45 44,gT 46 45 (.fa (.t 5) 1),gT 47 45 (.ld (.t 46) 1 false),gT 48 45 (.bin .gtr (.t 47) (ic 800)),gT 49 45 (.mv (.t 48)),gF 50 49 (.ld (.t 6) 4 true),⟨some 51,some (49,false),.call (.f 85) [.t 50]⟩,gF 52 49 (.not (.t 51)),gT 53 45 (.pick (.t 49) (.c (.bool true)) (.t 52)),qi 54 (.pick (.t 45) (.t 53) (.c (.bool false)))] [] [2,5,6,54] [2,5,6,21,1011,1013,1015,1017,1032,1038,1051]) (.cond (.t 54) (.reg [fI 55 5 2,⟨none,none,.st (.t 55) (ic 2) 1⟩] [] [2,5,6] [2,5,6,21,1011,1013,1015,1017,1032,1038]) .skip)) (.seq (.seq (.reg [fI 56 5 2,lJ 57 56 1,oJ 58 .neq 57 0] [] [2,5,6,58] [2,5,6,21,1011,1013,1015,1017,1032,1038]) (.cond (.t 58) (.seq (.alt (.reg [qi 59 (.mk [.pv (.sc (.string ⟨#[]⟩)),.pv (.sc (.string ⟨#[]⟩)),.pv (.sc (.int .u64 0)),.e0] []),fI 60 5 2,lJ 61 60 1,⟨none,none,.st (.t 2) (.t 59) 4⟩,kI 3 0,mi 4 61] [] [2,3,4] [2,5,21,1011,1013,1015,1017,1032,1038]) (.reg [qi 59 (.mk [.pv (.sc (.string ⟨#[]⟩)),.pv (.sc (.string ⟨#[]⟩)),.pv (.sc (.int .u64 0)),.e0] []),fI 60 5 2,⟨none,none,.st (.t 2) (.t 59) 4⟩,lJ 61 60 1,kI 3 0,mi 4 61] [] [2,3,4] [2,5,21,1011,1013,1015,1017,1032,1038])) .ret) .skip)) (.seq (.alt (.reg [lI 62 6 4,fI 63 5 1,lJ 64 63 1,⟨none,none,.st (.t 2) (.t 62) 4⟩,mi 3 64,kI 4 0] [] [2,3,4] [2,5,21,1011,1013,1015,1017,1032,1038]) (.reg [lI 62 6 4,fI 63 5 1,⟨none,none,.st (.t 2) (.t 62) 4⟩,lJ 64 63 1,mi 3 64,kI 4 0] [] [2,3,4] [2,5,21,1011,1013,1015,1017,1032,1038])) .ret)))
def M31:MC:=(.seq (.reg [aI 2 [.pv (.sc (.string ⟨#[]⟩)),.pv (.sc (.string ⟨#[]⟩)),.pv (.sc (.int .u64 0)),.e0],kI 3 0,kI 4 0] [] [0,2] [2,5,21,1011,1013,1015,1017,1032,1038]) (.seq (.reg [mi 9 0,qi 10 (.mk [.pv (.sc (.string ⟨#[]⟩)),.pv (.sc (.int .i64 0)),.pv (.sc (.int .i64 0))] [(0,1,(.t 9))]),aI 5 [.pv (.sc (.string ⟨#[]⟩)),.pv (.sc (.int .i64 0)),.pv (.sc (.int .i64 0))],⟨none,none,.st (.t 5) (.t 10) 3⟩] [] [2,5] [2,5,21,1011,1013,1015,1017,1032,1038]) (.seq (.reg [aI 6 [.pv (.sc (.string ⟨#[]⟩)),.pv (.sc (.string ⟨#[]⟩)),.pv (.sc (.int .u64 0)),.e0]] [] [2,5,6] [2,5,6,21,1011,1013,1015,1017,1032,1038]) (.seq (.reg [dI 11 82 [.t 5,.c (.int .u64 40)],fI 12 6 0,⟨none,none,.st (.t 12) (.t 11) 1⟩] [] [2,5,6] [2,5,6,21,1011,1013,1015,1017,1032,1038]) (.seq (.reg [dI 13 82 [.t 5,.c (.int .u64 16)],fI 14 6 1,⟨none,none,.st (.t 14) (.t 13) 1⟩] [] [2,5,6] [2,5,6,21,1011,1013,1015,1017,1032,1038]) (.seq (.reg [dI 15 83 [.t 5,.c (.int .u64 18446744073709551615)],fI 16 6 2,⟨none,none,.st (.t 16) (.t 15) 1⟩] [] [2,5,6] [2,5,6,21,1011,1013,1015,1017,1032,1038]) (.seq (.seq (.reg [dI 17 83 [.t 5,.c (.int .u64 8)],mi 7 17] [] [2,5,6,7] [2,5,6,21,1011,1013,1015,1017,1032,1038]) (.seq (.reg [mi 18 7,qi 19 (.bin .gtr (.t 18) (.c (.int .u64 0)))] [] [2,5,6,7,19] [2,5,6,21,1011,1013,1015,1017,1032,1038]) (.cond (.t 19) (.reg [mi 20 7,⟨some 21,none,.mks (.t 20) (.t 20) 4 48 (.agg [.sc (.string ⟨#[]⟩),.sc (.bool false),.sc (.int .i64 0),.sc (.string ⟨#[]⟩)])⟩,fI 22 6 3,⟨none,none,.st (.t 22) (.t 21) 1⟩] [] [2,5,6] [2,5,6,21,1011,1013,1015,1017,1032,1038]) .skip))) (.seq (.seq (.reg [fI 23 6 3,lJ 24 23 1,nI 25 24 false,kI 26 0] [] [2,5,6,25,26] [2,5,6,21,1011,1013,1015,1017,1032,1038]) (.block 0 (.loop B31_0))) R31_0))))))))
theorem c31:Cd 31 65 [RV.cell 2 4 true,RV.tmp 3,RV.tmp 4] M31:=cO [11,13,15,17,32,38] (rz [] [(12,[(0,115),(2,116),(1000,0),(1,0),(3,0),(4,112),(5,96),(6,0),(1001,0),(3,0),(1,114),(4,112),(5,96),(6,0)],55),(13,[(0,115),(2,116),(1000,0),(1,0),(3,0),(4,112),(5,96),(6,0),(1001,0),(3,0),(1,114),(4,112),(5,96),(6,0)],55),(18,[(0,57),(1,38),(1000,0),(2,0),(3,0),(4,48),(5,32),(1001,0),(3,0),(2,36),(4,48),(5,32)],55),(19,[(0,57),(1,54),(1000,0),(2,0),(3,0),(4,48),(5,32),(1001,0),(3,0),(2,52),(4,48),(5,32)],55)] [0,1,2,3,4,5,6,7,8,9,10,11,12,9,14,17,2,19,20,20] M31) Tryz.func31 (by kernel_rfl) Tryz.ntmps31
end Go.Vc

namespace Go.Vc
open Go.Proofs
set_option linter.unusedSimpArgs false
set_option linter.unusedVariables false
set_option maxRecDepth 10000
theorem wT:∀(n:Nat) (r:Rd),Rd.fields (n+1) r=((Rd.fields n r).1++[(Rd.fields n r).2.field.1],(Rd.fields n r).2.field.2)
 | 0,r=>rfl
 | n+1,r=>by
  have ih:=wT n r.field.2
  rw[show Rd.fields (n+1+1) r=(r.field.1::(Rd.fields (n+1) r.field.2).1,(Rd.fields (n+1) r.field.2).2)from rfl,ih]
  rfl
theorem Ag:∀(n:Nat) (r:Rd),(Rd.fields n r).1.length=n
 | 0,_=>rfl
 | n+1,r=>by simp only[Rd.fields,List.length_cons,Ag n]
theorem RdOk.fields {L:List UInt8}:∀(n:Nat) {r:Rd},RdOk L r→RdOk L (Rd.fields n r).2
 | 0,_,h=>h
 | n+1,r,h=>RdOk.fields n (h.text 16).value
def zF:PV:=.agg [.sc (.string ⟨#[]⟩),.sc (.bool false),.sc (.int .i64 0),.sc (.string ⟨#[]⟩)]
theorem Dc {L:List UInt8} {a b:ByteArray} {q:Nat} {l:List Fd} {R:Rd} (hE:mT L=(⟨a,b,q,l⟩,R)):
  ((R.err:Int)=0→(R.err:Int)=0∧(800<(R.at_:Int)∨(R.err:Int)=0∧¬800<(R.at_:Int)))∧
  ((R.err:Int)=0∧(800<(R.at_:Int)∨iU ⟨a,b,q,l⟩=false)→PV.tup [PV.agg [PV.sc (Value.string ⟨#[]⟩),PV.sc (Value.string ⟨#[]⟩),PV.sc (Value.int .u64 0),PV.lst []],PV.sc (Value.int .i64 0),PV.sc (Value.int .i64 2)]=PV.tup [(bS L).1.pv,pI (bS L).2.1,pI (bS L).2.2])∧
  (¬(R.err:Int)=0∨¬800<(R.at_:Int)∧iU ⟨a,b,q,l⟩=true→(¬(R.err:Int)=0→PV.tup [PV.agg [PV.sc (Value.string ⟨#[]⟩),PV.sc (Value.string ⟨#[]⟩),PV.sc (Value.int .u64 0),PV.lst []],PV.sc (Value.int .i64 0),pI R.err]=PV.tup [(bS L).1.pv,pI (bS L).2.1,pI (bS L).2.2])∧
   ((R.err:Int)=0→PV.tup [PV.agg [pS a,pS b,pU q,PV.lst (l.map Fd.pv)],pI R.at_,PV.sc (Value.int .i64 0)]=PV.tup [(bS L).1.pv,pI (bS L).2.1,pI (bS L).2.2])):=by
 unfold bS
 rw[hE]
 simp only
 refine⟨fun h=>⟨h,?_⟩,fun h=>?_,fun h=>⟨fun h2=>?_,fun h2=>?_⟩⟩
 ·by_cases h1:800<(R.at_:Int)
  ·exact .inl h1
  ·exact .inr ⟨h,h1⟩
 ·rw[if_pos ⟨by omega,h.2.imp (fun h=>by omega) id⟩];rfl
 ·rw[if_neg (fun h3=>h2 (by omega)),if_pos (by omega)];rfl
 ·have h3:=h.resolve_left (fun h3=>h3 h2)
  rw[if_neg (fun h4=>h4.2.elim (fun h5=>by omega) (fun h5=>by rw[h3.2]at h5;cases h5)),if_neg (by omega)];rfl
theorem PT (L:List UInt8) (hL:L.length≤100000):Fn Tryz.prog 31 [pS (bQ L)] (.pv (.tup [(bS L).1.pv,pI (bS L).2.1,pI (bS L).2.2])) []:=by
 have r0:RdOk L ⟨L,0,0⟩:=⟨rfl,Nat.zero_le _,hL⟩
 have r1:=r0.text 40
 have r2:=r1.text 16
 have r3:=r2.num 18446744073709551615
 have r4:=r3.1.num 8
 have c1:=H7 L _ r0 40 (by omega)
 have c2:=H7 L _ r1 16 (by omega)
 have c3:=H6 L _ r2 18446744073709551615 (by omega)
 have c4:=H6 L _ r3.1 8 (by omega)
 refine c31.r [] (by simp) ?_
 simp only[go_sem,M31,R31_0]
 refine aP (fun _=>5) (by simp only[go_sem]) (by simp only[go_sem]<;>rfl) (c1) rfl (by intro e he;simp only[List.mem_cons,List.not_mem_nil,or_false]at he;subst he;simp only[go_sem]<;>rfl) (by simp) (by simp) (by simp) (by intro e he h2;simp only[List.mem_cons,List.not_mem_nil,or_false]at he;subst he;exact absurd h2 (Nat.lt_irrefl _)) ?_
 simp only[go_sem]
 refine aP (fun _=>5) (by simp only[go_sem]) (by simp only[go_sem]<;>rfl) (c2) rfl (by intro e he;simp only[List.mem_cons,List.not_mem_nil,or_false]at he;subst he;simp only[go_sem]<;>rfl) (by simp) (by simp) (by simp) (by intro e he h2;simp only[List.mem_cons,List.not_mem_nil,or_false]at he;subst he;exact absurd h2 (Nat.lt_irrefl _)) ?_
 simp only[go_sem]
 refine aP (fun _=>5) (by simp only[go_sem]) (by simp only[go_sem]<;>rfl) (c3) rfl (by intro e he;simp only[List.mem_cons,List.not_mem_nil,or_false]at he;subst he;simp only[go_sem]<;>rfl) (by simp) (by simp) (by simp) (by intro e he h2;simp only[List.mem_cons,List.not_mem_nil,or_false]at he;subst he;exact absurd h2 (Nat.lt_irrefl _)) ?_
 simp only[go_sem]
 refine aP (fun _=>5) (by simp only[go_sem]) (by simp only[go_sem]<;>rfl) (c4) rfl (by intro e he;simp only[List.mem_cons,List.not_mem_nil,or_false]at he;subst he;simp only[go_sem]<;>rfl) (by simp) (by simp) (by simp) (by intro e he h2;simp only[List.mem_cons,List.not_mem_nil,or_false]at he;subst he;exact absurd h2 (Nat.lt_irrefl _)) ?_
 simp only[go_sem]
 have hE:mT L=(⟨(Rd.text ⟨L,0,0⟩ 40).1,((Rd.text ⟨L,0,0⟩ 40).2.text 16).1,(((Rd.text ⟨L,0,0⟩ 40).2.text 16).2.num 18446744073709551615).1,(Rd.fields ((((Rd.text ⟨L,0,0⟩ 40).2.text 16).2.num 18446744073709551615).2.num 8).1 ((((Rd.text ⟨L,0,0⟩ 40).2.text 16).2.num 18446744073709551615).2.num 8).2).1⟩,(Rd.fields ((((Rd.text ⟨L,0,0⟩ 40).2.text 16).2.num 18446744073709551615).2.num 8).1 ((((Rd.text ⟨L,0,0⟩ 40).2.text 16).2.num 18446744073709551615).2.num 8).2).2):=rfl
 have hn:=Me ((Rd.text ⟨L,0,0⟩ 40).2.text 16).2 18446744073709551615 (by omega)
 have hnn:((((Rd.text ⟨L,0,0⟩ 40).2.text 16).2.num 18446744073709551615).2.num 8).1≤8:=by
  by_cases he:((((Rd.text ⟨L,0,0⟩ 40).2.text 16).2.num 18446744073709551615).2.num 8).2.err=0
  ·exact r4.2.1 he
  ·rw[r4.2.2 he];omega
 have r5:=r4.1
 clear c1 c2 c3 c4 r0 r1 r2 r3 r4
 generalize ((((Rd.text ⟨L,0,0⟩ 40).2.text 16).2.num 18446744073709551615).2.num 8).1=n at*
 generalize ((((Rd.text ⟨L,0,0⟩ 40).2.text 16).2.num 18446744073709551615).2.num 8).2=r at*
 generalize (((Rd.text ⟨L,0,0⟩ 40).2.text 16).2.num 18446744073709551615).1=q at*
 generalize ((Rd.text ⟨L,0,0⟩ 40).2.text 16).1=b at*
 generalize (Rd.text ⟨L,0,0⟩ 40).1=a at*
 refine⟨fun h0=>⟨⟨by omega,by omega,by omega⟩,?_⟩,fun h0=>?_⟩
 ·refine bK (T:=Nat) [2,5,6,25,26] [2,5,6,21] (fun i=>⟨[(2,.ptr 2 0),(5,.ptr 5 0),(6,.ptr 6 0),(25,.pv (pI n)),(26,.pv (pI i))],[(2,.box [.pv (PV.sc (Value.string ⟨#[]⟩)),.pv (PV.sc (Value.string ⟨#[]⟩)),.pv (PV.sc (Value.int .u64 0)),.e0]),
   (5,LV L (Rd.fields i r).2),(6,.box [.pv (pS a),.pv (pS b),.pv (pU q),.row 21 0 n]),(21,.sl 4 ((Rd.fields i r).1.map Fd.pv++List.replicate (n-i) zF))]⟩) (fun i=>i≤n) (fun i=>n-i) 0 ?_ (Nat.zero_le _) ?_
  ·simp only[go_sem,Rd.fields,zF,Nat.sub_zero]
  intro i hi
  simp only[go_sem,B31_0]
  have hfl:=Ag i r
  have ri:=r5.fields i
  have hg:(List.map Fd.pv (Rd.fields i r).1++List.replicate (n-i) zF).getD i default=zF∨n≤i:=by
   by_cases h:i<n
   ·left
    rw[List.getD_eq_getElem?_getD,List.getElem?_append_right (by simp[hfl]),List.length_map,hfl,Nat.sub_self,List.getElem?_replicate,if_pos (by omega)];rfl
   ·right;omega
  have hs:∀X,i<n→(List.map Fd.pv (Rd.fields i r).1++List.replicate (n-i) zF).set i X=List.map Fd.pv (Rd.fields i r).1++X::List.replicate (n-(i+1)) zF:=fun X h=>by
   rw[List.set_append_right _ _ (by simp[hfl]),List.length_map,hfl,Nat.sub_self,show n-i=(n-(i+1))+1 by omega,List.replicate_succ,List.set_cons_zero]
  have hg2:∀X R,(List.map Fd.pv (Rd.fields i r).1++X::R).getD i default=X:=fun X R=>by
   rw[List.getD_eq_getElem?_getD,List.getElem?_append_right (by simp[hfl]),List.length_map,hfl,Nat.sub_self];rfl
  have hs2:∀X Y R,(List.map Fd.pv (Rd.fields i r).1++X::R).set i Y=List.map Fd.pv (Rd.fields i r).1++Y::R:=fun X Y R=>by
   rw[List.set_append_right _ _ (by simp[hfl]),List.length_map,hfl,Nat.sub_self,List.set_cons_zero]
  refine⟨fun h1=>?_,fun h1=>?_⟩
  ·have h1':i<n:=by omega
   have hg1:=hg.resolve_right (by omega)
   have hl1:i<(List.map Fd.pv (Rd.fields i r).1++List.replicate (n-i) zF).length:=by simp[hfl];omega
   refine⟨?_,?_⟩<;>
   ·refine aP (fun _=>5) (by simp only[go_sem]) (by simp only[go_sem]<;>rfl) (H7 L _ ri 16 (by omega)) rfl (by intro e he;simp only[List.mem_cons,List.not_mem_nil,or_false]at he;subst he;simp only[go_sem]<;>rfl) (by simp) (by simp) (by simp) (by intro e he h2;simp only[List.mem_cons,List.not_mem_nil,or_false]at he;subst he;exact absurd h2 (Nat.lt_irrefl _)) ?_
    simp only[go_sem]
    rw[hg1,hs _ h1']
    refine⟨h1,hl1,?_⟩
    simp only[go_sem,zF]
    refine⟨?_,?_⟩<;>
    ·refine aP (fun _=>5) (by simp only[go_sem]) (by simp only[go_sem]<;>rfl) (PN L _ (ri.text 16)) rfl (by intro e he;simp only[List.mem_cons,List.not_mem_nil,or_false]at he;subst he;simp only[go_sem]<;>rfl) (by simp) (by simp) (by simp) (by intro e he h2;simp only[List.mem_cons,List.not_mem_nil,or_false]at he;subst he;exact absurd h2 (Nat.lt_irrefl _)) ?_
     simp only[go_sem,hg2,hs2]
     refine⟨h1,by simp[hfl],⟨by omega,by omega⟩,i+1,?_,by omega,by omega⟩
     rw[wT,List.map_append,List.append_assoc]
     rfl
  ·have hin:i=n:=by omega
   subst hin
   clear hg hs hg2 hs2
   rw[Nat.sub_self,List.replicate_zero,List.append_nil]
   have ht:List.take i (List.map Fd.pv (Rd.fields i r).1)=List.map Fd.pv (Rd.fields i r).1:=List.take_of_length_le (by simp[hfl])
   refine aF (by simp only[go_sem]) (by simp only[go_sem]) (by simp only[go_sem,ht]<;>rfl) (fun _=>Ks ⟨a,b,q,(Rd.fields i r).1⟩) rfl ?_
   simp only[go_sem,ht]
   exact Dc hE
 ·refine bK (T:=Unit) [2,5,6,25,26] [2,5,6] (fun _=>⟨[(2,.ptr 2 0),(5,.ptr 5 0),(6,.ptr 6 0),(25,.pv (pI 0)),(26,.pv (pI 0))],[(2,.box [.pv (PV.sc (Value.string ⟨#[]⟩)),.pv (PV.sc (Value.string ⟨#[]⟩)),.pv (PV.sc (Value.int .u64 0)),.e0]),
   (5,LV L r),(6,.box [.pv (pS a),.pv (pS b),.pv (pU q),.e0])]⟩) (fun _=>True) (fun _=>0) () ?_ trivial ?_
  ·simp only[go_sem]
  intro _ _
  simp only[go_sem,B31_0]
  refine aF (by simp only[go_sem]) (by simp only[go_sem]) (by simp only[go_sem]<;>rfl) (fun _=>Ks ⟨a,b,q,[]⟩) rfl ?_
  simp only[go_sem]
  have h00:n=0:=by omega
  subst h00
  exact Dc hE
theorem HP (s:ByteArray) (hs:s.size≤100000):Fn Tryz.prog 31 [pS s] (.pv (.tup [(bS (cF s)).1.pv,pI (bS (cF s)).2.1,pI (bS (cF s)).2.2])) []:=by
 have:=PT (cF s) (by simpa[cF]using hs)
 rwa [jZ]at this
end Go.Vc

namespace Go.Vc
open Go Go.Proofs Go.Shelf Go.RowKit
set_option linter.unusedSimpArgs false
set_option linter.unusedVariables false
set_option maxRecDepth 100000
structure Bld (B b:Nat) (l:List UInt8) (w w':World):Prop where
 is:Lib.IsBuilderF 226 5 B b (Lib.byteCells l) w'
 below:Go.RowKit.Below B w w'
 kept:Lib.OthersKept 5 (some b) w w'
theorem R9 {B:Nat} {w w':World} (h:Go.RowKit.Below B w w'):Below B w w':=⟨h.os,h.tape,h.output,h.size,h.block,trivial⟩
theorem Bld.trans {B b:Nat} {l m:List UInt8} {w w' w'':World} (h:Bld B b l w w') (k:Bld B b m w' w''):Bld B b m w w'':=⟨k.is,h.below.trans k.below,h.kept.trans k.kept⟩
theorem xO {B b:Nat} {bs:List Value} {w w':World} (h:Lib.IsBuilderF 226 5 B b bs w) (hb:Below w.heap.size w w'):Lib.IsBuilderF 226 5 B b bs w':=by
 have key:∀p,Lib.BuilderAtF 226 5 B b p bs w→Lib.BuilderAtF 226 5 B b p bs w':=by
  intro p k
  have hlt:=k.lt
  obtain⟨hB,v,hv,hown,hne⟩:=k
  refine⟨hB,v,(hb.block b hlt).trans hv,hown.kept (row:=none) ⟨hb.os,hb.tape,hb.output,hb.size,fun k hk _=>hb.block k hk⟩ ?_,hne⟩
  cases v.ownBlock<;>simp
 exact h.imp (key _) (key _)
theorem Jv {b:Option Nat} {w w':World} (hb:Below w.heap.size w w'):Lib.OthersKept 5 b w w':=fun k o hk _ _=>(hb.block k (Array.getElem?_eq_some_iff.1 hk).1).trans hk
theorem rB {B:Nat} {w w':World} (hb:Below w.heap.size w w') (hB:B≤w.heap.size):Go.RowKit.Below B w w':=⟨hb.os,hb.tape,hb.output,hb.size,fun k hk=>hb.block k (Nat.lt_of_lt_of_le hk hB)⟩
theorem Fn.at_ {f:FuncId} {args:List PV} {p:PV} (h:Fn Tryz.prog f args (.pv p) []) {w:World} {F:Nat→Prop} {vs:List Value} (hF:∀b,F b→b<w.heap.size) (ht:o8 Tryz.prog w F) (ha:aE w F args vs):
  Calls Tryz.prog f ⟨vs⟩ w fun en w'=>∃cv,en=.returned cv∧Below w.heap.size w w'∧aG w' F p cv:=by
 refine(h.2 w F vs hF ht ha).mono ?_
 rintro en w' ⟨cv,y,he,hy,hr⟩
 subst hy
 have hv:=hr.val
 simp only[aB]at hv
 refine⟨cv,he,hr.below,?_⟩
 have hFF:y.F=F:=by
  funext b
  have:=hr.F b
  simp at this
  exact propext this
 rw[←hFF];exact hv
theorem HT (B b:Nat) (l:List UInt8) (s:ByteArray) (w:World) (h:Lib.IsBuilderF 226 5 B b (Lib.byteCells l) w) (hlen:l.length+s.size≤140737488355328) (hBw:B≤w.heap.size):
  Calls Tryz.prog 143 #[.pointer (some ⟨b,0,none⟩),.string s] w fun e w'=>e=.returned (.tuple #[.int .i64 s.size,.nilIface])∧Bld B b (l++cF s) w w':=by
 refine(Any.Builder_WriteString_k Lm O5 B b (Lib.byteCells l) s w h (by rw[Lib.byteCells_length];exact hlen) hBw).mono ?_
 rintro e w' ⟨he,h1,h2,h3⟩
 refine⟨he,?_,h2,h3⟩
 rw[Lib.byteCells_append]
 exact .inr h1
theorem R3 (B b:Nat) (l:List UInt8) (w:World) (h:Lib.IsBuilderF 226 5 B b (Lib.byteCells l) w) (hBw:B≤w.heap.size):
  Calls Tryz.prog 145 #[.pointer (some ⟨b,0,none⟩)] w fun e w'=>e=.returned (.string (bQ l))∧Bld B b l w w':=by
 refine(Any.Builder_String_any_k Ll { O5 with } B b l w h hBw).mono ?_
 rintro e w' ⟨he,h1,h2,h3⟩
 exact⟨he,h1,h2,h3⟩
set_option maxHeartbeats 4000000 in
theorem Nq (B b:Nat) (l:List UInt8) (s:ByteArray) (w:World) (h:Lib.IsBuilderF 226 5 B b (Lib.byteCells l) w) (hl:l.length≤100000000) (hs:s.size≤100000000) (hBw:B≤w.heap.size) (ht:o8 Tryz.prog w (fun _=>False)):
  Calls Tryz.prog 142 #[.string s,.pointer (some ⟨b,0,none⟩)] w fun e w'=>e=.returned (.tuple #[])∧Bld B b (l++kT s) w w':=by
 go_enter Tryz.func142,Tryz.ntmps142
 have h26:=C1 s.size (by omega)
 have hpl:=dS (n:=s.size) (by omega)
 go_wp2_with (go_at_call 26;refine(h26.at_ (F:=fun _=>False) (vs:=[.int .u64 s.size]) (fun _ h=>h.elim) ht ⟨_,_,rfl,rfl,rfl⟩).mono ?_)
 rintro e w1 ⟨cv,rfl,hb1,hp1⟩
 simp only[aG]at hp1
 subst hp1
 go_wp2_with (go_at_call 143;refine(HT B b l _ _ (xO h hb1) ?c1 ?c2).mono ?_)
 case c1=>rw[jD];omega
 case c2=>have:=hb1.size;omega
 rintro e w2 ⟨rfl,h2⟩
 rw[dR]at h2
 go_wp2_with (go_at_call 143;refine(HT B b _ s _ h2.is ?c1 ?c2).mono ?_)
 case c1=>rw[List.length_append];omega
 case c2=>have:=hb1.size;have:=h2.below.size;omega
 rintro e w3 ⟨rfl,h3⟩
 go_wp2
 rw[List.append_assoc]at h3
 go_end0
 exact⟨rfl,h3.is,(rB hb1 hBw).trans (h2.below.trans h3.below),(Jv hb1).trans (h2.kept.trans h3.kept)⟩
theorem DJ {w:World} {F:Nat→Prop}:∀{l:List Fd} {b o:Nat},aJ w F (l.map Fd.pv) b o→∀i (h:i<l.length),
  w.cell? ⟨b,o+i*4,none⟩=some (.string l[i].name)∧w.cell? ⟨b,o+i*4+1,none⟩=some (.bool l[i].v.num)∧w.cell? ⟨b,o+i*4+2,none⟩=some (.int .i64 l[i].v.n)∧w.cell? ⟨b,o+i*4+3,none⟩=some (.string l[i].v.s)
 | [],_,_,_,i,h=>absurd h (by simp)
 | f::l,b,o,hp,i,h=>by
  simp only[List.map_cons,aJ]at hp
  cases i with
  | zero=>
   have h1:=hp.1
   simp only[aN,aG]at h1
   obtain⟨⟨_,a1,rfl⟩,⟨_,a2,rfl⟩,⟨_,a3,rfl⟩,⟨_,a4,rfl⟩,_⟩:=h1
   exact⟨a1,a2,a3,a4⟩
  | succ i=>
   have:=DJ hp.2 i (by simpa using h)
   simp only[List.length_cons,List.length_nil]at this
   rw[show o+(i+1)*4=o+(0+1+1+1+1)+i*4 by omega]
   exact this
theorem Bf:∀a b:List Fd,iX (a++b)=iX a++iX b
 | [],b=>rfl
 | f::a,b=>by simp only[List.cons_append,iX,Bf a b,List.append_assoc]
theorem N5 {B b:Nat} {bs:List Value} {w:World} (h:Lib.IsBuilderF 226 5 B b bs w):b<w.heap.size:=h.elim (fun h=>h.lt) fun h=>h.lt
set_option maxHeartbeats 8000000 in
theorem OU (e:Ev) (hl:e.l.length<100000) (hn:EvN e) (ht:e.topic.size≤100000) (hp:e.producer.size≤100000):Fn Tryz.prog 87 [e.pv] (.pv (.tup [pS (if iU e=true then bQ (eM e)else⟨#[]⟩),pI (eR (iU e))])) []:=by
 refine⟨fT Tryz.func87 (by decide) rfl,fun w F vs hF htb ha=>?_⟩
 simp only[aE,aG]at ha
 obtain⟨_,_,rfl,⟨vs,rfl,h0⟩,rfl⟩:=ha
 obtain⟨_,_,rfl,rfl,_,_,rfl,rfl,_,_,rfl,rfl,_,_,rfl,⟨ao,n,c,rfl,rfl,hnc,hel⟩,rfl⟩:=h0
 have h85:=Ks e
 rw[List.length_map]at hnc hel
 go_enter Tryz.func87,Tryz.ntmps87
 have tup2:∀{w':World} {s:ByteArray} {n:Int},Below w.heap.size w w'→Res w F ⟨w',F,fun _=>default⟩ (AV.pv (PV.tup [pS s,pI n])) [] (Value.tuple #[.string s,.int .i64 n]):=by
  intro w' s n hb
  refine⟨hb,?_,fun i _ _ h=>by simp at h,fun i j h=>by simp at h,fun i h=>by simp at h,fun b=>by simp⟩
  simp only[aB,aG,aE]
  exact⟨_,rfl,_,_,rfl,rfl,_,_,rfl,rfl,rfl⟩
 have hk0:Below w.heap.size w (w.alloc (.cells #[.string e.topic,.string e.producer,.int .u64 e.seq,.slice ao e.l.length c] 84)):=(Below.refl _ w).alloc (Nat.le_refl _) _
 have hT1:=htb.on (F':=F) (fun b hl _=>hk0.block b hl) hk0.size (fun _ _ h=>h)
 go_wp2_with (go_at_call 85;refine(h85.at_ (F:=F) (vs:=[_]) (fun b hb=>Nat.lt_of_lt_of_le (hF b hb) hk0.size) hT1 ⟨_,_,rfl,⟨_,rfl,_,_,rfl,rfl,_,_,rfl,rfl,_,_,rfl,rfl,_,_,rfl,⟨_,_,_,rfl,(List.length_map _).symm,?ca,?cb⟩,rfl⟩,rfl⟩).mono ?_)
 case ca=>exact hnc
 case cb=>
  intro h0
  obtain⟨b,o,e1,e2,e3,e4⟩:=hel h0
  exact⟨b,o,e1,Nat.lt_of_lt_of_le e2 hk0.size,e3,aJ.kept (x:=⟨w,F,fun _=>default⟩) (y:=⟨_,F,fun _=>default⟩) ⟨hk0.size,fun b _ hl=>hk0.block b hl,fun _ _ h=>h⟩ _ (fun hc=>gS hc (hk0.block b e2)) e4⟩
 rintro en w1 ⟨cv,rfl,hb1,hp1⟩
 simp only[aG]at hp1
 subst hp1
 generalize hW:w.alloc (.cells #[.string e.topic,.string e.producer,.int .u64 e.seq,.slice ao e.l.length c] 84)=W at hk0 hb1
 have hk1:Below w.heap.size w w1:=⟨hb1.os.trans hk0.os,hb1.tape.trans hk0.tape,hb1.output.trans hk0.output,Nat.le_trans hk0.size hb1.size,fun k hk=>(hb1.block k (Nat.lt_of_lt_of_le hk hk0.size)).trans (hk0.block k hk),trivial⟩
 cases hm:iU e with
 | false=>
  go_wp2
  all_goals(go_ret2;exact⟨_,rfl,⟨w1,F,fun _=>default⟩,rfl,tup2 (s:=⟨#[]⟩) (n:=1) hk1⟩)
 | true=>
  obtain⟨m1,m2,m3,m4,m5⟩:=jM hm
  have s1:=fH m1
  have s2:=fM m2
  have hbx:W.heap[w.heap.size]?=some (.cells #[.string e.topic,.string e.producer,.int .u64 e.seq,.slice ao e.l.length c] 84 (0,0)):=by rw[←hW];exact heap_alloc_new w _
  have hlx:w.heap.size<W.heap.size:=(Array.getElem?_eq_some_iff.1 hbx).1
  have hb1':=(hb1.block _ hlx).trans hbx
  have hl1:w.heap.size<w1.heap.size:=Nat.lt_of_lt_of_le hlx hb1.size
  have I0:Lib.IsBuilderF 226 5 w1.heap.size w1.heap.size (Lib.byteCells []) (w1.alloc (.cells #[.pointer none,.slice none 0 0] 226)):=Lib.IsBuilderF.of (Lib.fresh_isBuilder 226 5 w1)
  have K0:Go.RowKit.Below w1.heap.size w1 (w1.alloc (.cells #[.pointer none,.slice none 0 0] 226)):=(Go.RowKit.Below.refl _ w1).alloc (Nat.le_refl _) _
  have T0:∀{w':World},Go.RowKit.Below w1.heap.size w1 w'→o8 Tryz.prog w' (fun _=>False):=fun hb=>htb.on (fun b hl _=>(hb.block b (Nat.lt_of_lt_of_le hl hk1.size)).trans (hk1.block b hl)) (Nat.le_trans hk1.size hb.size) fun _ _ h=>h.elim
  have C:∀{w':World} (j:Nat),Go.RowKit.Below w1.heap.size w1 w'→w'.cell? ⟨w.heap.size,j,none⟩=#[Value.string e.topic,.string e.producer,.int .u64 e.seq,.slice ao e.l.length c][j]?:=fun j hb=>Lib.cell_of_heap ((hb.block _ hl1).trans hb1') j
  have c0:=C 0 K0
  go_wp2_with (go_at_call 142;refine(Nq w1.heap.size w1.heap.size [] e.topic _ I0 (by simp) (by omega) K0.size (T0 K0)).mono ?_)
  rintro en w2 ⟨rfl,h2⟩
  have K2:=K0.trans h2.below
  have c1:=C 1 K2
  have L1:(kT e.topic).length≤50:=by
   have:=dS (n:=e.topic.size) (by omega)
   unfold kT;rw[List.length_append,m8];omega
  go_wp2_with (go_at_call 142;refine(Nq w1.heap.size w1.heap.size _ e.producer _ h2.is (by simp;omega) (by omega) K2.size (T0 K2)).mono ?_)
  rintro en w3 ⟨rfl,h3⟩
  have K3:=K2.trans h3.below
  have c2:=C 2 K3
  have L2:(kT e.producer).length≤26:=by
   have:=dS (n:=e.producer.size) (by omega)
   unfold kT;rw[List.length_append,m8];omega
  obtain⟨q,hq⟩:∃q:Nat,e.seq=(q:Int):=⟨e.seq.toNat,by have:=hn.seq0;omega⟩
  have hq1:=hn.seq1
  have h26:=C1 q (by omega)
  rw[hq]at c2
  go_wp2_with (go_at_call 26;refine(h26.at_ (F:=fun _=>False) (vs:=[.int .u64 q]) (fun _ h=>h.elim) (T0 K3) ⟨_,_,rfl,rfl,rfl⟩).mono ?_)
  rintro en w4 ⟨cv,rfl,b4,p4⟩
  simp only[aG]at p4
  subst p4
  have K4:=K3.trans (rB b4 K3.size)
  have L3:=dS (n:=q) (by omega)
  go_wp2_with (go_at_call 143;refine(HT w1.heap.size w1.heap.size _ _ _ (xO h3.is b4) ?c1 K4.size).mono ?_)
  case c1=>rw[jD];simp only[List.length_append,List.length_nil];omega
  rintro en w5 ⟨rfl,h5⟩
  have K5:=K4.trans h5.below
  have c3:=C 3 K5
  have h26b:=C1 e.l.length (by omega)
  have L4:=dS (n:=e.l.length) (by omega)
  go_wp2_with (go_at_call 26;refine(h26b.at_ (F:=fun _=>False) (vs:=[.int .u64 e.l.length]) (fun _ h=>h.elim) (T0 K5) ⟨_,_,rfl,rfl,rfl⟩).mono ?_)
  rintro en w6 ⟨cv,rfl,b6,p6⟩
  simp only[aG]at p6
  subst p6
  have K6:=K5.trans (rB b6 K5.size)
  go_wp2_with (go_at_call 143;refine(HT w1.heap.size w1.heap.size _ _ _ (xO h5.is b6) ?c1 K6.size).mono ?_)
  case c1=>rw[jD,dR];simp only[List.length_append,List.length_nil];omega
  rintro en w7 ⟨rfl,h7⟩
  have K7:=K6.trans h7.below
  have c3:=C 3 K7
  obtain⟨pre,hpre⟩:∃pre,pre=kT e.topic++(kT e.producer++(dX q++dX e.l.length)):=⟨_,rfl⟩
  have hpl:pre.length≤100:=by rw[hpre];simp only[List.length_append];omega
  have hi7:=h7.is
  rw[dR,dR,show[]++kT e.topic++kT e.producer++dX q++dX e.l.length=pre by rw[hpre];simp]at hi7
  go_wp2
  go_loopw [35] (fun iv wr=>∃k:Nat,k≤e.l.length∧iv=.int .i64 k∧Lib.IsBuilderF 226 5 w1.heap.size w1.heap.size (Lib.byteCells (pre++iX (e.l.take k))) wr∧Go.RowKit.Below w1.heap.size w1 wr) (fun iv _=>e.l.length-(intOf iv).toNat)
  case atStart=>exact⟨0,Nat.zero_le _,rfl,by rw[List.take_zero];simpa[iX]using hi7,K7⟩
  case round=>
   obtain⟨k,hk,rfl,hI,hB⟩:=hrel
   by_cases hlt:k<e.l.length
   ·obtain⟨b,o,e1,e2,e3,e4⟩:=hel (by omega)
    subst e1
    have hcell:∀{w':World} {x:Addr} {v:Value},x=⟨b,x.off,none⟩→Go.RowKit.Below w1.heap.size w1 w'→w.cell? x=some v→w'.cell? x=some v:=fun {w' x v} hx hb hc=>by
     rw[hx]at hc ⊢
     exact gS hc ((hb.block b (Nat.lt_of_lt_of_le e2 hk1.size)).trans (hk1.block b e2))
    obtain⟨d0,d1,d2,d3⟩:=DJ e4 k hlt
    have d0:=hcell rfl hB d0
    have d1:=hcell rfl hB d1
    have d2:=hcell rfl hB d2
    have d3:=hcell rfl hB d3
    have KR:∀o:Obj,Go.RowKit.Below w1.heap.size w1 (wr.alloc o):=fun o=>hB.alloc hB.size o
    have hfn:=m5 _ (List.getElem_mem hlt)
    have hfs:=fM hfn.1
    have hvn:=hn.n _ (List.getElem_mem hlt)
    have hal:=vB (l:=e.l.take k) (fun f hf=>⟨fM (m5 f (List.mem_of_mem_take hf)).1,(m5 f (List.mem_of_mem_take hf)).2,hn.n f (List.mem_of_mem_take hf)⟩)
    rw[List.length_take]at hal
    have hbl:=N5 hI
    go_wp2_with (go_at_call 142;refine(Nq w1.heap.size w1.heap.size _ e.l[k].name _ (hI.alloc _) ?c1 (by omega) (KR _).size (T0 (KR _))).mono ?_)
    case c1=>rw[List.length_append];omega
    rintro en w8 ⟨rfl,h8⟩
    have K8:=(KR _).trans h8.below
    have hbf:=h8.kept wr.heap.size _ (heap_alloc_new wr _) (by simp;omega) (by intro c fz h;injection h with _ h2 _;exact absurd h2 (by decide))
    have g1:=Lib.cell_of_heap hbf 1
    have g2:=Lib.cell_of_heap hbf 2
    have g3:=Lib.cell_of_heap hbf 3
    have hvs:e.l[k].v.s.size≤60:=by
     have:=hfn.2
     unfold cU at this
     split at this
     ·simp only[decide_eq_true_eq]at this;rw[this];exact Nat.zero_le _
     ·simp only[Bool.and_eq_true,decide_eq_true_eq]at this;exact this.2
    have h144:=Qs e.l[k].v hvn.1 hvn.2 (by omega)
    rw[if_pos hfn.2,if_pos hfn.2]at h144
    have hvl:=Dx (v:=e.l[k].v) ⟨hfn.2,hvn⟩
    have htl:=tR (s:=e.l[k].name) (by omega)
    go_wp2_with (go_at_call 144;refine(h144.at_ (F:=fun _=>False) (vs:=[_]) (fun _ h=>h.elim) (T0 K8) ⟨_,_,rfl,⟨_,rfl,_,_,rfl,rfl,_,_,rfl,rfl,_,_,rfl,rfl,rfl⟩,rfl⟩).mono ?_)
    rintro en w9 ⟨cv,rfl,b9,p9⟩
    simp only[aG,aE]at p9
    obtain⟨_,rfl,_,_,rfl,rfl,_,_,rfl,rfl,rfl⟩:=p9
    have K9:=K8.trans (rB b9 K8.size)
    go_wp2_with (go_at_call 143;refine(HT w1.heap.size w1.heap.size _ _ _ (xO h8.is b9) ?c1 K9.size).mono ?_)
    case c1=>rw[jD];simp only[List.length_append];omega
    rintro en w10 ⟨rfl,h10⟩
    have K10:=K9.trans h10.below
    go_wp2
    go_roundw
    case rel=>
     refine⟨k+1,by omega,by simp,?_,K10⟩
     have hi:=h10.is
     rw[dR]at hi
     rw[List.take_succ_eq_append_getElem hlt,Bf,←List.append_assoc]
     simpa[iX,Gi]using hi
    case measure=>simp only[intOf];omega
   ·have hke:k=e.l.length:=by omega
    subst hke
    rw[List.take_length]at hI
    go_wp2_with (go_at_call 145;refine(R3 w1.heap.size w1.heap.size _ _ hI hB.size).mono ?_)
    rintro en w8 ⟨rfl,h8⟩
    have K8:=hB.trans h8.below
    go_wp2
    go_ret2
    have hE:eM e=kT e.topic++(kT e.producer++(dX q++(dX e.l.length++iX e.l))):=by unfold eM;rw[hq];simp
    refine⟨_,rfl,⟨w8,F,fun _=>default⟩,rfl,?_⟩
    rw[hE]
    exact tup2 (s:=bQ (kT e.topic++(kT e.producer++(dX q++(dX e.l.length++iX e.l))))) (n:=0) (R9 (hk1.toGo.trans (K8.mono hk1.size)))
end Go.Vc



namespace Go.Vc
open Go.Proofs
set_option maxRecDepth 100000
def M35:MC:=(.seq (.reg [vI 1 0,bI 2 false] [] [1] [1]) (.seq (.seq (.reg [fI 3 1 0,lJ 4 3 1,cI 5 71 [.t 4],qi 6 (.not (.t 5)),mi 7 6,gF 8 7 (.fa (.t 1) 1),gF 9 7 (.ld (.t 8) 1 false),gF 10 7 (.len (.t 9) false),gF 11 7 (.bin .lss (.t 10) (ic 1)),qi 12 (.pick (.t 7) (.c (.bool true)) (.t 11)),mi 13 12,gF 14 13 (.fa (.t 1) 1),gF 15 13 (.ld (.t 14) 1 false),gF 16 13 (.len (.t 15) false),gF 17 13 (.bin .gtr (.t 16) (ic 5)),qi 18 (.pick (.t 13) (.c (.bool true)) (.t 17))] [] [1,18] [1,1005]) (.cond (.t 18) (.seq (.reg [bI 2 false] [] [2] [1045,1049]) .ret) .skip)) (.seq (.seq (.reg [fI 19 1 4,lI 20 19 4,cI 21 94 [.t 20],qi 22 (.not (.t 21)),mi 23 22,gF 24 23 (.fa (.t 1) 2),gF 25 23 (.ld (.t 24) 1 false),gF 26 23 (.len (.t 25) false),gF 27 23 (.fa (.t 1) 4),gF 28 23 (.fa (.t 27) 1),gF 29 23 (.ld (.t 28) 1 false),gF 30 23 (.bin .neq (.t 26) (.t 29)),qi 31 (.pick (.t 23) (.c (.bool true)) (.t 30)),mi 32 31,gF 33 32 (.fa (.t 1) 3),gF 34 32 (.ld (.t 33) 1 false),gF 35 32 (.bin .neq (.t 34) (.c (.string ⟨#[]⟩))),gF 36 32 (.mv (.t 35)),gT 37 36 (.fa (.t 1) 3),gT 38 36 (.ld (.t 37) 1 false),⟨some 39,some (36,true),.call (.f 71) [.t 38]⟩,gT 40 36 (.not (.t 39)),gF 41 32 (.pick (.t 36) (.t 40) (.c (.bool false))),qi 42 (.pick (.t 32) (.c (.bool true)) (.t 41))] [] [1,42] [1,1021,1039]) (.cond (.t 42) (.seq (.reg [bI 2 false] [] [2] [1045,1049]) .ret) .skip)) (.seq (.reg [fI 43 1 1,lJ 44 43 1,cI 45 95 [.t 44,.f 96],mi 46 45,gT 47 46 (.fa (.t 1) 2),gT 48 46 (.ld (.t 47) 1 false),⟨some 49,some (46,true),.call (.f 97) [.t 48,.f 98]⟩,qi 50 (.pick (.t 46) (.t 49) (.c (.bool false))),mi 2 50] [] [2] [1045,1049]) .ret))))
theorem c35:Cd 35 51 [RV.tmp 2] M35:=cO [] (rn [] [] 6 M35) Tryz.func35 (by kernel_rfl) Tryz.ntmps35
def B95_0:MC:=(.seq (.reg [oI 10 .lss 9 8] [] [1,7,8,9,10] []) (.seq (.cond (.t 10) .skip (.exit 0)) (.seq (.block 1 (.seq (.reg [qi 11 (.ia (.t 7) (.t 9) 1),lJ 12 11 1,mi 6 12] [] [1,6,7,8,9] []) (.seq (.reg [mi 13 1,mi 14 6,⟨some 15,none,.call (.t 13) [.t 14]⟩,qi 16 (.not (.t 15))] [] [1,7,8,9,16] [1015]) (.cond (.t 16) (.seq (.reg [bI 4 false] [] [4] []) .ret) .skip)))) (.reg [oJ 17 .add 9 1,mi 9 17] [] [1,7,8,9] []))))
def R95_0:MC:=(.seq (.reg [bI 4 true] [] [4] []) .ret)
def M95:MC:=(.seq (.reg [bI 4 false] [] [0,1] []) (.seq (.seq (.reg [mi 7 0,nI 8 7 false,kI 9 0] [] [1,7,8,9] []) (.block 0 (.loop B95_0))) R95_0))
theorem c95:Cd 95 18 [RV.tmp 4] M95:=cO [] (rn [] [] 8 M95) Tryz.func95 (by kernel_rfl) Tryz.ntmps95
def M96:MC:=(.seq (.reg [bI 2 false] [] [0] []) (.seq (.reg [mi 3 0,cI 4 77 [.t 3],mi 2 4] [] [2] [1004]) .ret))
theorem c96:Cd 96 5 [RV.tmp 2] M96:=cO [] (rn [] [] 2 M96) Tryz.func96 (by kernel_rfl) Tryz.ntmps96
def B97_0:MC:=(.seq (.reg [oI 10 .lss 9 8] [] [1,7,8,9,10] []) (.seq (.cond (.t 10) .skip (.exit 0)) (.seq (.block 1 (.seq (.reg [qi 11 (.ia (.t 7) (.t 9) 6),lI 12 11 6,aI 6 [.pv (.sc (.string ⟨#[]⟩)),.pv (.sc (.string ⟨#[]⟩)),.pv (.sc (.bool false)),.pv (.sc (.int .i64 0)),.pv (.sc (.string ⟨#[]⟩)),.e0],⟨none,none,.st (.t 6) (.t 12) 6⟩] [] [1,6,7,8,9] [6]) (.seq (.reg [mi 13 1,lI 14 6 6,⟨some 15,none,.call (.t 13) [.t 14]⟩,qi 16 (.not (.t 15))] [] [1,7,8,9,16] [1015]) (.cond (.t 16) (.seq (.reg [bI 4 false] [] [4] []) .ret) .skip)))) (.reg [oJ 17 .add 9 1,mi 9 17] [] [1,7,8,9] []))))
def R97_0:MC:=(.seq (.reg [bI 4 true] [] [4] []) .ret)
def M97:MC:=(.seq (.reg [bI 4 false] [] [0,1] []) (.seq (.seq (.reg [mi 7 0,nI 8 7 false,kI 9 0] [] [1,7,8,9] []) (.block 0 (.loop B97_0))) R97_0))
theorem c97:Cd 97 18 [RV.tmp 4] M97:=cO [] (rn [] [] 8 M97) Tryz.func97 (by kernel_rfl) Tryz.ntmps97
def M98:MC:=(.seq (.reg [vI 1 0,bI 2 false] [] [1] [1]) (.seq (.reg [lI 3 1 6,cI 4 99 [.t 3],mi 2 4] [] [2] [1004]) .ret))
theorem c98:Cd 98 5 [RV.tmp 2] M98:=cO [] (rn [] [] 2 M98) Tryz.func98 (by kernel_rfl) Tryz.ntmps98
def B155_0:MC:=(.seq (.reg [oI 10 .lss 9 8] [] [1,7,8,9,10] []) (.seq (.cond (.t 10) .skip (.exit 0)) (.seq (.block 1 (.seq (.reg [qi 11 (.ia (.t 7) (.t 9) 2),lI 12 11 2,aI 6 [.pv (.sc (.string ⟨#[]⟩)),.pv (.sc (.int .i64 0))],⟨none,none,.st (.t 6) (.t 12) 2⟩] [] [1,6,7,8,9] [6]) (.seq (.reg [mi 13 1,lI 14 6 2,⟨some 15,none,.call (.t 13) [.t 14]⟩,qi 16 (.not (.t 15))] [] [1,7,8,9,16] [1015]) (.cond (.t 16) (.seq (.reg [bI 4 false] [] [4] []) .ret) .skip)))) (.reg [oJ 17 .add 9 1,mi 9 17] [] [1,7,8,9] []))))
def R155_0:MC:=(.seq (.reg [bI 4 true] [] [4] []) .ret)
def M155:MC:=(.seq (.reg [bI 4 false] [] [0,1] []) (.seq (.seq (.reg [mi 7 0,nI 8 7 false,kI 9 0] [] [1,7,8,9] []) (.block 0 (.loop B155_0))) R155_0))
theorem c155:Cd 155 18 [RV.tmp 4] M155:=cO [] (rn [] [] 8 M155) Tryz.func155 (by kernel_rfl) Tryz.ntmps155
def M156:MC:=(.seq (.reg [vI 1 0,bI 2 false] [] [1] [1]) (.seq (.reg [lI 3 1 2,cI 4 157 [.t 3],mi 2 4] [] [2] [1004]) .ret))
theorem c156:Cd 156 5 [RV.tmp 2] M156:=cO [] (rn [] [] 2 M156) Tryz.func156 (by kernel_rfl) Tryz.ntmps156
def M157:MC:=(.seq (.reg [vI 1 0,bI 2 false] [] [1] [1]) (.seq (.reg [fI 3 1 0,lJ 4 3 1,cI 5 78 [.t 4],mi 6 5,gT 7 6 (.fa (.t 1) 1),gT 8 6 (.ld (.t 7) 1 false),gT 9 6 (.bin .geq (.t 8) (ic 0)),qi 10 (.pick (.t 6) (.t 9) (.c (.bool false))),mi 2 10] [] [2] [1005]) .ret))
theorem c157:Cd 157 11 [RV.tmp 2] M157:=cO [] (rn [] [] 2 M157) Tryz.func157 (by kernel_rfl) Tryz.ntmps157
def B103_0:MC:=(.seq (.seq (.reg [mi 12 3,mi 13 0,nI 14 13 false,oI 15 .lss 12 14] [] [0,3,15] []) (.cond (.t 15) .skip (.exit 0))) (.seq (.block 1 (.seq (.reg [mi 18 0,mi 19 3,oJ 20 .sub 19 1,qi 21 (.ia (.t 18) (.t 20) 2),fI 22 21 0,lJ 23 22 1,mi 24 0,mi 25 3,qi 26 (.ia (.t 24) (.t 25) 2),fI 27 26 0,lJ 28 27 1,oI 29 .geq 23 28] [] [0,3,29] []) (.cond (.t 29) (.seq (.reg [kI 2 1] [] [2] []) .ret) .skip))) (.reg [mi 16 3,oJ 17 .add 16 1,mi 3 17] [] [0,3] [])))
def R103_0:MC:=(.seq (.reg [kI 2 0] [] [2] []) .ret)
def M103:MC:=(.seq (.reg [kI 2 0] [] [0] []) (.seq (.seq (.reg [mi 4 0,nI 5 4 false,oJ 6 .gtr 5 20,mi 7 6,gF 8 7 (.mv (.t 0)),⟨some 9,some (7,false),.call (.f 155) [.t 8,.f 156]⟩,gF 10 7 (.not (.t 9)),qi 11 (.pick (.t 7) (.c (.bool true)) (.t 10))] [] [0,11] [1009]) (.cond (.t 11) (.seq (.reg [kI 2 1] [] [2] []) .ret) .skip)) (.seq (.seq (.reg [kI 3 1] [] [0,3] []) (.block 0 (.loop B103_0))) R103_0)))
theorem c103:Cd 103 30 [RV.tmp 2] M103:=cO [] (rz [] [(6,[(0,2105),(1,2110),(2,2108),(3,2104),(4,2096),(5,2080),(6,3904),(7,3968),(8,3840),(9,3584),(10,3072),(11,2048)],4095)] [0,1,2,3,4,3,5,2,8] M103) Tryz.func103 (by kernel_rfl) Tryz.ntmps103
def M104:MC:=(.seq (.reg [kI 4 0] [] [0,1] []) (.seq (.reg [mi 6 0,mi 7 1,cI 8 158 [.t 6,.t 7],mi 5 8] [] [0,5] [1008]) (.seq (.seq (.reg [mi 9 5,oJ 10 .lss 9 0] [] [0,5,10] [1008]) (.cond (.t 10) (.seq (.reg [kI 4 0] [] [4] []) .ret) .skip)) (.seq (.reg [mi 11 0,mi 12 5,qi 13 (.ia (.t 11) (.t 12) 2),fI 14 13 1,lJ 15 14 1,mi 4 15] [] [4] []) .ret))))
theorem c104:Cd 104 16 [RV.tmp 4] M104:=cO [] (rn [] [] 5 M104) Tryz.func104 (by kernel_rfl) Tryz.ntmps104
def M105:MC:=(.seq (.reg [vI 2 0,vI 3 1,bI 4 false] [] [2,3] [2,3]) (.seq (.reg [fI 5 2 1,lJ 6 5 1,qi 7 (.clo 159 [.t 3]),cI 8 95 [.t 6,.t 7],qi 9 (.not (.t 8)),mi 4 9] [] [4] [1008]) .ret))
theorem c105:Cd 105 10 [RV.tmp 4] M105:=cO [] (rn [] [] 2 M105) Tryz.func105 (by kernel_rfl) Tryz.ntmps105
def M159:MC:=(.seq (.reg [bI 3 false] [] [0,1] []) (.seq (.reg [mi 4 0,lJ 5 1 1,cI 6 27 [.t 4,.t 5],qi 7 (.not (.t 6)),mi 3 7] [] [3] [1006]) .ret))
theorem c159:Cd 159 8 [RV.tmp 3] M159:=cO [] (rn [] [] 2 M159) Tryz.func159 (by kernel_rfl) Tryz.ntmps159
def M109:MC:=(.seq (.reg [vI 2 0,vI 3 1,kI 4 0] [] [2,3] [2,3]) (.seq (.seq (.reg [lI 5 2 8,cI 6 35 [.t 5],qi 7 (.not (.t 6))] [] [2,3,7] [2,3,1006]) (.cond (.t 7) (.seq (.reg [qi 4 (.mv (.c (.int .i64 (-1))))] [] [4] [1011]) .ret) .skip)) (.seq (.reg [fI 8 2 2,lJ 9 8 1,qi 10 (.clo 161 [.t 3]),cI 11 160 [.t 9,.t 10],mi 4 11] [] [4] [1011]) .ret)))
theorem c109:Cd 109 12 [RV.tmp 4] M109:=cO [] (rn [] [] 4 M109) Tryz.func109 (by kernel_rfl) Tryz.ntmps109
def M161:MC:=(.seq (.reg [vI 2 0,bI 3 false] [] [1,2] [2]) (.seq (.reg [lI 4 2 6,lI 5 1 4,cI 6 162 [.t 4,.t 5],mi 3 6] [] [3] [1006]) .ret))
theorem c161:Cd 161 7 [RV.tmp 3] M161:=cO [] (rn [] [] 2 M161) Tryz.func161 (by kernel_rfl) Tryz.ntmps161
def M110:MC:=(.seq (.reg [vI 2 0,vI 3 1,aI 4 [.pv (.sc (.bool false)),.pv (.sc (.int .i64 0)),.pv (.sc (.string ⟨#[]⟩))],bI 5 false] [] [2,3,4] [2,3,4,1020]) (.seq (.seq (.reg [lI 8 2 8,cI 9 35 [.t 8],qi 10 (.not (.t 9))] [] [2,3,4,10] [2,3,4,1009,1020]) (.cond (.t 10) (.seq (.reg [qi 11 (.mk [.pv (.sc (.bool false)),.pv (.sc (.int .i64 0)),.pv (.sc (.string ⟨#[]⟩))] []),⟨none,none,.st (.t 4) (.t 11) 3⟩,bI 5 false] [] [4,5] [4,1020]) .ret) .skip)) (.seq (.seq (.reg [fI 12 2 3,lJ 13 12 1,qi 14 (.bin .eql (.t 13) (.c (.string ⟨#[]⟩)))] [] [2,3,4,14] [2,3,4,1020]) (.cond (.t 14) (.seq (.reg [qi 15 (.mk [.pv (.sc (.bool false)),.pv (.sc (.int .i64 0)),.pv (.sc (.string ⟨#[]⟩))] []),⟨none,none,.st (.t 4) (.t 15) 3⟩,bI 5 true] [] [4,5] [4,1020]) .ret) .skip)) (.seq (.reg [lI 17 3 4,fI 18 2 3,lJ 19 18 1,cI 20 163 [.t 17,.t 19],mi 16 20,xI 21 16 0,xI 22 16 1,aI 6 [.pv (.sc (.bool false)),.pv (.sc (.int .i64 0)),.pv (.sc (.string ⟨#[]⟩))],⟨none,none,.st (.t 6) (.t 21) 3⟩,mi 7 22] [] [4,6,7] [4,6,1020]) (.seq (.seq (.reg [mi 23 7,qi 24 (.not (.t 23))] [] [4,6,24] [4,6,1020]) (.cond (.t 24) (.seq (.reg [qi 25 (.mk [.pv (.sc (.bool false)),.pv (.sc (.int .i64 0)),.pv (.sc (.string ⟨#[]⟩))] []),⟨none,none,.st (.t 4) (.t 25) 3⟩,bI 5 false] [] [4,5] [4,1020]) .ret) .skip)) (.seq (.reg [lI 26 6 3,⟨none,none,.st (.t 4) (.t 26) 3⟩,bI 5 true] [] [4,5] [4,1020]) .ret))))))
theorem c110:Cd 110 27 [RV.cell 4 3 true,RV.tmp 5] M110:=cO [] (rn [] [] 9 M110) Tryz.func110 (by kernel_rfl) Tryz.ntmps110
def B113_0:MC:=(.seq (.seq (.reg [mi 37 9,mi 38 0,nI 39 38 false,oI 40 .lss 37 39,mi 41 40,gT 42 41 (.mv (.t 0)),gT 43 41 (.mv (.t 9)),gT 44 41 (.ia (.t 42) (.t 43) 2),gT 45 41 (.fa (.t 44) 0),gT 46 41 (.ld (.t 45) 1 false),gT 47 41 (.mv (.t 1)),gT 48 41 (.bin .lss (.t 46) (.t 47)),qi 49 (.pick (.t 41) (.t 48) (.c (.bool false)))] [] [0,1,8,9,49] [8,1024,1057]) (.cond (.t 49) .skip (.exit 0))) (.block 1 (.reg [mi 50 9,oJ 51 .add 50 1,mi 9 51] [] [0,1,8,9] [8,1024,1057])))
def R113_0:MC:=(.seq (.seq (.grp [1053] [⟨52,none,.q (.mv (.t 0)),[0],[]⟩,⟨53,none,.call (.f 169) [.t 52],[52],[]⟩,⟨54,none,.q (.mv (.t 9)),[9],[1024,1057]⟩,⟨55,none,.q (.ld (.t 8) 2 true),[8],[8]⟩,⟨56,none,.lits [.t 55] 2,[55],[]⟩] [6,7,53,54,56,57] [1024,1028,1053,1057]) (.reg [dI 57 170 [.t 53,.t 54,.t 56],mi 6 57,kI 7 0] [] [6,7] [1024,1028,1053,1057])) .ret)
def M113:MC:=(.seq (.reg [qi 6 (.mv .nil),kI 7 0] [] [0,1,2] []) (.seq (.reg [mi 11 1,mi 12 2,qi 13 (.mk [.pv (.sc (.string ⟨#[]⟩)),.pv (.sc (.int .i64 0))] [(0,1,(.t 11)),(1,1,(.t 12))]),aI 8 [.pv (.sc (.string ⟨#[]⟩)),.pv (.sc (.int .i64 0))],⟨none,none,.st (.t 8) (.t 13) 2⟩] [] [0,1,8] [8]) (.seq (.seq (.reg [mi 14 0,cI 15 103 [.t 14],oJ 16 .neq 15 0,mi 17 16,gF 18 17 (.ld (.t 8) 2 true),⟨some 19,some (17,false),.call (.f 157) [.t 18]⟩,gF 20 17 (.not (.t 19)),qi 21 (.pick (.t 17) (.c (.bool true)) (.t 20))] [] [0,1,8,21] [8,1015,1019]) (.cond (.t 21) (.seq (.reg [qi 6 (.mv .nil),kI 7 1] [] [6,7] [1024,1028,1053,1057]) .ret) .skip)) (.seq (.reg [mi 22 0,mi 23 1,cI 24 158 [.t 22,.t 23],mi 9 24] [] [0,1,8,9] [8,1024,1057]) (.seq (.seq (.reg [mi 25 9,oJ 26 .geq 25 0] [] [0,1,8,9,26] [8,1024,1057]) (.cond (.t 26) (.seq (.reg [mi 27 0,cI 28 169 [.t 27],mi 10 28] [] [8,9,10] [8,1024,1028,1057]) (.seq (.reg [mi 29 10,mi 30 9,lI 31 8 2,qi 32 (.ia (.t 29) (.t 30) 2),⟨none,none,.st (.t 32) (.t 31) 2⟩] [] [10] [1028]) (.seq (.reg [mi 33 10,mi 6 33,kI 7 0] [] [6,7] [1024,1028,1053,1057]) .ret))) .skip)) (.seq (.seq (.reg [mi 34 0,nI 35 34 false,oJ 36 .geq 35 20] [] [0,1,8,36] [8]) (.cond (.t 36) (.seq (.reg [qi 6 (.mv .nil),kI 7 6] [] [6,7] [1024,1028,1053,1057]) .ret) .skip)) (.seq (.reg [kI 9 0] [] [0,1,8,9] [8,1024,1057]) (.seq (.block 0 (.loop B113_0)) R113_0))))))))
theorem c113:Cd 113 58 [RV.tmp 6,RV.tmp 7] M113:=cO [57] (rz [(14,⟨[6,7],[1024,1028,1053,1057],[(5,0),(6,192),(7,128)],223,[],some ⟨[1053],[(0,[0],[]),(1,[52],[]),(2,[9],[1024,1057]),(3,[8],[8]),(4,[55],[])],[6,7,53,54,56,57],[1024,1028,1053,1057]⟩⟩)] [] [0,1,2,3,4,5,6,7,8,9,10,11,12,13,0] M113) Tryz.func113 (by kernel_rfl) Tryz.ntmps113
def M124:MC:=(.seq (.reg [vI 2 0,bI 4 false] [] [1,2] [2]) (.seq (.reg [lI 5 2 8,cI 6 35 [.t 5],mi 7 6,gT 8 7 (.ld (.t 2) 8 true),gT 9 7 (.mv (.t 1)),⟨some 10,some (7,true),.call (.f 105) [.t 8,.t 9]⟩,qi 11 (.pick (.t 7) (.t 10) (.c (.bool false))),mi 4 11] [] [4] [1006,1010]) .ret))
theorem c124:Cd 124 12 [RV.tmp 4] M124:=cO [] (rn [] [] 2 M124) Tryz.func124 (by kernel_rfl) Tryz.ntmps124
def M158:MC:=(.seq (.reg [vI 3 1,kI 4 0] [] [0,3] [3]) (.seq (.reg [mi 5 0,qi 6 (.clo 196 [.t 3]),cI 7 195 [.t 5,.t 6],mi 4 7] [] [4] [1007]) .ret))
theorem c158:Cd 158 8 [RV.tmp 4] M158:=cO [] (rn [] [] 2 M158) Tryz.func158 (by kernel_rfl) Tryz.ntmps158
def M196:MC:=(.seq (.reg [vI 2 0,bI 3 false] [] [1,2] [2]) (.seq (.reg [fI 4 2 0,lJ 5 4 1,lJ 6 1 1,oI 7 .eql 5 6,mi 3 7] [] [3] []) .ret))
theorem c196:Cd 196 8 [RV.tmp 3] M196:=cO [] (rn [] [] 2 M196) Tryz.func196 (by kernel_rfl) Tryz.ntmps196
def B47_0:MC:=(.seq (.reg [oI 28 .lss 27 26] [] [1,3,25,26,27,28] [3]) (.seq (.cond (.t 28) .skip (.exit 0)) (.seq (.block 1 (.seq (.reg [qi 29 (.ia (.t 25) (.t 27) 3),lI 30 29 3,aI 10 [.pv (.sc (.string ⟨#[]⟩)),.pv (.sc (.int .i64 0)),.e0],⟨none,none,.st (.t 10) (.t 30) 3⟩] [] [1,3,10,25,26,27] [3,10]) (.seq (.reg [mi 31 1,fI 32 10 0,lJ 33 32 1,fI 35 10 1,lJ 36 35 1,cI 34 104 [.t 31,.t 33],qi 37 (.mm true (.t 34) (.t 36)),mi 11 37] [] [1,3,10,11,25,26,27] [3,10]) (.seq (.reg [mi 38 11,fI 39 10 1,lJ 40 39 1,fI 41 10 2,lJ 42 41 1,nI 43 42 false,oI 44 .add 40 43,oI 45 .lss 38 44,mi 46 45,gT 47 46 (.ld (.t 3) 8 true),gT 48 46 (.fa (.t 10) 0),gT 49 46 (.ld (.t 48) 1 false),⟨some 50,some (46,true),.call (.f 105) [.t 47,.t 49]⟩,qi 51 (.pick (.t 46) (.t 50) (.c (.bool false)))] [] [1,3,10,11,25,26,27,51] [3,10,1050]) (.cond (.t 51) (.seq (.reg [fI 52 10 0,lJ 53 52 1,mi 54 11,mi 6 53,mi 7 54,kI 8 0] [] [6,7,8] []) .ret) .skip))))) (.reg [oJ 55 .add 27 1,mi 27 55] [] [1,3,25,26,27] [3]))))
def R47_0:MC:=(.seq (.reg [qi 6 (.mv (.c (.string ⟨#[]⟩))),kI 7 0,kI 8 4] [] [6,7,8] []) .ret)
def M47:MC:=(.seq (.reg [vI 3 0,qi 6 (.mv (.c (.string ⟨#[]⟩))),kI 7 0,kI 8 0] [] [1,2,3] [3]) (.seq (.seq (.reg [lI 12 3 8,cI 13 35 [.t 12],qi 14 (.not (.t 13)),mi 15 14,gF 16 15 (.mv (.t 1)),⟨some 17,some (15,false),.call (.f 103) [.t 16]⟩,gF 18 15 (.bin .neq (.t 17) (ic 0)),qi 19 (.pick (.t 15) (.c (.bool true)) (.t 18)),mi 20 19,gF 21 20 (.mv (.t 2)),⟨some 22,some (20,false),.call (.f 20) [.t 21]⟩,gF 23 20 (.bin .neq (.t 22) (ic 0)),qi 24 (.pick (.t 20) (.c (.bool true)) (.t 23))] [] [1,2,3,24] [3,1013,1017,1022]) (.cond (.t 24) (.seq (.reg [qi 6 (.mv (.c (.string ⟨#[]⟩))),kI 7 0,kI 8 1] [] [6,7,8] []) .ret) .skip)) (.seq (.seq (.reg [mi 25 2,nI 26 25 false,kI 27 0] [] [1,3,25,26,27] [3]) (.block 0 (.loop B47_0))) R47_0)))
theorem c47:Cd 47 56 [RV.tmp 6,RV.tmp 7,RV.tmp 8] M47:=cO [] (rn [] [(6,[(0,201),(1,206),(2,204),(4,240),(5,224),(3,0),(6,192),(7,128)],255)] 11 M47) Tryz.func47 (by kernel_rfl) Tryz.ntmps47
end Go.Vc

namespace Go.Vc
open Go.Proofs
set_option maxRecDepth 100000
def M150:MC:=(.seq (.reg [vI 2 0,bI 3 false] [] [1,2] [2]) (.seq (.reg [fI 4 2 0,lJ 5 4 1,lJ 6 1 1,oI 7 .eql 5 6,mi 3 7] [] [3] []) .ret))
theorem c150:Cd 150 8 [RV.tmp 3] M150:=cO [] (rn [] [] 2 M150) Tryz.func150 (by kernel_rfl) Tryz.ntmps150
theorem c149:Cd 149 19 [RV.tmp 4] (xC 3):=cO [] rU Tryz.func149 (by kernel_rfl) Tryz.ntmps149
def M91:MC:=(.seq (.reg [vI 3 1,kI 4 0] [] [0,3] [3]) (.seq (.reg [mi 5 0,qi 6 (.clo 150 [.t 3]),cI 7 149 [.t 5,.t 6],mi 4 7] [] [4] [1007]) .ret))
theorem c91:Cd 91 8 [RV.tmp 4] M91:=cO [] (rn [] [] 2 M91) Tryz.func91 (by kernel_rfl) Tryz.ntmps91
theorem c92:Cd 92 8 [RV.tmp 2] (Az 3 32):=cO [] (vT 3) Tryz.func92 (by kernel_rfl) Tryz.ntmps92
def M86:MC:=(.seq (.reg [aI 4 [.pv (.sc (.string ⟨#[]⟩)),.pv (.sc (.int .u64 0)),.pv (.sc (.int .i64 0))],bI 5 false] [] [0,1,4] [4]) (.seq (.reg [mi 7 0,mi 8 1,cI 9 91 [.t 7,.t 8],mi 6 9] [] [0,4,6] [4,1009]) (.seq (.seq (.reg [mi 10 6,oJ 11 .lss 10 0] [] [0,4,6,11] [4,1009]) (.cond (.t 11) (.seq (.reg [qi 12 (.mk [.pv (.sc (.string ⟨#[]⟩)),.pv (.sc (.int .u64 0)),.pv (.sc (.int .i64 0))] []),⟨none,none,.st (.t 4) (.t 12) 3⟩,bI 5 false] [] [4,5] [4]) .ret) .skip)) (.seq (.reg [mi 13 0,mi 14 6,qi 15 (.ia (.t 13) (.t 14) 3),lI 16 15 3,⟨none,none,.st (.t 4) (.t 16) 3⟩,bI 5 true] [] [4,5] [4]) .ret))))
theorem c86:Cd 86 17 [RV.cell 4 3 true,RV.tmp 5] M86:=cO [] (rn [] [] 5 M86) Tryz.func86 (by kernel_rfl) Tryz.ntmps86
def B21_0:MC:=(.seq (.reg [oI 11 .lss 10 9] [] [0,8,9,10,11] []) (.seq (.cond (.t 11) .skip (.exit 0)) (.seq (.block 1 (.seq (.reg [mi 12 10,qi 13 (.ia (.t 8) (.t 10) 3),lI 14 13 3,aI 4 [.pv (.sc (.string ⟨#[]⟩)),.pv (.sc (.int .u64 0)),.pv (.sc (.int .i64 0))],mi 3 12,⟨none,none,.st (.t 4) (.t 14) 3⟩] [] [0,3,4,8,9,10] [4]) (.seq (.seq (.reg [fI 15 4 0,lJ 16 15 1,cI 17 71 [.t 16],qi 18 (.not (.t 17)),mi 19 18,gF 20 19 (.fa (.t 4) 1),gF 21 19 (.ld (.t 20) 1 false),gF 22 19 (.bin .lss (.t 21) (.c (.int .u64 1))),qi 23 (.pick (.t 19) (.c (.bool true)) (.t 22)),mi 24 23,gF 25 24 (.fa (.t 4) 2),gF 26 24 (.ld (.t 25) 1 false),gF 27 24 (.bin .lss (.t 26) (ic 0)),qi 28 (.pick (.t 24) (.c (.bool true)) (.t 27))] [] [0,3,4,8,9,10,28] [4,1017]) (.cond (.t 28) (.seq (.reg [kI 2 1] [] [2] []) .ret) .skip)) (.seq (.reg [mi 29 3,oJ 30 .gtr 29 0,mi 31 30,gT 32 31 (.mv (.t 0)),gT 33 31 (.mv (.t 3)),gT 34 31 (.bin .sub (.t 33) (ic 1)),gT 35 31 (.ia (.t 32) (.t 34) 3),gT 36 31 (.fa (.t 35) 0),gT 37 31 (.ld (.t 36) 1 false),gT 38 31 (.fa (.t 4) 0),gT 39 31 (.ld (.t 38) 1 false),gT 40 31 (.bin .geq (.t 37) (.t 39)),qi 41 (.pick (.t 31) (.t 40) (.c (.bool false)))] [] [0,8,9,10,41] []) (.cond (.t 41) (.seq (.reg [kI 2 1] [] [2] []) .ret) .skip))))) (.reg [oJ 42 .add 10 1,mi 10 42] [] [0,8,9,10] []))))
def R21_0:MC:=(.seq (.reg [kI 2 0] [] [2] []) .ret)
def M21:MC:=(.seq (.reg [kI 2 0] [] [0] []) (.seq (.seq (.reg [mi 5 0,nI 6 5 false,oJ 7 .gtr 6 50] [] [0,7] []) (.cond (.t 7) (.seq (.reg [kI 2 1] [] [2] []) .ret) .skip)) (.seq (.seq (.reg [mi 8 0,nI 9 8 false,kI 10 0] [] [0,8,9,10] []) (.block 0 (.loop B21_0))) R21_0)))
theorem c21:Cd 21 43 [RV.tmp 2] M21:=cO [] (rn [] [(8,[(0,8191),(1,8190),(2,8188),(3,6600),(4,6640),(5,6624),(6,6592),(7,6528),(8,6400),(9,7680),(10,7168),(11,6144),(12,4096)],8191)] 12 M21) Tryz.func21 (by kernel_rfl) Tryz.ntmps21
def M32:MC:=(.seq (.reg [kI 6 0,kI 7 0] [] [0,1,2] []) (.seq (.seq (.reg [mi 10 0,cI 11 21 [.t 10],oJ 12 .neq 11 0,mi 13 12,gF 14 13 (.mv (.t 1)),⟨some 15,some (13,false),.call (.f 71) [.t 14]⟩,gF 16 13 (.not (.t 15)),qi 17 (.pick (.t 13) (.c (.bool true)) (.t 16)),mi 18 17,gF 19 18 (.mv (.t 2)),gF 20 18 (.bin .lss (.t 19) (.c (.int .u64 1))),qi 21 (.pick (.t 18) (.c (.bool true)) (.t 20))] [] [0,1,2,21] [1011,1015]) (.cond (.t 21) (.seq (.reg [kI 6 0,kI 7 1] [] [6,7] [1025]) .ret) .skip)) (.seq (.reg [mi 23 0,mi 24 1,cI 25 86 [.t 23,.t 24],mi 22 25,xI 26 22 0,xI 27 22 1,aI 8 [.pv (.sc (.string ⟨#[]⟩)),.pv (.sc (.int .u64 0)),.pv (.sc (.int .i64 0))],⟨none,none,.st (.t 8) (.t 26) 3⟩,mi 9 27] [] [2,8,9] [8,1025]) (.seq (.block 0 (.seq (.reg [mi 29 9,mi 30 29,gT 31 30 (.mv (.t 2)),gT 32 30 (.fa (.t 8) 1),gT 33 30 (.ld (.t 32) 1 false),gT 34 30 (.bin .eql (.t 31) (.t 33)),qi 35 (.pick (.t 30) (.t 34) (.c (.bool false))),mi 28 35] [] [2,8,9,28] [8,1025]) (.cond (.t 28) (.seq (.reg [fI 36 8 2,lJ 37 36 1,mi 6 37,kI 7 5] [] [6,7] [1025]) .ret) (.seq (.reg [mi 39 9,mi 40 39,gT 41 40 (.mv (.t 2)),gT 42 40 (.fa (.t 8) 1),gT 43 40 (.ld (.t 42) 1 false),gT 44 40 (.bin .lss (.t 41) (.t 43)),qi 45 (.pick (.t 40) (.t 44) (.c (.bool false))),mi 38 45] [] [2,8,38] [8,1025]) (.cond (.t 38) (.seq (.reg [kI 6 0,kI 7 8] [] [6,7] [1025]) .ret) (.seq (.reg [mi 47 2,qi 48 (.bin .sub (.t 47) (.c (.int .u64 1))),fI 49 8 1,lJ 50 49 1,oI 51 .eql 48 50,mi 46 51] [] [46] [1025]) (.cond (.t 46) (.seq (.reg [kI 6 0,kI 7 0] [] [6,7] [1025]) .ret) .skip))))))) (.seq (.reg [kI 6 0,kI 7 9] [] [6,7] [1025]) .ret)))))
theorem c32:Cd 32 52 [RV.tmp 6,RV.tmp 7] M32:=cO [] (rn [] [] 11 M32) Tryz.func32 (by kernel_rfl) Tryz.ntmps32
def B34_0:MC:=(.seq (.seq (.reg [mi 41 8,mi 42 0,nI 43 42 false,oI 44 .lss 41 43,mi 45 44,gT 46 45 (.mv (.t 0)),gT 47 45 (.mv (.t 8)),gT 48 45 (.ia (.t 46) (.t 47) 3),gT 49 45 (.fa (.t 48) 0),gT 50 45 (.ld (.t 49) 1 false),gT 51 45 (.fa (.t 3) 0),gT 52 45 (.ld (.t 51) 1 false),gT 53 45 (.bin .lss (.t 50) (.t 52)),qi 54 (.pick (.t 45) (.t 53) (.c (.bool false)))] [] [0,3,8,54] [3,1028,1062]) (.cond (.t 54) .skip (.exit 0))) (.block 1 (.reg [mi 55 8,oJ 56 .add 55 1,mi 8 56] [] [0,3,8] [3,1028,1062])))
def R34_0:MC:=(.seq (.seq (.grp [1058] [⟨57,none,.q (.mv (.t 0)),[0],[]⟩,⟨58,none,.call (.f 92) [.t 57],[57],[]⟩,⟨59,none,.q (.mv (.t 8)),[8],[1028,1062]⟩,⟨60,none,.q (.ld (.t 3) 3 true),[3],[3]⟩,⟨61,none,.lits [.t 60] 3,[60],[]⟩] [4,5,58,59,61,62] [1016,1028,1032,1058,1062]) (.reg [dI 62 93 [.t 58,.t 59,.t 61],mi 4 62,kI 5 0] [] [4,5] [1016,1028,1032,1058,1062])) .ret)
def M34:MC:=(.seq (.reg [vI 3 1,qi 4 (.mv .nil),kI 5 0] [] [0,3] [3]) (.seq (.seq (.reg [mi 11 0,fI 12 3 0,lJ 13 12 1,fI 14 3 1,lJ 15 14 1,cI 16 32 [.t 11,.t 13,.t 15],mi 10 16,xI 17 10 0,xI 18 10 1,mi 6 17,mi 7 18] [] [0,3,7] [3,1016]) (.seq (.reg [mi 19 7,oJ 20 .neq 19 0] [] [0,3,7,20] [3,1016]) (.cond (.t 20) (.seq (.reg [mi 21 7,qi 4 (.mv .nil),mi 5 21] [] [4,5] [1016,1028,1032,1058,1062]) .ret) .skip))) (.seq (.seq (.reg [fI 22 3 2,lJ 23 22 1,oJ 24 .lss 23 0] [] [0,3,24] [3]) (.cond (.t 24) (.seq (.reg [qi 4 (.mv .nil),kI 5 1] [] [4,5] [1016,1028,1032,1058,1062]) .ret) .skip)) (.seq (.reg [mi 25 0,fI 26 3 0,lJ 27 26 1,cI 28 91 [.t 25,.t 27],mi 8 28] [] [0,3,8] [3,1028,1062]) (.seq (.seq (.reg [mi 29 8,oJ 30 .geq 29 0] [] [0,3,8,30] [3,1028,1062]) (.cond (.t 30) (.seq (.reg [mi 31 0,cI 32 92 [.t 31],mi 9 32] [] [3,8,9] [3,1028,1032,1062]) (.seq (.reg [mi 33 9,mi 34 8,lI 35 3 3,qi 36 (.ia (.t 33) (.t 34) 3),⟨none,none,.st (.t 36) (.t 35) 3⟩] [] [9] [1032]) (.seq (.reg [mi 37 9,mi 4 37,kI 5 0] [] [4,5] [1016,1028,1032,1058,1062]) .ret))) .skip)) (.seq (.seq (.reg [mi 38 0,nI 39 38 false,oJ 40 .geq 39 50] [] [0,3,40] [3]) (.cond (.t 40) (.seq (.reg [qi 4 (.mv .nil),kI 5 6] [] [4,5] [1016,1028,1032,1058,1062]) .ret) .skip)) (.seq (.reg [kI 8 0] [] [0,3,8] [3,1028,1062]) (.seq (.block 0 (.loop B34_0)) R34_0))))))))
theorem c34:Cd 34 63 [RV.tmp 4,RV.tmp 5] M34:=cO [62] (rz [(16,⟨[4,5],[1016,1028,1032,1058,1062],[(5,0),(6,192),(7,128)],223,[],some ⟨[1058],[(0,[0],[]),(1,[57],[]),(2,[8],[1028,1062]),(3,[3],[3]),(4,[60],[])],[4,5,58,59,61,62],[1016,1028,1032,1058,1062]⟩⟩)] [(14,[(0,16377),(1,16382),(2,16380),(3,16376),(4,16368),(5,13216),(6,13248),(7,13184),(8,13056),(9,12800),(10,15360),(11,14336),(12,12288),(13,8192)],16383)] [0,1,2,3,4,5,6,7,8,9,10,11,12,13,14,15,0] M34) Tryz.func34 (by kernel_rfl) Tryz.ntmps34
end Go.Vc

namespace Go.Vc
open Go.Proofs
set_option linter.unusedSimpArgs false
set_option linter.unusedVariables false
theorem PA {ps:List PV} {st:List (Nat×Row)} {r off n:Nat} {xs:List PV} (hst:(r,.slf 3 xs)∈st) (hw:cY 3 ps):J2 Tryz.prog 151 [.pv (.lst ps),.row r off n] st (aY false):=
 iR 24 94 4 Tryz.func151 (by decide) rfl (by kernel_rfl) (by kernel_rfl) (by kernel_rfl) (by kernel_rfl) hst hw (by decide)
theorem PM (xs:List PV) (hx:cY 3 xs) (p:PV) (hp:cY 3 [p]) (i:Nat) (hi:i≤xs.length) (hl:xs.length<100000):
  j4 Tryz.prog 93 [.row 0 0 xs.length,.pv (pI i),.pv (.lst [p])] [(0,.sl 3 xs)] (.pv (.lst (eZ xs i p))) []:=yJ (by decide) (by decide) (Q8 3 [_,_,_] rfl (by decide)) c93.s PA xs hx p hp i hi hl
theorem Pz {ps:List PV} {st:List (Nat×Row)} {r off n:Nat} {xs:List PV} (hst:(r,.slf 5 xs)∈st) (hw:cY 5 ps):J2 Tryz.prog 117 [.pv (.lst ps),.row r off n] st (aY false):=
 iR 26 129 4 Tryz.func117 (by decide) rfl (by kernel_rfl) (by kernel_rfl) (by kernel_rfl) (by kernel_rfl) hst hw (by decide)
theorem Mj (xs:List PV) (hx:cY 5 xs) (p:PV) (hp:cY 5 [p]) (i:Nat) (hi:i≤xs.length) (hl:xs.length<100000):
  j4 Tryz.prog 61 [.row 0 0 xs.length,.pv (pI i),.pv (.lst [p])] [(0,.sl 5 xs)] (.pv (.lst (eZ xs i p))) []:=yJ (by decide) (by decide) (eU [default]) c61.s Pz xs hx p hp i hi hl
end Go.Vc

namespace Go.Vc
open Go.Proofs
set_option linter.unusedSimpArgs false
set_option linter.unusedVariables false
set_option maxRecDepth 10000
structure La where
 p:ByteArray
 n:Int
 o:Int
 deriving DecidableEq
instance:Inhabited La:=⟨⟨⟨#[]⟩,0,0⟩⟩
abbrev La.pv (x:La):PV:=.agg [pS x.p,pU x.n,pI x.o]
abbrev ls (l:List La):PV:=.lst (l.map La.pv)
theorem s3 (l:List La):cY 3 (l.map La.pv):=kZ (f:=La.pv) (s:=3) (fun a=>⟨rfl,fun c hc=>by
 simp only[PV.cells,List.mem_cons,List.not_mem_nil,or_false]at hc
 rcases hc with rfl|rfl|rfl<;>rfl⟩) l
theorem Qp (x:La) (n:ByteArray):Fn Tryz.prog 150 [x.pv,.pt [pS n]] (.pv (pB (decide (x.p=n)))) []:=by
 refine c150.r [] (by simp) ?_
 simp only[go_sem,M150]
theorem Qq (l:List La) (g:Nat) (caps:List PV) (q:La→Bool) (hl:l.length<100000) (hg:∀k∈l,Fn Tryz.prog g (k.pv::caps) (.pv (pB (q k))) []):
  Fn Tryz.prog 149 [ls l,.fn g caps] (.pv (pI (gZ q l))) []:=rZ c149.r l (s3 l) (fun _=>rfl) g caps q hl hg
def v6 (l:List La) (p:ByteArray):Int:=gZ (fun x=>decide (x.p=p)) l
theorem OT (l:List La) (p:ByteArray) (hl:l.length<100000):Fn Tryz.prog 91 [ls l,pS p] (.pv (pI (v6 l p))) []:=by
 refine c91.r [] (by simp) ?_
 simp only[go_sem,M91]
 refine aA (by simp only[go_sem]) (by simp only[go_sem]<;>rfl) (Qq l 150 [.pt [pS p]] (fun x=>decide (x.p=p)) hl (fun x hx=>Qp x p)) ⟨rfl,trivial⟩ trivial ?_
 simp only[go_sem]
 rfl
theorem OS (l:List La) (hl:l.length<100000):Fn Tryz.prog 92 [ls l] (.row 0 0 l.length) [(3,l.map La.pv)]:=v1 c92.r l (s3 l) hl (by decide) (by decide)
theorem tX (l:List La) (p:ByteArray):(v6 l p = -1∧∀x∈l,x.p≠p)∨∃n,∃h:n<l.length,v6 l p=n∧(l[n]).p=p∧∀j (hj:j<l.length),j<n→(l[j]).p≠p:=by
 rcases eY (fun x:La=>decide (x.p=p)) l with⟨h1,h2⟩|⟨n,h,h1,h2,h3⟩
 ·exact .inl ⟨h1,fun x hx=>by simpa using h2 x hx⟩
 ·exact .inr ⟨n,h,h1,by simpa using h2,fun j hj hji=>by simpa using h3 j hj hji⟩
def hM (l:List La) (p:ByteArray):La×Bool:=if v6 l p<0 then(default,false)else(l.getD (v6 l p).toNat default,true)
theorem Rn (l:List La) (p:ByteArray) (hl:l.length<100000):Fn Tryz.prog 86 [ls l,pS p] (.pv (.tup [(hM l p).1.pv,pB (hM l p).2])) []:=by
 refine c86.r [] (by simp) ?_
 simp only[go_sem,M86]
 refine aA (by simp only[go_sem]) (by simp only[go_sem]<;>rfl) (OT l p hl) ⟨rfl,trivial⟩ trivial ?_
 simp only[go_sem,s3]
 unfold hM
 rcases tX l p with⟨h1,_⟩|⟨n,h,h1,_⟩
 ·rw[h1]
  refine⟨fun _=>rfl,fun h=>absurd h (by omega)⟩
 ·rw[h1]
  refine⟨fun h=>absurd h (by omega),fun _=>?_⟩
  have e1:((n:Int)).toNat=n:=by omega
  have e2:¬((n:Int)<0):=by omega
  simp only[go_sem,e1,e2,aK h,aM h]
  omega
def Aw (x:La):Bool:=b8 x.p&&decide (1≤x.n)&&decide (0≤x.o)
def lS (a b:ByteArray):Bool:=Op.bytesLess a.toList b.toList
def HD (l:List La) (i:Nat):Bool:=Aw (l.getD i default)&&(decide (i=0)||lS (l.getD (i-1) default).p (l.getD i default).p)
def dV (l:List La):Bool:=decide (l.length≤50)&&(List.range l.length).all (HD l)
theorem gM (l:List La):dV l=true↔l.length≤50∧∀i,i<l.length→HD l i=true:=by
 simp[dV,List.all_eq_true]
theorem O2 (l:List La) (hl:l.length<100000):Fn Tryz.prog 21 [ls l] (.pv (pI (eR (dV l)))) []:=by
 refine c21.r [] (by simp) ?_
 simp only[go_sem,M21]
 refine⟨fun h=>?_,fun h=>?_⟩
 ·have:dV l=false:=by simp[dV];omega
  rw[this];rfl
 have h100:l.length≤50:=by omega
 refine aZ (T:=Nat) (fun i=>⟨[(0,.pv (ls l)),(8,.pv (ls l)),(9,.pv (pI l.length)),(10,.pv (pI i))],[]⟩) (fun i=>i≤l.length∧∀j,j<i→HD l j=true) (fun i=>l.length-i) 0 rfl ⟨Nat.zero_le _,fun j h=>absurd h (by omega)⟩ ?_
 intro i ⟨hi,hq⟩
 by_cases hlt:i<l.length
 ·have no:HD l i=false→dV l=false:=fun h=>by
   cases hc:dV l with
   | false=>rfl
   | true=>rw[((gM l).1 hc).2 i hlt]at h;cases h
  have next:HD l i=true→∀j,j<i+1→HD l j=true:=fun h j hj=>by
   by_cases hji:j=i
   ·subst hji;exact h
   ·exact hq j (by omega)
  simp only[go_sem,B21_0,s3,aK hlt,show(i:Int)<(l.length:Int)by omega]
  refine aA (by simp only[go_sem]) (by simp only[go_sem]<;>rfl) (x2 (l[i]).p) ⟨rfl,trivial⟩ trivial ?_
  have hok:HD l i=(Aw l[i]&&(decide (i=0)||lS (l.getD (i-1) default).p (l[i]).p)):=by
   unfold HD;rw[aM hlt]
  by_cases h0:i=0
  ·subst h0
   simp only[go_sem]
   simp only[decide_true,Bool.true_or,Bool.and_true]at hok
   refine⟨fun h=>?_,fun h=>⟨1,rfl,⟨by omega,next ?_⟩,by omega⟩⟩
   ·rw[no];rfl
    rw[hok,Aw]
    rcases h with(h|h)|h
    ·rw[h];rfl
    ·simp;omega
    ·simp;omega
   ·rw[hok,Aw,h.1.1];simp;omega
  ·have hlt1:i-1<l.length:=by omega
   have e1:((i:Int)-1).toNat=i-1:=by omega
   simp only[go_sem,s3,e1,aK hlt1,show(0:Int)<(i:Int)by omega]
   rw[aM hlt1]at hok
   refine⟨fun h=>?_,fun h=>⟨⟨by omega,by omega⟩,⟨by omega,by omega⟩,fun h2=>?_,fun h2=>⟨⟨by omega,by omega⟩,i+1,rfl,⟨by omega,next ?_⟩,by omega⟩⟩⟩
   ·rw[no];rfl
    rw[hok,Aw]
    rcases h with(h|h)|h
    ·rw[h];rfl
    ·simp;omega
    ·simp;omega
   ·rw[no];rfl
    rw[hok,lS,h2]
    simp[h0]
   ·rw[hok,Aw,h.1.1,lS,h2];simp;omega
 ·simp only[go_sem,B21_0,R21_0,show ¬((i:Int)<(l.length:Int))by omega]
  have e:dV l=true:=(gM l).2 ⟨h100,fun j hj=>hq j (by omega)⟩
  rw[e];rfl
def uM (l:List La) (p:ByteArray) (n:Int):Int×Int:=
 if dV l=false∨b8 p=false∨n<1 then(0,1)
 else if(hM l p).2=true∧n=(hM l p).1.n then((hM l p).1.o,5)
 else if(hM l p).2=true∧n<(hM l p).1.n then(0,8)
 else if n-1=(hM l p).1.n then(0,0)else(0,9)
theorem Jo {l:List La} {p:ByteArray} (h:(hM l p).2=false):(hM l p).1=default:=by
 unfold hM at h ⊢
 split
 ·rfl
 ·rename_i h1;rw[if_neg h1]at h;cases h
theorem O1 (l:List La) (p:ByteArray) (n:Int) (hl:l.length<100000) (hn:0≤n) (hm:n≤18446744073709551615):Fn Tryz.prog 32 [ls l,pS p,pU n] (.pv (.tup [pI (uM l p n).1,pI (uM l p n).2])) []:=by
 refine c32.r [] (by simp) ?_
 simp only[go_sem,M32]
 refine aA (by simp only[go_sem]) (by simp only[go_sem]<;>rfl) (O2 l hl) ⟨rfl,trivial⟩ trivial ?_
 simp only[go_sem,nA,y8]
 refine aF (by simp only[go_sem]) (by simp only[go_sem]) (by simp only[go_sem]<;>rfl) (fun _=>x2 p) rfl ?_
 simp only[go_sem]
 refine⟨fun h=>?_,fun h=>?_⟩
 ·rw[show uM l p n=(0,1)by unfold uM;rw[if_pos (by rcases h with(h|h)|h<;>simp[h])]]
 have h0:uM l p n=if(hM l p).2=true∧n=(hM l p).1.n then((hM l p).1.o,5)else if(hM l p).2=true∧n<(hM l p).1.n then(0,8)else if n-1=(hM l p).1.n then(0,0)else(0,9):=by
  unfold uM;rw[if_neg (by rw[h.1.1,h.1.2];simp;omega)]
 have hno:=Jo (l:=l) (p:=p)
 refine aA (by simp only[go_sem]) (by simp only[go_sem]<;>rfl) (Rn l p hl) ⟨rfl,trivial⟩ trivial ?_
 rw[h0]
 generalize hM l p=y at hno ⊢
 obtain⟨x,b⟩:=y
 simp only[go_sem]
 cases b
 ·obtain rfl:x=default:=hno rfl
  have e0:(default:La).n=0:=rfl
  simp only[e0,Bool.false_eq_true,false_and,if_false,forall_const,true_or,true_and]
  refine⟨fun h=>h.elim,fun h=>h.elim,⟨by omega,by omega⟩,fun h=>by rw[if_pos h],fun h=>by rw[if_neg h]⟩
 ·simp only[true_and,Bool.true_eq_false,false_or]
  refine⟨fun h=>by rw[if_pos h],fun h1=>⟨fun h=>by rw[if_neg h1,if_pos h],fun h2=>⟨⟨by omega,by omega⟩,fun h=>by rw[if_neg h1,if_neg h2,if_pos h],fun h=>by rw[if_neg h1,if_neg h2,if_neg h]⟩⟩⟩
def s4 (l:List La) (x:La):List La×Int:=
 if(uM l x.p x.n).2≠0 then([],(uM l x.p x.n).2)
 else if x.o<0 then([],1)
 else if 0≤v6 l x.p then(l.set (v6 l x.p).toNat x,0)
 else if 50≤l.length then([],6)
 else(eZ l (l.takeWhile (fun y=>lS y.p x.p)).length x,0)
theorem BT {α:Type} {q:α→Bool}:∀{l:List α} {i:Nat},i≤l.length→(∀j (h:j<l.length),j<i→q l[j]=true)→(∀h:i<l.length,q l[i]=false)→(l.takeWhile q).length=i
 | [],i,h0,_,_=>by simp at h0;simp[h0]
 | a::l,0,_,_,h=>by
  have:=h (by simp)
  simp at this
  simp[List.takeWhile_cons,this]
 | a::l,i+1,h0,h1,h2=>by
  have h3:=h1 0 (by simp) (by omega)
  simp at h3
  simp only[List.takeWhile_cons,h3,if_true,List.length_cons]
  congr 1
  exact BT (by simpa using h0) (fun j hj hji=>by have:=h1 (j+1) (by simpa using hj) (by omega);simpa using this) (fun h=>by have:=h2 (by simpa using h);simpa using this)
theorem RI (l:List La) (x:La) (hl:l.length<100000) (hn:0≤x.n) (hm:x.n≤18446744073709551615):Fn Tryz.prog 34 [ls l,x.pv] (.pv (.tup [ls (s4 l x).1,pI (s4 l x).2])) []:=by
 refine c34.r [false,false] (by simp) ?_
 simp only[go_sem,M34]
 refine aA (by simp only[go_sem]) (by simp only[go_sem]<;>rfl) (O1 l x.p x.n hl hn hm) ⟨rfl,trivial⟩ trivial ?_
 simp only[go_sem]
 unfold s4
 refine⟨fun h=>by rw[if_pos h];rfl,fun h=>⟨fun ho=>by rw[if_neg (by omega),if_pos ho];rfl,fun ho=>?_⟩⟩
 rw[if_neg (by omega),if_neg ho]
 refine aA (by simp only[go_sem]) (by simp only[go_sem]<;>rfl) (OT l x.p hl) ⟨rfl,trivial⟩ trivial ?_
 simp only[go_sem]
 rcases tX l x.p with⟨h1,_⟩|⟨k,hk,h1,h2,_⟩
 ·rw[h1]
  refine⟨fun h=>absurd h (by omega),fun _=>⟨fun h=>by rw[if_neg (by omega),if_pos (by omega)];rfl,fun h5=>?_⟩⟩
  rw[if_neg (by omega),if_neg (by omega)]
  refine aZ (T:=Nat) (fun i=>⟨[(0,.pv (ls l)),(3,.ptr 3 0),(8,.pv (pI i))],[(3,.box [.pv (pS x.p),.pv (pU x.n),.pv (pI x.o)])]⟩) (fun i=>i≤l.length∧∀j (h:j<l.length),j<i→lS (l[j]).p x.p=true) (fun i=>l.length-i) 0 rfl ⟨Nat.zero_le _,fun j _ h=>absurd h (by omega)⟩ ?_
  intro i ⟨hi,hq⟩
  have fin:∀v:AV,(∀h:i<l.length,lS (l[i]).p x.p=false)→run Tryz.prog (uL [RV.tmp 4,RV.tmp 5] [false,false] (.pv (.tup [ls (eZ l (List.takeWhile (fun y=>lS y.p x.p) l).length x),pI 0])) []) R34_0 []
    ⟨[(0,.pv (ls l)),(3,.ptr 3 0),(8,.pv (pI i)),(54,v)],[(3,.box [.pv (pS x.p),.pv (pU x.n),.pv (pI x.o)])]⟩:=fun v hx=>by
   rw[BT hi hq hx]
   simp only[go_sem,R34_0]
   refine cC (by simp only[go_sem]) rfl (OS l hl) (.inl rfl) trivial ?_
   simp only[go_sem]
   have hS:=PM (l.map La.pv) (s3 l) x.pv (s3 [x]) i (by simpa using hi) (by simpa using hl)
   rw[List.length_map]at hS
   refine aP (fun _=>1058) (by simp only[go_sem]) (by simp only[go_sem]<;>rfl) hS rfl (by intro e he;simp only[List.mem_cons,List.not_mem_nil,or_false]at he;subst he;simp only[go_sem]) (by simp) (by simp) (by simp) (by intro e he _;decide) ?_
   simp only[go_sem]
   rw[mZ]
  by_cases hlt:i<l.length
  ·simp only[go_sem,B34_0,s3,aK hlt,show(i:Int)<(l.length:Int)by omega]
   refine⟨fun h=>⟨⟨by omega,by omega⟩,i+1,rfl,⟨hlt,fun j hj hji=>?_⟩,by omega⟩,fun h=>fin _ (fun _=>h)⟩
   by_cases hj2:j=i
   ·subst hj2;exact h
   ·exact hq j hj (by omega)
  ·simp only[go_sem,B34_0,s3,show ¬(i:Int)<(l.length:Int)by omega]
   exact fin _ (fun h=>absurd h hlt)
 ·rw[h1]
  refine⟨fun _=>?_,fun h=>absurd h (by omega)⟩
  rw[if_pos (by omega)]
  refine aC (by simp only[go_sem]) rfl (OS l hl) (.inl rfl) trivial ?_
  simp only[go_sem]
  refine⟨by omega,hk,?_⟩
  rw[List.take_of_length_le (by simp),aK hk]
  unfold ls
  rw[List.map_set]
  rfl
end Go.Vc

namespace Go.Vc
open Go.Proofs
set_option linter.unusedSimpArgs false
set_option linter.unusedVariables false
set_option maxRecDepth 10000
structure Df where
 name:ByteArray
 globs:List ByteArray
 wh:List Pd
 key:ByteArray
 j:Jn
instance:Inhabited Df:=⟨⟨⟨#[]⟩,[],[],⟨#[]⟩,⟨⟨#[]⟩,0,0,0⟩⟩⟩
abbrev Df.cells (d:Df):List PV:=[pS d.name,ss d.globs,HF d.wh,pS d.key,pS d.j.kind,pI d.j.parts,pI d.j.need,pI d.j.window]
abbrev Df.pv (d:Df):PV:=.agg d.cells
structure Of where
 t:ByteArray
 n:Int
 deriving DecidableEq
instance:Inhabited Of:=⟨⟨⟨#[]⟩,0⟩⟩
abbrev Of.pv (x:Of):PV:=.agg [pS x.t,pI x.n]
abbrev offs (l:List Of):PV:=.lst (l.map Of.pv)
theorem pC (l:List Of):cY 2 (l.map Of.pv):=kZ (f:=Of.pv) (s:=2) (fun a=>⟨rfl,fun c hc=>by
 simp only[PV.cells,List.mem_cons,List.not_mem_nil,or_false]at hc
 rcases hc with rfl|rfl<;>rfl⟩) l
theorem EE {α:Type} {q:α→Bool} {l:List α} {i:Nat} (h:i<l.length) (hq:q l[i]=false):l.all q=false:=by
 rw[List.all_eq_false];exact⟨_,List.getElem_mem h,by simp[hq]⟩
theorem Cs {α:Type} {q:α→Bool} {l:List α} (h:∀j (hj:j<l.length),q l[j]=true):l.all q=true:=by
 rw[List.all_eq_true]
 intro x hx
 obtain⟨j,hj,rfl⟩:=List.mem_iff_getElem.1 hx
 exact h j hj
theorem OR (l:List ByteArray) (g:Nat) (caps:List PV) (q:ByteArray→Bool) (hl:l.length<100000) (hg:∀k∈l,Fn Tryz.prog g (pS k::caps) (.pv (pB (q k))) []):
  Fn Tryz.prog 95 [ss l,.fn g caps] (.pv (pB (l.all q))) []:=by
 refine c95.r [] (by simp) ?_
 simp only[go_sem,M95]
 refine aZ (T:=Nat) (fun i=>⟨[(1,.pv (.fn g caps)),(7,.pv (ss l)),(8,.pv (pI l.length)),(9,.pv (pI i))],[]⟩) (fun i=>i≤l.length∧∀j (h:j<l.length),j<i→q l[j]=true) (fun i=>l.length-i) 0 rfl ⟨Nat.zero_le _,fun j _ h=>absurd h (by omega)⟩ ?_
 intro i ⟨hi,hq⟩
 by_cases hlt:i<l.length
 ·simp only[go_sem,B95_0,mQ,aK hlt,show(i:Int)<(l.length:Int)by omega]
  refine aA (by simp only[go_sem]) (by simp only[go_sem,pQ _ 3]) (hg _ (List.getElem_mem hlt)) ⟨rfl,trivial⟩ trivial ?_
  simp only[go_sem]
  refine⟨fun h=>(EE hlt h).symm,fun h=>⟨by omega,i+1,rfl,⟨hlt,fun j hj hji=>?_⟩,by omega⟩⟩
  by_cases hj2:j=i
  ·subst hj2;exact h
  ·exact hq j hj (by omega)
 ·simp only[go_sem,B95_0,R95_0,show ¬((i:Int)<(l.length:Int))by omega]
  exact(Cs fun j hj=>hq j hj (by omega)).symm
theorem Rl (l:List Pd) (g:Nat) (caps:List PV) (q:Pd→Bool) (hl:l.length<100000) (hg:∀k∈l,Fn Tryz.prog g (k.pv::caps) (.pv (pB (q k))) []):
  Fn Tryz.prog 97 [HF l,.fn g caps] (.pv (pB (l.all q))) []:=by
 refine c97.r [] (by simp) ?_
 simp only[go_sem,M97]
 refine aZ (T:=Nat) (fun i=>⟨[(1,.pv (.fn g caps)),(7,.pv (HF l)),(8,.pv (pI l.length)),(9,.pv (pI i))],[]⟩) (fun i=>i≤l.length∧∀j (h:j<l.length),j<i→q l[j]=true) (fun i=>l.length-i) 0 rfl ⟨Nat.zero_le _,fun j _ h=>absurd h (by omega)⟩ ?_
 intro i ⟨hi,hq⟩
 by_cases hlt:i<l.length
 ·have hpq:=Pd.pv_eq l[i]
  have hgi:=hg _ (List.getElem_mem hlt)
  rw[hpq]at hgi
  simp only[go_sem,B97_0,mB,aK hlt,hpq,show(i:Int)<(l.length:Int)by omega]
  refine aA (by simp only[go_sem]) (by simp only[go_sem,pQ _ 3]) hgi ⟨rfl,trivial⟩ trivial ?_
  simp only[go_sem]
  refine⟨fun h=>(EE hlt h).symm,fun h=>⟨by omega,i+1,rfl,⟨hlt,fun j hj hji=>?_⟩,by omega⟩⟩
  by_cases hj2:j=i
  ·subst hj2;exact h
  ·exact hq j hj (by omega)
 ·simp only[go_sem,B97_0,R97_0,show ¬((i:Int)<(l.length:Int))by omega]
  exact(Cs fun j hj=>hq j hj (by omega)).symm
theorem Qo (l:List Of) (g:Nat) (caps:List PV) (q:Of→Bool) (hl:l.length<100000) (hg:∀k∈l,Fn Tryz.prog g (k.pv::caps) (.pv (pB (q k))) []):
  Fn Tryz.prog 155 [offs l,.fn g caps] (.pv (pB (l.all q))) []:=by
 refine c155.r [] (by simp) ?_
 simp only[go_sem,M155]
 refine aZ (T:=Nat) (fun i=>⟨[(1,.pv (.fn g caps)),(7,.pv (offs l)),(8,.pv (pI l.length)),(9,.pv (pI i))],[]⟩) (fun i=>i≤l.length∧∀j (h:j<l.length),j<i→q l[j]=true) (fun i=>l.length-i) 0 rfl ⟨Nat.zero_le _,fun j _ h=>absurd h (by omega)⟩ ?_
 intro i ⟨hi,hq⟩
 by_cases hlt:i<l.length
 ·simp only[go_sem,B155_0,pC,aK hlt,show(i:Int)<(l.length:Int)by omega]
  refine aA (by simp only[go_sem]) (by simp only[go_sem,pQ _ 3]) (hg _ (List.getElem_mem hlt)) ⟨rfl,trivial⟩ trivial ?_
  simp only[go_sem]
  refine⟨fun h=>(EE hlt h).symm,fun h=>⟨by omega,i+1,rfl,⟨hlt,fun j hj hji=>?_⟩,by omega⟩⟩
  by_cases hj2:j=i
  ·subst hj2;exact h
  ·exact hq j hj (by omega)
 ·simp only[go_sem,B155_0,R155_0,show ¬((i:Int)<(l.length:Int))by omega]
  exact(Cs fun j hj=>hq j hj (by omega)).symm
theorem Rm (s:ByteArray):Fn Tryz.prog 96 [pS s] (.pv (pB (rY s))) []:=by
 refine c96.r [] (by simp) ?_
 simp only[go_sem,M96]
 refine aA (by simp only[go_sem]) (by simp only[go_sem]<;>rfl) (Nj s) ⟨rfl,trivial⟩ trivial ?_
 simp only[go_sem]
 done
theorem Rk {p:Pd} (hs:SmP p):Fn Tryz.prog 98 [p.pv] (.pv (pB (CL p))) []:=by
 refine c98.r [] (by simp) ?_
 have h:=OQ hs
 rw[Pd.pv_eq]at h ⊢
 simp only[go_sem,M98]
 refine aA (by simp only[go_sem]) (by simp only[go_sem]<;>rfl) (h) ⟨rfl,trivial⟩ trivial ?_
 simp only[go_sem]
 done
structure SmD (d:Df):Prop where
 globs:d.globs.length<100000
 wh:d.wh.length<100000
 pd:∀p∈d.wh,SmP p
def sB (d:Df):Bool:=(b8 d.name&&(decide (1≤d.globs.length∧d.globs.length≤5)&&(kS d.j&&(decide ((d.wh.length:Int)=d.j.parts)&&(decide (d.key=⟨#[]⟩)||b8 d.key)))))&&(d.globs.all rY&&d.wh.all CL)
theorem Gj (d:Df) (h:SmD d):Fn Tryz.prog 35 [d.pv] (.pv (pB (sB d))) []:=by
 refine c35.r [] (by simp) ?_
 simp only[go_sem,M35]
 refine aA (by simp only[go_sem]) (by simp only[go_sem]<;>rfl) (x2 d.name) ⟨rfl,trivial⟩ trivial ?_
 simp only[go_sem]
 refine⟨fun hc=>?_,fun hc=>?_⟩
 ·unfold sB
  rcases hc with(hc|hc)|hc
  ·simp[hc]
  ·simp[show ¬1≤d.globs.length by omega]
  ·simp[show ¬d.globs.length≤5 by omega]
 refine aA (by simp only[go_sem]) (by simp only[go_sem]<;>rfl) (Ng d.j) ⟨rfl,trivial⟩ trivial ?_
 simp only[go_sem]
 refine aF (by simp only[go_sem]) (by simp only[go_sem]) (by simp only[go_sem]<;>rfl) (fun _=>x2 d.key) rfl ?_
 simp only[go_sem]
 have e1:sB d=((kS d.j&&(decide ((d.wh.length:Int)=d.j.parts)&&(decide (d.key=⟨#[]⟩)||b8 d.key)))&&(d.globs.all rY&&d.wh.all CL)):=by
  unfold sB
  rw[hc.1.1,decide_eq_true (show 1≤d.globs.length∧d.globs.length≤5 by omega),Bool.true_and,Bool.true_and]
 rw[e1]
 generalize kS d.j=mj
 generalize hK:(mj&&(decide ((d.wh.length:Int)=d.j.parts)&&(decide (d.key=⟨#[]⟩)||b8 d.key)))=K
 have key:(mj=false∨¬(d.wh.length:Int)=d.j.parts∨(¬d.key=⟨#[]⟩∧b8 d.key=false))↔K=false:=by
  rw[←hK]
  cases mj<;>cases b8 d.key<;>by_cases h1:(d.wh.length:Int)=d.j.parts<;>by_cases h2:d.key=⟨#[]⟩<;>simp[h1,h2]
 refine⟨fun h1=>⟨h1,?_⟩,fun h2=>?_,fun h2=>?_⟩
 ·by_cases hk:d.key=⟨#[]⟩<;>simp[h1.1,h1.2,hk]
 ·have:K=false:=key.1 (by
   rcases h2 with(h2|h2)|h2
   ·exact .inl h2
   ·exact .inr (.inl h2)
   ·exact .inr (.inr h2))
  rw[this];rfl
 ·have:K=true:=by
   rw[←hK,h2.1.1,h2.1.2]
   rcases h2.2 with h3|h3<;>simp[h3]
  rw[this]
  refine aA (by simp only[go_sem]) (by simp only[go_sem]<;>rfl) (OR d.globs 96 [] rY h.globs (fun g _=>Rm g)) ⟨rfl,trivial⟩ trivial ?_
  simp only[go_sem]
  refine aF (by simp only[go_sem]) (by simp only[go_sem]) (by simp only[go_sem]<;>rfl) (fun _=>Rl d.wh 98 [] CL h.wh (fun p hp=>Rk (h.pd p hp))) rfl ?_
  simp only[go_sem]
  done
def BP (d:Df) (t:ByteArray):Bool := !(d.globs.all fun g => !nT g t)
theorem Qm (g t:ByteArray) (hg:g.size≤1000) (ht:t.size≤1000):Fn Tryz.prog 159 [pS g,.pt [pS t]] (.pv (pB (!nT g t))) []:=by
 refine c159.r [] (by simp) ?_
 simp only[go_sem,M159]
 refine aA (by simp only[go_sem]) (by simp only[go_sem]<;>rfl) (No g t hg ht) ⟨rfl,trivial⟩ trivial ?_
 simp only[go_sem]
 done
theorem ML (d:Df) (t:ByteArray) (hl:d.globs.length<100000) (hg:∀g∈d.globs,g.size≤1000) (ht:t.size≤1000):Fn Tryz.prog 105 [d.pv,pS t] (.pv (pB (BP d t))) []:=by
 refine c105.r [] (by simp) ?_
 simp only[go_sem,M105]
 refine aA (by simp only[go_sem]) (by simp only[go_sem]<;>rfl) (OR d.globs 159 [.pt [pS t]] (fun g => !nT g t) hl (fun g h=>Qm g t (hg g h) ht)) ⟨rfl,trivial⟩ trivial ?_
 simp only[go_sem]
 rfl
theorem z6 {d:Df} (h:sB d=true):∀g∈d.globs,g.size≤1000:=fun g hg=>by
 unfold sB at h
 simp only[Bool.and_eq_true,List.all_eq_true]at h
 have:=h.2.1 g hg
 simp only[rY,vV,Bool.and_eq_true,decide_eq_true_eq]at this
 omega
theorem QD (d:Df) (t:ByteArray) (h:SmD d) (hm:sB d=true) (ht:t.size≤1000):Fn Tryz.prog 124 [d.pv,pS t] (.pv (pB (BP d t))) []:=by
 refine c124.r [] (by simp) ?_
 have h35:=Gj d h
 rw[hm]at h35
 simp only[go_sem,M124]
 refine aA (by simp only[go_sem]) (by simp only[go_sem]<;>rfl) (h35) ⟨rfl,trivial⟩ trivial ?_
 simp only[go_sem]
 refine aF (by simp only[go_sem]) (by simp only[go_sem]) (by simp only[go_sem]<;>rfl) (fun _=>ML d t h.globs (z6 hm) ht) rfl ?_
 simp only[go_sem]
 done
abbrev Pd.c (p:Pd):List PV:=[pS p.op,pS p.s,pB p.v.num,pI p.v.n,pS p.v.s,.lst (p.l.map Pd.pv)]
theorem Pw (l:List Pd):l.map Pd.pv=l.map fun p=>.agg p.c:=List.map_congr_left fun p _=>Pd.pv_eq p
theorem Ql (l:List Pd) (g:Nat) (caps:List PV) (q:Pd→Bool) (hl:l.length<100000) (hg:∀k∈l,Fn Tryz.prog g (k.pv::caps) (.pv (pB (q k))) []):Fn Tryz.prog 160 [HF l,.fn g caps] (.pv (pI (gZ q l))) []:=by
 have hw:=mB l
 unfold HF
 rw[Pw]at hw ⊢
 exact rZ c160.r l hw (fun _=>rfl) g caps q hl (fun k hk=>by rw[←Pd.pv_eq];exact hg k hk)
theorem QK (d:Df) (e:Ev) (h:SmD d) (hm:sB d=true) (hl:e.l.length<100000) (ht:e.topic.size≤1000):∃i:Int,-1≤i∧i<d.wh.length∧Fn Tryz.prog 109 [d.pv,e.pv] (.pv (pI i)) []:=by
 have hch:∀p:Pd,∃b:Bool,p∈d.wh→Fn Tryz.prog 161 [p.pv,.pt [pS e.topic,pS e.producer,.sc (.int .u64 e.seq),.lst (e.l.map Fd.pv)]] (.pv (pB b)) []:=fun p=>by
  by_cases hp:p∈d.wh
  ·obtain⟨b,hb⟩:=Qk (h.pd p hp) e hl ht
   refine⟨b,fun _=>c161.r [] (by simp) ?_⟩
   rw[Pd.pv_eq]at hb ⊢
   simp only[go_sem,M161]
   refine aA (by simp only[go_sem]) (by simp only[go_sem]<;>rfl) (hb) ⟨rfl,trivial⟩ trivial ?_
   simp only[go_sem]
   done
  ·exact⟨true,fun h=>absurd h hp⟩
 obtain⟨q,hq⟩:=Classical.axiomOfChoice hch
 refine⟨gZ q d.wh,?_,?_,c109.r [] (by simp) ?_⟩
 ·rcases eY q d.wh with⟨h1,_⟩|⟨n,_,h1,_⟩<;>omega
 ·rcases eY q d.wh with⟨h1,_⟩|⟨n,_,h1,_⟩<;>omega
 ·have h35:=Gj d h
  rw[hm]at h35
  simp only[go_sem,M109]
  refine aA (by simp only[go_sem]) (by simp only[go_sem]<;>rfl) (h35) ⟨rfl,trivial⟩ trivial ?_
  simp only[go_sem]
  refine aA (by simp only[go_sem]) (by simp only[go_sem]<;>rfl) (Ql d.wh 161 [.pt [pS e.topic,pS e.producer,.sc (.int .u64 e.seq),.lst (e.l.map Fd.pv)]] q h.wh hq) ⟨rfl,trivial⟩ trivial ?_
  simp only[go_sem]
  done
theorem QJ (d:Df) (e:Ev) (h:SmD d) (hm:sB d=true) (hl:e.l.length<100000):Fn Tryz.prog 110 [d.pv,e.pv] (.pv (.tup [(if d.key=⟨#[]⟩then default else(mN e d.key).1).pv,pB (decide (d.key=⟨#[]⟩)||(mN e d.key).2)])) []:=by
 refine c110.r [] (by simp) ?_
 have h35:=Gj d h
 rw[hm]at h35
 simp only[go_sem,M110]
 refine aA (by simp only[go_sem]) (by simp only[go_sem]<;>rfl) (h35) ⟨rfl,trivial⟩ trivial ?_
 simp only[go_sem]
 refine⟨fun h=>by rw[if_pos h,h];rfl,fun hk=>?_⟩
 rw[if_neg hk]
 have hG:(mN e d.key).2=false→(mN e d.key).1=default:=fun hf=>by
  unfold mN at hf ⊢
  split
  ·rfl
  ·rename_i h2;rw[if_neg h2]at hf;cases hf
 refine aA (by simp only[go_sem]) (by simp only[go_sem]<;>rfl) (Fu e d.key hl) ⟨rfl,trivial⟩ trivial ?_
 simp only[go_sem]
 generalize mN e d.key=G at hG ⊢
 obtain⟨v,b⟩:=G
 simp only at hG
 refine⟨fun hb=>?_,fun hb=>?_⟩
 ·rw[hb,hG hb];simp only[hk];rfl
 ·rw[hb];simp only[hk];rfl
def Ax (x:Of):Bool:=nS x.t&&decide (0≤x.n)
theorem MB (x:Of):Fn Tryz.prog 157 [x.pv] (.pv (pB (Ax x))) []:=by
 refine c157.r [] (by simp) ?_
 simp only[go_sem,M157]
 refine aA (by simp only[go_sem]) (by simp only[go_sem]<;>rfl) (HN x.t) ⟨rfl,trivial⟩ trivial ?_
 simp only[go_sem]
 rfl
theorem Qn (x:Of):Fn Tryz.prog 156 [x.pv] (.pv (pB (Ax x))) []:=by
 refine c156.r [] (by simp) ?_
 simp only[go_sem,M156]
 refine aA (by simp only[go_sem]) (by simp only[go_sem]<;>rfl) (MB x) ⟨rfl,trivial⟩ trivial ?_
 simp only[go_sem]
 done
def CK (l:List Of) (i:Nat):Bool:=decide (i=0)||lS (l.getD (i-1) default).t (l.getD i default).t
def d7 (l:List Of):Bool:=(decide (l.length≤20)&&l.all Ax)&&(List.range l.length).all (CK l)
theorem Id (l:List Of) (hl:l.length<100000):Fn Tryz.prog 103 [offs l] (.pv (pI (eR (d7 l)))) []:=by
 refine c103.r [] (by simp) ?_
 simp only[go_sem,M103]
 refine aF (by simp only[go_sem]) (by simp only[go_sem]) (by simp only[go_sem]<;>rfl) (fun _=>Qo l 156 [] Ax hl (fun x _=>Qn x)) rfl ?_
 simp only[go_sem]
 refine⟨fun h=>?_,fun h=>?_⟩
 ·have:d7 l=false:=by
   unfold d7
   rcases h with h|h
   ·rw[decide_eq_false (show ¬l.length≤20 by omega)];rfl
   ·rw[h,Bool.and_false];rfl
  rw[this];rfl
 have e1:d7 l=(List.range l.length).all (CK l):=by
  unfold d7
  rw[h.2,decide_eq_true (show l.length≤20 by omega)];rfl
 rw[e1]
 refine aZ (T:=Nat) (fun i=>⟨[(0,.pv (offs l)),(3,.pv (pI i))],[]⟩) (fun i=>1≤i∧i≤l.length+1∧∀j,j<i→j<l.length→CK l j=true) (fun i=>l.length+1-i) 1 rfl ⟨by omega,by omega,fun j h _=>by obtain rfl:j=0:=(by omega);rfl⟩ ?_
 intro i ⟨h1,hi,hq⟩
 by_cases hlt:i<l.length
 ·have hlt1:i-1<l.length:=by omega
  have e2:((i:Int)-1).toNat=i-1:=by omega
  simp only[go_sem,B103_0,pC,e2,aK hlt,aK hlt1,show(i:Int)<(l.length:Int)by omega]
  have hok:CK l i=lS (l[i-1]).t (l[i]).t:=by
   unfold CK
   rw[aM hlt,aM hlt1,decide_eq_false (by omega),Bool.false_or]
  refine⟨by omega,by omega,fun hb=>?_,fun hb=>⟨by omega,i+1,rfl,⟨by omega,by omega,fun j hj hjl=>?_⟩,by omega⟩⟩
  ·have:(List.range l.length).all (CK l)=false:=by
    rw[List.all_eq_false]
    exact⟨i,List.mem_range.2 hlt,by rw[hok,lS,hb];simp⟩
   rw[this];rfl
  ·by_cases hji:j=i
   ·subst hji;rw[hok];exact hb
   ·exact hq j (by omega) hjl
 ·simp only[go_sem,B103_0,R103_0,show ¬(i:Int)<(l.length:Int)by omega]
  rw[List.all_eq_true.2 fun j hj=>hq j (by have:=List.mem_range.1 hj;omega) (List.mem_range.1 hj)]
  rfl
theorem Qa (x:Of) (n:ByteArray):Fn Tryz.prog 196 [x.pv,.pt [pS n]] (.pv (pB (decide (x.t=n)))) []:=by
 refine c196.r [] (by simp) ?_
 simp only[go_sem,M196]
def pJ (l:List Of) (t:ByteArray):Int:=gZ (fun x:Of=>decide (x.t=t)) l
theorem MA (l:List Of) (t:ByteArray) (hl:l.length<100000):Fn Tryz.prog 158 [offs l,pS t] (.pv (pI (pJ l t))) []:=by
 refine c158.r [] (by simp) ?_
 simp only[go_sem,M158]
 refine aA (by simp only[go_sem]) (by simp only[go_sem]<;>rfl) (rZ c195.r l (pC l) (fun _=>rfl) 196 [.pt [pS t]] (fun x:Of=>decide (x.t=t)) hl (fun x _=>Qa x t)) ⟨rfl,trivial⟩ trivial ?_
 simp only[go_sem]
 rfl
theorem nG (l:List Of) (t:ByteArray):(pJ l t = -1∧∀x∈l,x.t≠t)∨∃n,∃h:n<l.length,pJ l t=n∧(l[n]).t=t:=by
 rcases eY (fun x:Of=>decide (x.t=t)) l with⟨h1,h2⟩|⟨n,h,h1,h2,_⟩
 ·exact .inl ⟨h1,fun x hx=>by simpa using h2 x hx⟩
 ·exact .inr ⟨n,h,h1,by simpa using h2⟩
def rV (l:List Of) (t:ByteArray):Int:=if pJ l t<0 then 0 else(l.getD (pJ l t).toNat default).n
theorem MM (l:List Of) (t:ByteArray) (hl:l.length<100000):Fn Tryz.prog 104 [offs l,pS t] (.pv (pI (rV l t))) []:=by
 refine c104.r [] (by simp) ?_
 simp only[go_sem,M104]
 refine aA (by simp only[go_sem]) (by simp only[go_sem]<;>rfl) (MA l t hl) ⟨rfl,trivial⟩ trivial ?_
 simp only[go_sem]
 unfold rV
 rcases nG l t with⟨h1,_⟩|⟨k,hk,h1,_⟩
 ·rw[h1]
  refine⟨fun _=>rfl,fun h=>absurd h (by omega)⟩
 ·rw[h1]
  refine⟨fun h=>absurd h (by omega),fun _=>?_⟩
  have e1:((k:Int)).toNat=k:=by omega
  have e2:¬((k:Int)<0):=by omega
  simp only[go_sem,e1,e2,pC,aK hk,aM hk]
  omega
def iT (l:List Of) (t:ByteArray) (n:Int):List Of×Int:=
 if d7 l=false∨Ax ⟨t,n⟩=false then([],1)
 else if 0≤pJ l t then(l.set (pJ l t).toNat ⟨t,n⟩,0)
 else if 20≤l.length then([],6)
 else(eZ l (l.takeWhile (fun y=>lS y.t t)).length ⟨t,n⟩,0)
theorem Px {ps:List PV} {st:List (Nat×Row)} {r off n:Nat} {xs:List PV} (hst:(r,.slf 2 xs)∈st) (hw:cY 2 ps):J2 Tryz.prog 209 [.pv (.lst ps),.row r off n] st (aY false):=
 iR 43 245 4 Tryz.func209 (by decide) rfl (by kernel_rfl) (by kernel_rfl) (by kernel_rfl) (by kernel_rfl) hst hw (by decide)
theorem Mx (l:List Of) (hl:l.length<100000):Fn Tryz.prog 169 [offs l] (.row 0 0 l.length) [(2,l.map Of.pv)]:=v1 c169.r l (pC l) hl (by decide) (by decide)
theorem QH (l:List Of) (t:ByteArray) (n:Int) (hl:l.length<100000):Fn Tryz.prog 113 [offs l,pS t,pI n] (.pv (.tup [offs (iT l t n).1,pI (iT l t n).2])) []:=by
 refine c113.r [false,false] (by simp) ?_
 simp only[go_sem,M113]
 refine aA (by simp only[go_sem]) (by simp only[go_sem]<;>rfl) (Id l hl) ⟨rfl,trivial⟩ trivial ?_
 simp only[go_sem,nA,y8]
 refine aF (by simp only[go_sem]) (by simp only[go_sem]) (by simp only[go_sem]<;>rfl) (fun _=>MB ⟨t,n⟩) rfl ?_
 simp only[go_sem]
 unfold iT
 refine⟨fun h=>?_,fun h=>?_⟩
 ·rw[if_pos (by rcases h with h|h;exact .inl (by simpa using h);exact .inr h)];rfl
 rw[if_neg (by rintro(h2|h2);rw[h2]at h;simp at h;rw[h2]at h;simp at h)]
 refine aA (by simp only[go_sem]) (by simp only[go_sem]<;>rfl) (MA l t hl) ⟨rfl,trivial⟩ trivial ?_
 simp only[go_sem]
 rcases nG l t with⟨h1,_⟩|⟨k,hk,h1,h2⟩
 ·rw[h1]
  refine⟨fun h=>absurd h (by omega),fun _=>⟨fun h=>by rw[if_neg (by omega),if_pos (by omega)];rfl,fun h5=>?_⟩⟩
  rw[if_neg (by omega),if_neg (by omega)]
  refine aZ (T:=Nat) (fun i=>⟨[(0,.pv (offs l)),(1,.pv (pS t)),(8,.ptr 8 0),(9,.pv (pI i))],[(8,.box [.pv (pS t),.pv (pI n)])]⟩) (fun i=>i≤l.length∧∀j (h:j<l.length),j<i→lS (l[j]).t t=true) (fun i=>l.length-i) 0 rfl ⟨Nat.zero_le _,fun j _ h=>absurd h (by omega)⟩ ?_
  intro i ⟨hi,hq⟩
  have fin:∀v:AV,(∀h:i<l.length,lS (l[i]).t t=false)→run Tryz.prog (uL [RV.tmp 6,RV.tmp 7] [false,false] (.pv (.tup [offs (eZ l (List.takeWhile (fun y=>lS y.t t) l).length ⟨t,n⟩),pI 0])) []) R113_0 []
    ⟨[(0,.pv (offs l)),(1,.pv (pS t)),(8,.ptr 8 0),(9,.pv (pI i)),(49,v)],[(8,.box [.pv (pS t),.pv (pI n)])]⟩:=fun v hx=>by
   rw[BT hi hq hx]
   simp only[go_sem,R113_0]
   refine cC (by simp only[go_sem]) rfl (Mx l hl) (.inl rfl) trivial ?_
   simp only[go_sem]
   have hS:=yJ (by decide) (by decide) (pC [default]) c170.s Px (l.map Of.pv) (pC l) (Of.pv ⟨t,n⟩) (pC [⟨t,n⟩]) i (by simpa using hi) (by simpa using hl)
   rw[List.length_map]at hS
   refine aP (fun _=>1053) (by simp only[go_sem]) (by simp only[go_sem]<;>rfl) hS rfl (by intro e he;simp only[List.mem_cons,List.not_mem_nil,or_false]at he;subst he;simp only[go_sem]) (by simp) (by simp) (by simp) (by intro e he _;decide) ?_
   simp only[go_sem]
   rw[mZ (f:=Of.pv)]
  by_cases hlt:i<l.length
  ·simp only[go_sem,B113_0,pC,aK hlt,show(i:Int)<(l.length:Int)by omega]
   refine⟨fun h=>⟨⟨by omega,by omega⟩,i+1,rfl,⟨hlt,fun j hj hji=>?_⟩,by omega⟩,fun h=>fin _ (fun _=>h)⟩
   by_cases hj2:j=i
   ·subst hj2;exact h
   ·exact hq j hj (by omega)
  ·simp only[go_sem,B113_0,pC,show ¬(i:Int)<(l.length:Int)by omega]
   exact fin _ (fun h=>absurd h hlt)
 ·rw[h1]
  refine⟨fun _=>?_,fun h=>absurd h (by omega)⟩
  rw[if_pos (by omega)]
  refine aC (by simp only[go_sem]) rfl (Mx l hl) (.inl rfl) trivial ?_
  simp only[go_sem]
  refine⟨by omega,hk,?_⟩
  rw[List.take_of_length_le (by simp),aK hk]
  unfold offs
  rw[List.map_set]
  rfl
end Go.Vc

namespace Go.Vc
open Go.Proofs
set_option maxRecDepth 100000
def B20_0:MC:=(.seq (.reg [oI 11 .lss 10 9] [] [0,8,9,10,11] []) (.seq (.cond (.t 11) .skip (.exit 0)) (.seq (.block 1 (.seq (.reg [mi 12 10,qi 13 (.ia (.t 8) (.t 10) 3),lI 14 13 3,aI 4 [.pv (.sc (.string ⟨#[]⟩)),.pv (.sc (.int .i64 0)),.e0],mi 3 12,⟨none,none,.st (.t 4) (.t 14) 3⟩] [] [0,3,4,8,9,10] [4]) (.seq (.reg [lI 15 4 3,cI 16 70 [.t 15],qi 17 (.not (.t 16)),mi 18 17,gF 19 18 (.mv (.t 3)),gF 20 18 (.bin .gtr (.t 19) (ic 0)),gF 21 18 (.mv (.t 20)),gT 22 21 (.mv (.t 0)),gT 23 21 (.mv (.t 3)),gT 24 21 (.bin .sub (.t 23) (ic 1)),gT 25 21 (.ia (.t 22) (.t 24) 3),gT 26 21 (.fa (.t 25) 0),gT 27 21 (.ld (.t 26) 1 false),gT 28 21 (.fa (.t 4) 0),gT 29 21 (.ld (.t 28) 1 false),gT 30 21 (.bin .geq (.t 27) (.t 29)),gF 31 18 (.pick (.t 21) (.t 30) (.c (.bool false))),qi 32 (.pick (.t 18) (.c (.bool true)) (.t 31))] [] [0,8,9,10,32] [1016]) (.cond (.t 32) (.seq (.reg [kI 2 1] [] [2] []) .ret) .skip)))) (.reg [oJ 33 .add 10 1,mi 10 33] [] [0,8,9,10] []))))
def R20_0:MC:=(.seq (.reg [kI 2 0] [] [2] []) .ret)
def M20:MC:=(.seq (.reg [kI 2 0] [] [0] []) (.seq (.seq (.reg [mi 5 0,nI 6 5 false,oJ 7 .gtr 6 20] [] [0,7] []) (.cond (.t 7) (.seq (.reg [kI 2 1] [] [2] []) .ret) .skip)) (.seq (.seq (.reg [mi 8 0,nI 9 8 false,kI 10 0] [] [0,8,9,10] []) (.block 0 (.loop B20_0))) R20_0)))
theorem c20:Cd 20 34 [RV.tmp 2] M20:=cO [] (rn [] [(6,[(0,262143),(1,0),(2,262140),(3,262136),(4,262128),(5,262112),(6,262080),(7,236672),(8,237312),(9,237056),(10,236544),(11,235520),(12,233472),(13,253952),(14,245760),(15,229376),(16,196608),(17,131072)],262143)] 10 M20) Tryz.func20 (by kernel_rfl) Tryz.ntmps20
def B70_0:MC:=(.seq (.reg [oI 33 .lss 32 31] [] [1,30,31,32,33] [1]) (.seq (.cond (.t 33) .skip (.exit 0)) (.seq (.block 1 (.seq (.reg [qi 34 (.ia (.t 30) (.t 32) 1),lJ 35 34 1,mi 4 35] [] [1,4,30,31,32] [1]) (.seq (.reg [mi 36 4,fI 37 1 0,lJ 38 37 1,cI 39 127 [.t 36,.t 38],qi 40 (.not (.t 39))] [] [1,30,31,32,40] [1,1039]) (.cond (.t 40) (.seq (.reg [bI 2 false] [] [2] []) .ret) .skip)))) (.reg [oJ 41 .add 32 1,mi 32 41] [] [1,30,31,32] [1]))))
def R70_0:MC:=(.seq (.reg [bI 2 true] [] [2] []) .ret)
def M70:MC:=(.seq (.reg [vI 1 0,bI 2 false] [] [1] [1]) (.seq (.seq (.reg [fI 5 1 0,lJ 6 5 1,cI 7 78 [.t 6],qi 8 (.not (.t 7)),mi 9 8,gF 10 9 (.fa (.t 1) 1),gF 11 9 (.ld (.t 10) 1 false),gF 12 9 (.bin .lss (.t 11) (ic 0)),qi 13 (.pick (.t 9) (.c (.bool true)) (.t 12)),mi 14 13,gF 15 14 (.fa (.t 1) 2),gF 16 14 (.ld (.t 15) 1 false),gF 17 14 (.len (.t 16) false),gF 18 14 (.bin .gtr (.t 17) (ic 100)),qi 19 (.pick (.t 14) (.c (.bool true)) (.t 18)),mi 20 19,gF 21 20 (.fa (.t 1) 1),gF 22 20 (.ld (.t 21) 1 false),gF 23 20 (.fa (.t 1) 2),gF 24 20 (.ld (.t 23) 1 false),gF 25 20 (.len (.t 24) false),gF 26 20 (.bin .sub (ic 1099511627775) (.t 25)),gF 27 20 (.bin .gtr (.t 22) (.t 26)),qi 28 (.pick (.t 20) (.c (.bool true)) (.t 27))] [] [1,28] [1,1007]) (.cond (.t 28) (.seq (.reg [bI 2 false] [] [2] []) .ret) .skip)) (.seq (.seq (.reg [fI 29 1 2,lJ 30 29 1,nI 31 30 false,kI 32 0] [] [1,30,31,32] [1]) (.block 0 (.loop B70_0))) R70_0)))
theorem c70:Cd 70 42 [RV.tmp 2] M70:=cO [] (rn [] [] 10 M70) Tryz.func70 (by kernel_rfl) Tryz.ntmps70
def M127:MC:=(.seq (.reg [bI 4 false] [] [0,1] []) (.seq (.reg [mi 9 0,cI 10 31 [.t 9],mi 8 10,xI 11 8 0,xI 12 8 1,xI 13 8 2,aI 5 [.pv (.sc (.string ⟨#[]⟩)),.pv (.sc (.string ⟨#[]⟩)),.pv (.sc (.int .u64 0)),.e0],⟨none,none,.st (.t 5) (.t 11) 4⟩,mi 6 12,mi 7 13] [] [0,1,5,6,7] [5,1010]) (.seq (.reg [mi 14 7,oJ 15 .eql 14 0,mi 16 15,gT 17 16 (.mv (.t 6)),gT 18 16 (.mv (.t 0)),gT 19 16 (.len (.t 18) true),gT 20 16 (.bin .eql (.t 17) (.t 19)),qi 21 (.pick (.t 16) (.t 20) (.c (.bool false))),mi 22 21,gT 23 22 (.fa (.t 5) 0),gT 24 22 (.ld (.t 23) 1 false),gT 25 22 (.mv (.t 1)),gT 26 22 (.bin .eql (.t 24) (.t 25)),qi 27 (.pick (.t 22) (.t 26) (.c (.bool false))),mi 4 27] [] [4] [1010]) .ret)))
theorem c127:Cd 127 28 [RV.tmp 4] M127:=cO [] (rn [] [] 3 M127) Tryz.func127 (by kernel_rfl) Tryz.ntmps127
def M48:MC:=(.seq (.reg [vI 3 1,kI 4 0,bI 5 false] [] [0,3] [3]) (.seq (.reg [mi 7 0,qi 8 (.clo 107 [.t 3]),cI 9 106 [.t 7,.t 8],mi 6 9] [] [6] [1009]) (.seq (.seq (.reg [mi 10 6,oJ 11 .lss 10 0] [] [6,11] [1009]) (.cond (.t 11) (.seq (.reg [kI 4 0,bI 5 false] [] [4,5] [1009]) .ret) .skip)) (.seq (.reg [mi 12 6,mi 4 12,bI 5 true] [] [4,5] [1009]) .ret))))
theorem c48:Cd 48 13 [RV.tmp 4,RV.tmp 5] M48:=cO [] (rn [] [] 5 M48) Tryz.func48 (by kernel_rfl) Tryz.ntmps48
def M107:MC:=(.seq (.reg [vI 2 0,bI 3 false] [] [1,2] [2]) (.seq (.reg [fI 4 2 0,lJ 5 4 1,lJ 6 1 1,oI 7 .eql 5 6,mi 3 7] [] [3] []) .ret))
theorem c107:Cd 107 8 [RV.tmp 3] M107:=cO [] (rn [] [] 2 M107) Tryz.func107 (by kernel_rfl) Tryz.ntmps107
def M108:MC:=(.seq (.reg [kI 4 0,kI 5 0] [] [0,1] []) (.seq (.seq (.reg [mi 8 0,cI 9 20 [.t 8],oJ 10 .neq 9 0] [] [0,1,10] [1009]) (.cond (.t 10) (.seq (.reg [kI 4 0,kI 5 1] [] [4,5] [1014]) .ret) .skip)) (.seq (.reg [mi 12 0,mi 13 1,cI 14 48 [.t 12,.t 13],mi 11 14,xI 15 11 0,xI 16 11 1,mi 6 15,mi 7 16] [] [6,7] [1014]) (.seq (.seq (.reg [mi 17 7,qi 18 (.not (.t 17))] [] [6,18] [1014]) (.cond (.t 18) (.seq (.reg [kI 4 0,kI 5 4] [] [4,5] [1014]) .ret) .skip)) (.seq (.reg [mi 19 6,mi 4 19,kI 5 0] [] [4,5] [1014]) .ret)))))
theorem c108:Cd 108 20 [RV.tmp 4,RV.tmp 5] M108:=cO [] (rn [] [] 7 M108) Tryz.func108 (by kernel_rfl) Tryz.ntmps108
def B33_0:MC:=(.seq (.seq (.reg [mi 43 9,mi 44 0,nI 45 44 false,oI 46 .lss 43 45,mi 47 46,gT 48 47 (.mv (.t 0)),gT 49 47 (.mv (.t 9)),gT 50 47 (.ia (.t 48) (.t 49) 3),gT 51 47 (.fa (.t 50) 0),gT 52 47 (.ld (.t 51) 1 false),gT 53 47 (.fa (.t 3) 0),gT 54 47 (.ld (.t 53) 1 false),gT 55 47 (.bin .lss (.t 52) (.t 54)),qi 56 (.pick (.t 47) (.t 55) (.c (.bool false)))] [] [0,3,7,9,56] [3,103,1025,1035,1069]) (.cond (.t 56) .skip (.exit 0))) (.block 1 (.reg [mi 57 9,oJ 58 .add 57 1,mi 9 58] [] [0,3,7,9] [3,103,1025,1035,1069])))
def R33_0:MC:=(.seq (.reg [fI 59 3 0,lJ 60 59 1,mi 61 7,⟨some 62,none,.lits [.t 61] 1⟩,qi 63 (.mk [.pv (.sc (.string ⟨#[]⟩)),.pv (.sc (.int .i64 0)),.e0] [(0,1,(.t 60)),(2,1,(.t 62))]),aI 11 [.pv (.sc (.string ⟨#[]⟩)),.pv (.sc (.int .i64 0)),.e0],⟨none,none,.st (.t 11) (.t 63) 3⟩] [] [0,9,11] [11,103,1035,1069]) (.seq (.seq (.grp [1065] [⟨64,none,.q (.mv (.t 0)),[0],[]⟩,⟨65,none,.call (.f 89) [.t 64],[64],[]⟩,⟨66,none,.q (.mv (.t 9)),[9],[103,1035,1069]⟩,⟨67,none,.q (.ld (.t 11) 3 true),[11],[11]⟩,⟨68,none,.lits [.t 67] 3,[67],[]⟩] [4,5,6,65,66,68,69] [103,1025,1035,1065,1069,1074,1087]) (.reg [dI 69 88 [.t 65,.t 66,.t 68],mi 4 69,kI 5 0,kI 6 0] [] [4,5,6] [103,1025,1035,1065,1069,1074,1087])) .ret))
def M33:MC:=(.seq (.reg [vI 3 1,qi 4 (.mv .nil),kI 5 0,kI 6 0] [] [0,3] [3]) (.seq (.seq (.reg [mi 15 0,cI 16 20 [.t 15],oJ 17 .neq 16 0,mi 18 17,gF 19 18 (.ld (.t 3) 4 true),⟨some 20,some (18,false),.call (.f 85) [.t 19]⟩,gF 21 18 (.not (.t 20)),qi 22 (.pick (.t 18) (.c (.bool true)) (.t 21))] [] [0,3,22] [3,1016,1020]) (.cond (.t 22) (.seq (.reg [qi 4 (.mv .nil),kI 5 0,kI 6 1] [] [4,5,6] [103,1025,1035,1065,1069,1074,1087]) .ret) .skip)) (.seq (.reg [lI 24 3 4,cI 25 87 [.t 24],mi 23 25,xI 26 23 0,xI 27 23 1,mi 7 26,mi 8 27] [] [0,3,7,8] [3,1025]) (.seq (.seq (.reg [mi 28 8,oJ 29 .neq 28 0] [] [0,3,7,8,29] [3,1025]) (.cond (.t 29) (.seq (.reg [mi 30 8,qi 4 (.mv .nil),kI 5 0,mi 6 30] [] [4,5,6] [103,1025,1035,1065,1069,1074,1087]) .ret) .skip)) (.seq (.reg [mi 32 0,fI 33 3 0,lJ 34 33 1,cI 35 48 [.t 32,.t 34],mi 31 35,xI 36 31 0,xI 37 31 1,mi 9 36,mi 10 37] [] [0,3,7,9,10] [3,103,1025,1035,1069]) (.seq (.seq (.reg [mi 38 10,qi 39 (.not (.t 38))] [] [0,3,7,9,39] [3,103,1025,1035,1069]) (.cond (.t 39) (.seq (.seq (.reg [mi 40 0,nI 41 40 false,oJ 42 .geq 41 20] [] [0,3,7,42] [3,1025]) (.cond (.t 42) (.seq (.reg [qi 4 (.mv .nil),kI 5 0,kI 6 6] [] [4,5,6] [103,1025,1035,1065,1069,1074,1087]) .ret) .skip)) (.seq (.reg [kI 9 0] [] [0,3,7,9] [3,103,1025,1035,1069]) (.seq (.block 0 (.loop B33_0)) R33_0))) .skip)) (.seq (.reg [mi 70 0,mi 71 9,qi 72 (.ia (.t 70) (.t 71) 3),lI 73 72 3,cI 74 90 [.t 73],mi 12 74] [] [0,7,9,12] [103,1025,1035,1069,1074]) (.seq (.seq (.reg [mi 75 0,mi 76 9,qi 77 (.ia (.t 75) (.t 76) 3),fI 78 77 2,lJ 79 78 1,nI 80 79 false,oJ 81 .geq 80 100,mi 82 81,gF 83 82 (.mv (.t 12)),gF 84 82 (.bin .geq (.t 83) (ic 1099511627775)),qi 85 (.pick (.t 82) (.c (.bool true)) (.t 84))] [] [0,7,9,12,85] [103,1025,1035,1069,1074]) (.cond (.t 85) (.seq (.reg [qi 4 (.mv .nil),kI 5 0,kI 6 6] [] [4,5,6] [103,1025,1035,1065,1069,1074,1087]) .ret) .skip)) (.seq (.reg [mi 86 0,cI 87 89 [.t 86],mi 13 87] [] [7,9,12,13] [103,1025,1035,1069,1074,1087]) (.seq (.reg [mi 88 13,mi 89 9,qi 90 (.ia (.t 88) (.t 89) 3),fI 91 90 2,lJ 92 91 1,mi 14 92] [] [7,9,12,13,14] [103,1025,1035,1069,1074,1087]) (.seq (.reg [mi 93 13,mi 94 9,mi 95 14,mi 96 14,nI 97 96 false,mi 98 14,nI 99 98 false,qi 100 (.ful (.t 95) (.t 97) (.t 99)),mi 101 7,⟨some 102,none,.lits [.t 101] 1⟩,⟨some 103,none,.appn (.t 100) (.t 102) 1 16⟩,qi 104 (.ia (.t 93) (.t 94) 3),fI 105 104 2,⟨none,none,.st (.t 105) (.t 103) 1⟩] [] [12,13] [103,1069,1074,1087]) (.seq (.reg [mi 106 13,mi 107 12,mi 4 106,mi 5 107,kI 6 0] [] [4,5,6] [103,1025,1035,1065,1069,1074,1087]) .ret))))))))))))
theorem c33:Cd 33 108 [RV.tmp 4,RV.tmp 5,RV.tmp 6] M33:=cO [69,1000103] (rz [(14,⟨[4,5,6],[103,1025,1035,1065,1069,1074,1087],[(5,0),(6,448),(7,384),(8,256)],479,[],some ⟨[1065],[(0,[0],[]),(1,[64],[]),(2,[9],[103,1035,1069]),(3,[11],[11]),(4,[67],[])],[4,5,6,65,66,68,69],[103,1025,1035,1065,1069,1074,1087]⟩⟩)] [(11,[(0,16377),(1,16382),(2,16380),(3,16376),(4,16368),(5,13216),(6,13248),(7,13184),(8,13056),(9,12800),(10,15360),(11,14336),(12,12288),(13,8192)],16383)] [0,1,2,3,4,5,6,7,8,9,10,11,12,13,0,15,16,17,18,19,20,21] M33) Tryz.func33 (by kernel_rfl) Tryz.ntmps33
def M49:MC:=(.seq (.reg [aI 6 [.pv (.sc (.string ⟨#[]⟩)),.pv (.sc (.string ⟨#[]⟩)),.pv (.sc (.int .u64 0)),.e0],kI 7 0] [] [0,1,2,6] [6,1046]) (.seq (.reg [mi 14 0,mi 15 1,cI 16 108 [.t 14,.t 15],mi 13 16,xI 17 13 0,xI 18 13 1,mi 8 17,mi 9 18] [] [0,2,6,8,9] [6,1016,1046]) (.seq (.seq (.reg [mi 19 9,oJ 20 .neq 19 0] [] [0,2,6,8,9,20] [6,1016,1046]) (.cond (.t 20) (.seq (.reg [qi 21 (.mk [.pv (.sc (.string ⟨#[]⟩)),.pv (.sc (.string ⟨#[]⟩)),.pv (.sc (.int .u64 0)),.e0] []),mi 22 9,⟨none,none,.st (.t 6) (.t 21) 4⟩,mi 7 22] [] [6,7] [6,1016,1046]) .ret) .skip)) (.seq (.reg [mi 23 0,mi 24 8,qi 25 (.ia (.t 23) (.t 24) 3),lI 26 25 3,aI 10 [.pv (.sc (.string ⟨#[]⟩)),.pv (.sc (.int .i64 0)),.e0],⟨none,none,.st (.t 10) (.t 26) 3⟩] [] [2,6,10] [6,10,1046]) (.seq (.seq (.reg [mi 27 2,fI 28 10 1,lJ 29 28 1,oI 30 .lss 27 29] [] [2,6,10,30] [6,10,1046]) (.cond (.t 30) (.seq (.reg [qi 31 (.mk [.pv (.sc (.string ⟨#[]⟩)),.pv (.sc (.string ⟨#[]⟩)),.pv (.sc (.int .u64 0)),.e0] []),⟨none,none,.st (.t 6) (.t 31) 4⟩,kI 7 8] [] [6,7] [6,1016,1046]) .ret) .skip)) (.seq (.seq (.reg [mi 32 2,lI 33 10 3,cI 34 90 [.t 33],oI 35 .geq 32 34] [] [2,6,10,35] [6,10,1034,1046]) (.cond (.t 35) (.seq (.reg [qi 36 (.mk [.pv (.sc (.string ⟨#[]⟩)),.pv (.sc (.string ⟨#[]⟩)),.pv (.sc (.int .u64 0)),.e0] []),⟨none,none,.st (.t 6) (.t 36) 4⟩,kI 7 9] [] [6,7] [6,1016,1046]) .ret) .skip)) (.seq (.reg [fI 38 10 2,lJ 39 38 1,mi 40 2,fI 41 10 1,lJ 42 41 1,oI 43 .sub 40 42,qi 44 (.ia (.t 39) (.t 43) 1),lJ 45 44 1,cI 46 31 [.t 45],mi 37 46,xI 47 37 0,xI 48 37 1,xI 49 37 2,aI 11 [.pv (.sc (.string ⟨#[]⟩)),.pv (.sc (.string ⟨#[]⟩)),.pv (.sc (.int .u64 0)),.e0],⟨none,none,.st (.t 11) (.t 47) 4⟩,mi 12 48,mi 9 49] [] [6,9,11] [6,11,1016,1046]) (.seq (.seq (.reg [mi 50 9,oJ 51 .neq 50 0] [] [6,9,11,51] [6,11,1016,1046]) (.cond (.t 51) (.seq (.reg [qi 52 (.mk [.pv (.sc (.string ⟨#[]⟩)),.pv (.sc (.string ⟨#[]⟩)),.pv (.sc (.int .u64 0)),.e0] []),mi 53 9,⟨none,none,.st (.t 6) (.t 52) 4⟩,mi 7 53] [] [6,7] [6,1016,1046]) .ret) .skip)) (.seq (.reg [lI 54 11 4,⟨none,none,.st (.t 6) (.t 54) 4⟩,kI 7 0] [] [6,7] [6,1016,1046]) .ret)))))))))
theorem c49:Cd 49 55 [RV.cell 6 4 true,RV.tmp 7] M49:=cO [] (rn [] [] 13 M49) Tryz.func49 (by kernel_rfl) Tryz.ntmps49
def M67:MC:=(.seq (.reg [qi 6 (.mv .nil),kI 7 0] [] [0,1,2] []) (.seq (.reg [mi 13 0,mi 14 1,cI 15 108 [.t 13,.t 14],mi 12 15,xI 16 12 0,xI 17 12 1,mi 8 16,mi 9 17] [] [0,2,8,9] [1015]) (.seq (.seq (.reg [mi 18 9,oJ 19 .neq 18 0] [] [0,2,8,9,19] [1015]) (.cond (.t 19) (.seq (.reg [mi 20 9,qi 6 (.mv .nil),mi 7 20] [] [6,7] [1015,1033]) .ret) .skip)) (.seq (.seq (.reg [mi 21 2,oJ 22 .lss 21 0,mi 23 22,gF 24 23 (.mv (.t 2)),gF 25 23 (.mv (.t 0)),gF 26 23 (.mv (.t 8)),gF 27 23 (.ia (.t 25) (.t 26) 3),gF 28 23 (.ld (.t 27) 3 true),⟨some 29,some (23,false),.call (.f 90) [.t 28]⟩,gF 30 23 (.bin .gtr (.t 24) (.t 29)),qi 31 (.pick (.t 23) (.c (.bool true)) (.t 30))] [] [0,2,8,31] [1015,1029]) (.cond (.t 31) (.seq (.reg [qi 6 (.mv .nil),kI 7 1] [] [6,7] [1015,1033]) .ret) .skip)) (.seq (.reg [mi 32 0,cI 33 89 [.t 32],mi 10 33] [] [2,8,10] [1015,1033]) (.seq (.reg [mi 34 10,mi 35 8,qi 36 (.ia (.t 34) (.t 35) 3),mi 11 36] [] [2,10,11] [1015,1033]) (.seq (.seq (.reg [mi 37 11,hI 38 37,fI 39 38 1,lJ 40 39 1,mi 41 2,oI 42 .lss 40 41] [] [2,10,11,42] [1015,1033]) (.cond (.t 42) (.seq (.reg [mi 43 11,mi 44 11,hI 45 44,fI 46 45 2,lJ 47 46 1,mi 48 2,mi 49 11,hI 50 49,fI 51 50 1,lJ 52 51 1,oI 53 .sub 48 52,qi 54 (.slc (.t 47) (some (.t 53)) none 1 false),hI 55 43,fI 56 55 2,⟨none,none,.st (.t 56) (.t 54) 1⟩] [] [2,10,11] [1015,1033]) (.reg [mi 57 11,mi 58 2,hI 59 57,fI 60 59 1,⟨none,none,.st (.t 60) (.t 58) 1⟩] [] [10] [1033])) .skip)) (.seq (.reg [mi 61 10,mi 6 61,kI 7 0] [] [6,7] [1015,1033]) .ret))))))))
theorem c67:Cd 67 62 [RV.tmp 6,RV.tmp 7] M67:=cO [] (rn [] [(9,[(0,28673),(1,30750),(2,30748),(3,30744),(4,30736),(5,31776),(6,32704),(7,32640),(8,32512),(9,32256),(10,31744),(11,30720),(12,28672),(13,24576),(14,0)],16383)] 12 M67) Tryz.func67 (by kernel_rfl) Tryz.ntmps67
def B89_0:MC:=(.seq (.reg [oI 11 .lss 10 9] [] [3,8,9,10,11] [1007,1019]) (.seq (.cond (.t 11) .skip (.exit 0)) (.seq (.block 1 (.seq (.reg [mi 12 10,qi 13 (.ia (.t 8) (.t 10) 3),lI 14 13 3,aI 5 [.pv (.sc (.string ⟨#[]⟩)),.pv (.sc (.int .i64 0)),.e0],mi 4 12,⟨none,none,.st (.t 5) (.t 14) 3⟩] [] [3,4,5,8,9,10] [5,1007,1019]) (.reg [mi 15 3,mi 16 4,fI 17 5 2,lJ 18 17 1,cI 19 148 [.t 18],qi 20 (.ia (.t 15) (.t 16) 3),fI 21 20 2,⟨none,none,.st (.t 21) (.t 19) 1⟩] [] [3,8,9,10] [1007,1019]))) (.reg [oJ 22 .add 10 1,mi 10 22] [] [3,8,9,10] [1007,1019]))))
def R89_0:MC:=(.seq (.reg [mi 23 3,mi 2 23] [] [2] [1007,1019]) .ret)
def M89:MC:=(.seq (.reg [qi 2 (.mv .nil)] [] [0] []) (.seq (.reg [mi 6 0,cI 7 66 [.t 6],mi 3 7] [] [3] [1007,1019]) (.seq (.seq (.reg [mi 8 3,nI 9 8 false,kI 10 0] [] [3,8,9,10] [1007,1019]) (.block 0 (.loop B89_0))) R89_0)))
theorem c89:Cd 89 24 [RV.tmp 2] M89:=cO [] (rn [] [] 8 M89) Tryz.func89 (by kernel_rfl) Tryz.ntmps89
def M90:MC:=(.seq (.reg [vI 1 0,kI 2 0] [] [1] [1]) (.seq (.reg [fI 3 1 1,lJ 4 3 1,fI 5 1 2,lJ 6 5 1,nI 7 6 false,oI 8 .add 4 7,mi 2 8] [] [2] []) .ret))
theorem c90:Cd 90 9 [RV.tmp 2] M90:=cO [] (rn [] [] 2 M90) Tryz.func90 (by kernel_rfl) Tryz.ntmps90
def M123:MC:=(.seq (.reg [vI 1 0,kI 2 0] [] [1] [1]) (.seq (.reg [fI 3 1 1,lJ 4 3 1,fI 5 1 2,lJ 6 5 1,nI 7 6 false,oI 8 .add 4 7,mi 2 8] [] [2] []) .ret))
theorem c123:Cd 123 9 [RV.tmp 2] M123:=cO [] (rn [] [] 2 M123) Tryz.func123 (by kernel_rfl) Tryz.ntmps123
end Go.Vc

namespace Go.Vc
open Go.Proofs
set_option linter.unusedSimpArgs false
set_option linter.unusedVariables false
set_option maxRecDepth 10000
structure Tp where
 name:ByteArray
 first:Int
 log:List ByteArray
 deriving DecidableEq
instance:Inhabited Tp:=⟨⟨⟨#[]⟩,0,[]⟩⟩
abbrev Tp.pv (t:Tp):PV:=.agg [pS t.name,pI t.first,ss t.log]
abbrev uJ (l:List Tp):PV:=.lst (l.map Tp.pv)
theorem dF (l:List Tp):cY 3 (l.map Tp.pv):=kZ (f:=Tp.pv) (s:=3) (fun a=>⟨rfl,fun c hc=>by
 simp only[PV.cells,List.mem_cons,List.not_mem_nil,or_false]at hc
 rcases hc with rfl|rfl|rfl<;>rfl⟩) l
structure OfOk (o name:ByteArray):Prop where
 err:(bS (cF o)).2.2=0
 all:(bS (cF o)).2.1=o.size
 topic:(bS (cF o)).1.topic=name
theorem OfOk.size {o n:ByteArray} (h:OfOk o n):o.size≤800:=by
 have:=(nW h.err).2.2
 rw[h.all]at this;exact this
structure TpOk (t:Tp):Prop where
 name:nS t.name=true
 first:0≤t.first
 len:t.log.length≤100
 last:t.first≤1099511627775-t.log.length
 log:∀o∈t.log,OfOk o t.name
abbrev Eh (a b:Tp):Prop:=lS a.name b.name=true
structure TpsOk (l:List Tp):Prop where
 len:l.length≤20
 one:∀t∈l,TpOk t
 ord:l.Pairwise Eh
theorem QC (o n:ByteArray) (h:OfOk o n):Fn Tryz.prog 127 [pS o,pS n] (.pv (pB true)) []:=by
 refine c127.r [] (by simp) ?_
 have hsz:=h.size
 have h31:=HP o (by omega)
 rw[h.err,h.all]at h31
 have ht:=h.topic
 generalize (bS (cF o)).1=e at h31 ht
 subst ht
 simp only[go_sem,M127]
 refine aC (by simp only[go_sem]) rfl (h31) (.inl rfl) trivial ?_
 simp only[go_sem]
 done
theorem Rs (t:Tp) (h:TpOk t):Fn Tryz.prog 70 [t.pv] (.pv (pB true)) []:=by
 refine c70.r [] (by simp) ?_
 have h1:=h.first
 have h2:=h.len
 have h3:=h.last
 have h78:=HN t.name
 rw[h.name]at h78
 simp only[go_sem,M70]
 refine aA (by simp only[go_sem]) (by simp only[go_sem]<;>rfl) (h78) ⟨rfl,trivial⟩ trivial ?_
 simp only[go_sem,show ¬t.first<0 by omega,show ¬(100:Int)<(t.log.length:Int)by omega,show ¬(1099511627775-(t.log.length:Int)<t.first)by omega]
 refine⟨by omega,?_⟩
 refine aZ (T:=Nat) (fun i=>⟨[(1,.ptr 1 0),(30,.pv (ss t.log)),(31,.pv (pI t.log.length)),(32,.pv (pI i))],[(1,.box [.pv (pS t.name),.pv (pI t.first),.pv (ss t.log)])]⟩) (fun i=>i≤t.log.length) (fun i=>t.log.length-i) 0 rfl (Nat.zero_le _) ?_
 intro i hi
 by_cases hlt:i<t.log.length
 ·simp only[go_sem,B70_0,mQ,aK hlt,show(i:Int)<(t.log.length:Int)by omega]
  refine aA (by simp only[go_sem]) (by simp only[go_sem]<;>rfl) (QC t.log[i] t.name (h.log _ (List.getElem_mem hlt))) ⟨rfl,trivial⟩ trivial ?_
  simp only[go_sem]
  exact⟨by omega,i+1,rfl,by omega,by omega⟩
 ·simp only[go_sem,B70_0,R70_0,show ¬(i:Int)<(t.log.length:Int)by omega]
theorem Kv (l:List Tp) (h:TpsOk l):Fn Tryz.prog 20 [uJ l] (.pv (pI 0)) []:=by
 refine c20.r [] (by simp) ?_
 have hl:=h.len
 simp only[go_sem,M20,show ¬(20:Int)<(l.length:Int)by omega]
 refine aZ (T:=Nat) (fun i=>⟨[(0,.pv (uJ l)),(8,.pv (uJ l)),(9,.pv (pI l.length)),(10,.pv (pI i))],[]⟩) (fun i=>i≤l.length) (fun i=>l.length-i) 0 rfl (Nat.zero_le _) ?_
 intro i hi
 by_cases hlt:i<l.length
 ·have h70:=Rs l[i] (h.one _ (List.getElem_mem hlt))
  simp only[go_sem,B20_0,dF,aK hlt,show(i:Int)<(l.length:Int)by omega]
  refine aA (by simp only[go_sem]) (by simp only[go_sem]<;>rfl) (h70) ⟨rfl,trivial⟩ trivial ?_
  by_cases h0:i=0
  ·subst h0
   simp only[go_sem]
   exact⟨1,rfl,by omega,by omega⟩
  ·have hlt1:i-1<l.length:=by omega
   have e1:((i:Int)-1).toNat=i-1:=by omega
   have ho:Op.bytesLess (l[i-1]).name.toList (l[i]).name.toList=true:=List.pairwise_iff_getElem.1 h.ord (i-1) i hlt1 hlt (by omega)
   simp only[go_sem,dF,e1,aK hlt1,ho,show(0:Int)<(i:Int)by omega]
   exact⟨by omega,by omega,by omega,i+1,rfl,by omega,by omega⟩
 ·simp only[go_sem,B20_0,R20_0,show ¬(i:Int)<(l.length:Int)by omega]
def Tp.end_ (t:Tp):Int:=t.first+t.log.length
theorem Nh (t:Tp) (h:TpOk t):Fn Tryz.prog 90 [t.pv] (.pv (pI t.end_)) []:=by
 refine c90.r [] (by simp) ?_
 have h1:=h.first
 have h2:=h.len
 have h3:=h.last
 simp only[go_sem,M90]
 exact⟨by omega,rfl⟩
theorem MH (t:Tp) (h:TpOk t):Fn Tryz.prog 123 [t.pv] (.pv (pI t.end_)) []:=by
 refine c123.r [] (by simp) ?_
 have h1:=h.first
 have h2:=h.len
 have h3:=h.last
 simp only[go_sem,M123]
 exact⟨by omega,rfl⟩
theorem QL (t:Tp) (n:ByteArray):Fn Tryz.prog 107 [t.pv,.pt [pS n]] (.pv (pB (decide (t.name=n)))) []:=by
 refine c107.r [] (by simp) ?_
 simp only[go_sem,M107]
def cM (l:List Tp) (n:ByteArray):Int:=gZ (fun t:Tp=>decide (t.name=n)) l
theorem gE (l:List Tp) (n:ByteArray):(cM l n = -1∧∀x∈l,x.name≠n)∨∃k,∃h:k<l.length,cM l n=k∧(l[k]).name=n:=by
 rcases eY (fun x:Tp=>decide (x.name=n)) l with⟨h1,h2⟩|⟨n,h,h1,h2,_⟩
 ·exact .inl ⟨h1,fun x hx=>by simpa using h2 x hx⟩
 ·exact .inr ⟨n,h,h1,by simpa using h2⟩
theorem Kt (l:List Tp) (n:ByteArray) (hl:l.length<100000):Fn Tryz.prog 48 [uJ l,pS n] (.pv (.tup [pI (if cM l n<0 then 0 else cM l n),pB (decide (0≤cM l n))])) []:=by
 refine c48.r [] (by simp) ?_
 simp only[go_sem,M48]
 refine aA (by simp only[go_sem]) (by simp only[go_sem]<;>rfl) (rZ c106.r l (dF l) (fun _=>rfl) 107 [.pt [pS n]] (fun t:Tp=>decide (t.name=n)) hl (fun t _=>QL t n)) ⟨rfl,trivial⟩ trivial ?_
 simp only[go_sem]
 have e:gZ (fun t:Tp=>decide (t.name=n)) l=cM l n:=rfl
 rw[e]
 refine⟨fun h=>by rw[if_pos h,decide_eq_false (by omega)],fun h=>by rw[if_neg h,decide_eq_true (by omega)]⟩
theorem MK (l:List Tp) (n:ByteArray) (h:TpsOk l):Fn Tryz.prog 108 [uJ l,pS n] (.pv (.tup [pI (if cM l n<0 then 0 else cM l n),pI (if cM l n<0 then 4 else 0)])) []:=by
 refine c108.r [] (by simp) ?_
 have hl:=h.len
 simp only[go_sem,M108]
 refine aA (by simp only[go_sem]) (by simp only[go_sem]<;>rfl) (Kv l h) ⟨rfl,trivial⟩ trivial ?_
 simp only[go_sem]
 refine aA (by simp only[go_sem]) (by simp only[go_sem]<;>rfl) (Kt l n (by omega)) ⟨rfl,trivial⟩ trivial ?_
 simp only[go_sem]
 refine⟨fun h=>by rw[if_pos (by omega),if_pos (by omega)],fun h=>by rw[if_neg (by omega),if_neg (by omega)]⟩
theorem Qr (l:List ByteArray) (hl:l.length<100000):Fn Tryz.prog 148 [ss l] (.pv (ss l)) []:=(v1 c148.r l (mQ l) hl (by decide) (by decide)).row (by simp)
theorem OW (l:List Tp) (hl:l.length<100000):Fn Tryz.prog 66 [uJ l] (.row 0 0 l.length) [(3,l.map Tp.pv)]:=v1 c66.r l (dF l) hl (by decide) (by decide)
theorem Di {α:Type} {l:List α} {i:Nat} (h:i<l.length):l.set i l[i]=l:=by
 apply List.ext_getElem (by simp)
 intro n h1 h2
 rw[List.getElem_set]
 split
 ·rename_i e;subst e;rfl
 ·rfl
theorem Ni (l:List Tp) (h:TpsOk l):Fn Tryz.prog 89 [uJ l] (.row 0 0 l.length) [(3,l.map Tp.pv)]:=by
 have hl:=h.len
 refine c89.r [true] (by simp) ?_
 simp only[go_sem,M89]
 refine aC (by simp only[go_sem]) rfl (OW l (by omega)) (.inl rfl) trivial ?_
 simp only[go_sem]
 refine aZ (T:=Nat) (fun i=>⟨[(3,.row 1007 0 l.length),(8,.row 1007 0 l.length),(9,.pv (pI l.length)),(10,.pv (pI i))],[(1007,.sl 3 (l.map Tp.pv))]⟩) (fun i=>i≤l.length) (fun i=>l.length-i) 0 rfl (Nat.zero_le _) ?_
 intro i hi
 by_cases hlt:i<l.length
 ·have ho:=h.one _ (List.getElem_mem hlt)
  have h100:=ho.len
  simp only[go_sem,B89_0,dF,aK hlt,show(i:Int)<(l.length:Int)by omega]
  refine⟨hlt,?_⟩
  refine aC (by simp only[go_sem]) rfl (Qr (l[i]).log (by omega)) (.inl rfl) trivial ?_
  simp only[go_sem,dF,aK hlt]
  refine⟨by omega,hlt,by omega,i+1,?_,by omega,by omega⟩
  have e:(List.map Tp.pv l).set i (PV.agg [pS l[i].name,pI l[i].first,ss l[i].log])=l.map Tp.pv:=by
   rw[←List.map_set (f:=Tp.pv),Di hlt]
  rw[e];rfl
 ·simp only[go_sem,B89_0,R89_0,show ¬(i:Int)<(l.length:Int)by omega]
  simp
def CT (l:List Tp) (n:ByteArray) (at_:Int):Ev×Int:=
 if cM l n<0 then(default,4)
 else if at_<(l.getD (cM l n).toNat default).first then(default,8)
 else if(l.getD (cM l n).toNat default).end_≤at_ then(default,9)
 else((bS (cF ((l.getD (cM l n).toNat default).log.getD (at_-(l.getD (cM l n).toNat default).first).toNat default))).1,0)
theorem RC (l:List Tp) (n:ByteArray) (at_:Int) (h:TpsOk l) (ha : -4611686018427387904≤at_∧at_≤4611686018427387904):Fn Tryz.prog 49 [uJ l,pS n,pI at_] (.pv (.tup [(CT l n at_).1.pv,pI (CT l n at_).2])) []:=by
 have hl:=h.len
 refine c49.r [] (by simp) ?_
 simp only[go_sem,M49]
 refine aA (by simp only[go_sem]) (by simp only[go_sem]<;>rfl) (MK l n h) ⟨rfl,trivial⟩ trivial ?_
 simp only[go_sem]
 unfold CT
 rcases gE l n with⟨h1,_⟩|⟨k,hk,h1,h2⟩
 ·rw[h1]
  simp only[go_sem]
  rfl
 ·have hne:¬(k:Int)<0:=by omega
  have e1:((k:Int)).toNat=k:=by omega
  have ht:=h.one _ (List.getElem_mem hk)
  rw[h1]
  simp only[hne,if_false,e1,aM hk]
  simp only[go_sem,dF,aK hk]
  generalize l[k]=t at ht ⊢
  have g1:=ht.first
  have g2:=ht.len
  have g3:=ht.last
  refine⟨by omega,fun h3=>by rw[if_pos h3];rfl,fun h3=>?_⟩
  rw[if_neg h3]
  refine aA (by simp only[go_sem]) (by simp only[go_sem]<;>rfl) (Nh t ht) ⟨rfl,trivial⟩ trivial ?_
  simp only[go_sem]
  refine⟨fun h4=>by rw[if_pos h4];rfl,fun h4=>?_⟩
  rw[if_neg h4]
  unfold Tp.end_ at h4
  have hi:(at_-t.first).toNat<t.log.length:=by omega
  have ho:=ht.log _ (List.getElem_mem hi)
  have hsz:=ho.size
  have h31:=HP (t.log[(at_-t.first).toNat]) (by omega)
  rw[ho.err,ho.all]at h31
  rw[aM hi]
  simp only[go_sem,mQ,aK hi]
  refine⟨by omega,by omega,?_⟩
  refine aC (by simp only[go_sem]) rfl (h31) (.inl rfl) trivial ?_
  simp only[go_sem]
def mO (t:Tp) (gY:Int):Tp:=if t.first<gY then⟨t.name,gY,t.log.drop (gY-t.first).toNat⟩else t
def CQ (l:List Tp) (n:ByteArray) (gY:Int):List Tp×Int:=
 if cM l n<0 then([],4)
 else if gY<0∨(l.getD (cM l n).toNat default).end_<gY then([],1)
 else(l.set (cM l n).toNat (mO (l.getD (cM l n).toNat default) gY),0)
theorem Rv (l:List Tp) (n:ByteArray) (gY:Int) (h:TpsOk l) (ha:gY≤4611686018427387904):Fn Tryz.prog 67 [uJ l,pS n,pI gY] (.pv (.tup [uJ (CQ l n gY).1,pI (CQ l n gY).2])) []:=by
 have hl:=h.len
 refine c67.r [false,false] (by simp) ?_
 simp only[go_sem,M67]
 refine aA (by simp only[go_sem]) (by simp only[go_sem]<;>rfl) (MK l n h) ⟨rfl,trivial⟩ trivial ?_
 simp only[go_sem]
 unfold CQ
 rcases gE l n with⟨h1,_⟩|⟨k,hk,h1,h2⟩
 ·rw[h1]
  simp only[go_sem]
  rfl
 ·have hne:¬(k:Int)<0:=by omega
  have e1:((k:Int)).toNat=k:=by omega
  have ht:=h.one _ (List.getElem_mem hk)
  rw[h1]
  simp only[hne,if_false,e1,aM hk]
  simp only[go_sem,dF,aK hk]
  have h90:=Nh l[k] ht
  have hx:∃t,t=l[k]:=⟨_,rfl⟩
  obtain⟨t,htk⟩:=hx
  rw[←htk]at ht h90 ⊢
  have g1:=ht.first
  have g2:=ht.len
  have g3:=ht.last
  refine⟨fun h3=>⟨h3,by omega⟩,?_⟩
  refine aF (by simp only[go_sem]) (by simp only[go_sem]) (by simp only[go_sem]<;>rfl) (fun _=>h90) rfl ?_
  simp only[go_sem]
  refine⟨fun h3=>by rw[if_pos h3];rfl,fun h3=>?_⟩
  rw[if_neg (by rintro(h4|h4);exact h3.1 h4;exact h3.2 h4)]
  refine aC (by simp only[go_sem]) rfl (Ni l h) (.inl rfl) trivial ?_
  simp only[go_sem,dF,aK hk,←htk]
  unfold Tp.end_ at h3
  refine⟨by omega,hk,fun h4=>?_,fun h4=>?_⟩
  ·refine⟨hk,hk,by omega,⟨by omega,by omega,by omega,mQ _⟩,hk,by simpa using hk,?_⟩
   have e2:∀x:PV,((List.map Tp.pv l).set k x).getD k default=x:=fun x=>by
    rw[aM (by simpa using hk),List.getElem_set_self]
   have e3:List.drop (gY-t.first).toNat (List.take t.log.length (List.map pS t.log))=(t.log.drop (gY-t.first).toNat).map pS:=by
    rw[List.take_of_length_le (by simp),List.map_drop]
   rw[e2,e3,List.set_set,List.take_of_length_le (by simp)]
   have e4:mO t gY=⟨t.name,gY,t.log.drop (gY-t.first).toNat⟩:=by unfold mO;rw[if_pos h4]
   rw[e4]
   unfold uJ
   rw[List.map_set]
   rfl
  ·have e4:mO t gY=l[k]:=by unfold mO;rw[if_neg h4];exact htk
   rw[e4,Di hk,List.take_of_length_le (by simp)]
def o7 (l:List Tp) (e:Ev):List Tp×Int×Int:=
 if cM l e.topic<0 then(if 20≤l.length then([],0,6)else(eZ l (l.takeWhile (fun y=>lS y.name e.topic)).length ⟨e.topic,0,[bQ (eM e)]⟩,0,0))
 else if 100≤(l.getD (cM l e.topic).toNat default).log.length∨1099511627775≤(l.getD (cM l e.topic).toNat default).end_ then([],0,6)
 else(l.set (cM l e.topic).toNat { l.getD (cM l e.topic).toNat default with log:=(l.getD (cM l e.topic).toNat default).log++[bQ (eM e)] },(l.getD (cM l e.topic).toNat default).end_,0)
theorem Py {ps:List PV} {st:List (Nat×Row)} {r off n:Nat} {xs:List PV} (hst:(r,.slf 3 xs)∈st) (hw:cY 3 ps):J2 Tryz.prog 146 [.pv (.lst ps),.row r off n] st (aY false):=
 iR 23 139 4 Tryz.func146 (by decide) rfl (by kernel_rfl) (by kernel_rfl) (by kernel_rfl) (by kernel_rfl) hst hw (by decide)
theorem tT {P:Program} {R:Exit→St→Prop} {σ:St}:∀ks:List KI,eE P R ks .ret σ=R .ret σ
 | []=>yZ
 | .code _::ks=>by rw[r9];exact tT ks
 | .blk _::ks=>by rw[uC];exact tT ks
 | .lp _::ks=>by rw[wO];exact tT ks
theorem RJ (l:List Tp) (e:Ev) (h:TpsOk l) (hm:iU e=true) (hn:EvN e):Fn Tryz.prog 33 [uJ l,e.pv] (.pv (.tup [uJ (o7 l e).1,pI (o7 l e).2.1,pI (o7 l e).2.2])) []:=by
 have hl:=h.len
 obtain⟨m1,m2,m3,m4,m5⟩:=jM hm
 have s1:=fH m1
 have s2:=fM m2
 have h85:=Ks e
 have h87:=OU e (by omega) hn (by omega) (by omega)
 rw[hm]at h85 h87
 simp only[if_true,eR]at h87
 refine c33.r [false,false,false] (by simp) ?_
 simp only[go_sem,M33]
 refine aA (by simp only[go_sem]) (by simp only[go_sem]<;>rfl) (Kv l h) ⟨rfl,trivial⟩ trivial ?_
 simp only[go_sem]
 refine aF (by simp only[go_sem]) (by simp only[go_sem]) (by simp only[go_sem]<;>rfl) (fun _=>h85) rfl ?_
 simp only[go_sem]
 refine aA (by simp only[go_sem]) (by simp only[go_sem]<;>rfl) (h87) ⟨rfl,trivial⟩ trivial ?_
 simp only[go_sem]
 refine aA (by simp only[go_sem]) (by simp only[go_sem]<;>rfl) (Kt l e.topic (by omega)) ⟨rfl,trivial⟩ trivial ?_
 simp only[go_sem]
 unfold o7
 rcases gE l e.topic with⟨h1,_⟩|⟨k,hk,h1,h2⟩
 ·rw[h1]
  simp only[go_sem]
  refine⟨fun h3=>by rw[if_pos (by omega)];rfl,fun h3=>?_⟩
  rw[if_neg (by omega)]
  refine aZ (T:=Nat) (fun i=>⟨[(0,.pv (uJ l)),(3,.ptr 3 0),(7,.pv (pS (bQ (eM e)))),(9,.pv (pI i))],[(3,.box e.cells)]⟩) (fun i=>i≤l.length∧∀j (h:j<l.length),j<i→lS (l[j]).name e.topic=true) (fun i=>l.length-i) 0 rfl ⟨Nat.zero_le _,fun j _ h=>absurd h (by omega)⟩ ?_
  intro i ⟨hi,hq⟩
  have fin:∀(ks:List KI) (v:AV),(∀h:i<l.length,lS (l[i]).name e.topic=false)→run Tryz.prog (uL [RV.tmp 4,RV.tmp 5,RV.tmp 6] [false,false,false] (.pv (.tup [uJ (eZ l (List.takeWhile (fun y=>lS y.name e.topic) l).length ⟨e.topic,0,[bQ (eM e)]⟩),pI 0,pI 0])) []) R33_0 ks
    ⟨[(0,.pv (uJ l)),(3,.ptr 3 0),(7,.pv (pS (bQ (eM e)))),(9,.pv (pI i)),(56,v)],[(3,.box e.cells)]⟩:=fun ks v hx=>by
   rw[BT hi hq hx]
   simp only[go_sem,R33_0]
   refine cC (by simp only[go_sem]) rfl (Ni l h) (.inl rfl) trivial ?_
   simp only[go_sem]
   have hS:=yJ (by decide) (by decide) (dF [default]) c88.s Py (l.map Tp.pv) (dF l) (Tp.pv ⟨e.topic,0,[bQ (eM e)]⟩) (dF [⟨e.topic,0,[bQ (eM e)]⟩]) i (by simpa using hi) (by simp;omega)
   rw[List.length_map]at hS
   refine aP (fun _=>1065) (by simp only[go_sem]) (by simp only[go_sem]<;>rfl) hS rfl (by intro e he;simp only[List.mem_cons,List.not_mem_nil,or_false]at he;subst he;simp only[go_sem]) (by simp) (by simp) (by simp) (by intro e he _;decide) ?_
   simp only[go_sem]
   rw[mZ (f:=Tp.pv),tT]
   simp only[go_sem]
  by_cases hlt:i<l.length
  ·simp only[go_sem,B33_0,dF,aK hlt,show(i:Int)<(l.length:Int)by omega]
   refine⟨fun h=>⟨⟨by omega,by omega⟩,i+1,rfl,⟨hlt,fun j hj hji=>?_⟩,by omega⟩,fun h=>fin _ _ (fun _=>h)⟩
   by_cases hj2:j=i
   ·subst hj2;exact h
   ·exact hq j hj (by omega)
  ·simp only[go_sem,B33_0,dF,show ¬(i:Int)<(l.length:Int)by omega]
   exact fin _ _ (fun h=>absurd h hlt)
 ·have hne:¬(k:Int)<0:=by omega
  have e1:((k:Int)).toNat=k:=by omega
  have ht:=h.one _ (List.getElem_mem hk)
  rw[h1]
  simp only[hne,if_false,e1,aM hk]
  simp only[go_sem,dF,aK hk]
  have h90:=Nh l[k] ht
  obtain⟨t,htk⟩:∃t,t=l[k]:=⟨_,rfl⟩
  rw[←htk]at ht h90 ⊢
  have g1:=ht.first
  have g2:=ht.len
  have g3:=ht.last
  refine⟨by omega,?_⟩
  refine aA (by simp only[go_sem]) (by simp only[go_sem]<;>rfl) (h90) ⟨rfl,trivial⟩ trivial ?_
  simp only[go_sem,dF,aK hk,←htk]
  refine⟨by omega,fun h3=>by rw[if_pos (by omega)];rfl,fun h3=>?_⟩
  rw[if_neg (by omega)]
  refine aC (by simp only[go_sem]) rfl (Ni l h) (.inl rfl) trivial ?_
  simp only[go_sem,dF,aK hk,←htk]
  refine⟨by omega,hk,⟨mQ [_],mQ _,by omega,by omega⟩,by omega,hk,?_⟩
  rw[List.take_of_length_le (by simp)]
  unfold uJ
  rw[List.map_set]
  have e5:List.map pS t.log++[pS (bQ (eM e))]=(t.log++[bQ (eM e)]).map pS:=by simp
  rw[e5]
end Go.Vc

namespace Go.Vc
open Go.Proofs
set_option linter.unusedSimpArgs false
set_option linter.unusedVariables false
set_option maxRecDepth 10000
def jV (l:List Of) (t:Tp):Int:=if t.first>rV l t.name then t.first else rV l t.name
def Ay (d:Df) (l:List Of) (t:Tp):Bool:=decide (jV l t<t.end_)&&BP d t.name
def BF (d:Df) (l:List Of) (ts:List Tp):ByteArray×Int×Int:=match ts.find? (Ay d l)with
 | some t=>(t.name,jV l t,0)
 | none=>(⟨#[]⟩,0,4)
theorem LD {α:Type} {q:α→Bool} {l:List α} {i:Nat} (h:i<l.length) (h1:q l[i]=true) (h2:∀j (hj:j<l.length),j<i→q l[j]=false):l.find? q=some l[i]:=by
 rw[List.find?_eq_some_iff_getElem]
 exact⟨h1,i,h,rfl,fun j hj=>by rw[h2 j (by omega) hj];rfl⟩
theorem RE (d:Df) (l:List Of) (ts:List Tp) (h:SmD d) (hm:sB d=true) (hl:l.length<100000) (hc:d7 l=true) (ht:TpsOk ts):Fn Tryz.prog 47 [d.pv,offs l,uJ ts] (.pv (.tup [pS (BF d l ts).1,pI (BF d l ts).2.1,pI (BF d l ts).2.2])) []:=by
 have h35:=Gj d h
 have h103:=Id l hl
 have h20:=Kv ts ht
 rw[hm]at h35
 rw[hc]at h103
 simp only[eR,if_true]at h103
 have hl20:=ht.len
 refine c47.r [] (by simp) ?_
 simp only[go_sem,M47]
 refine aA (by simp only[go_sem]) (by simp only[go_sem]<;>rfl) (h35) ⟨rfl,trivial⟩ trivial ?_
 simp only[go_sem]
 refine aF (by simp only[go_sem]) (by simp only[go_sem]) (by simp only[go_sem]<;>rfl) (fun _=>h103) rfl ?_
 simp only[go_sem]
 refine aF (by simp only[go_sem]) (by simp only[go_sem]) (by simp only[go_sem]<;>rfl) (fun _=>h20) rfl ?_
 simp only[go_sem]
 refine bK (T:=Nat) [1,3,25,26,27] [3] (fun i=>⟨[(1,.pv (offs l)),(3,.ptr 3 0),(25,.pv (uJ ts)),(26,.pv (pI ts.length)),(27,.pv (pI i))],[(3,.box (d.cells.map .pv))]⟩) (fun i=>i≤ts.length∧∀j (h:j<ts.length),j<i→Ay d l ts[j]=false) (fun i=>ts.length-i) 0 ?_ ⟨Nat.zero_le _,fun j _ h=>absurd h (by omega)⟩ ?_
 ·simp only[go_sem]
 rintro i ⟨hi,hq⟩
 by_cases hlt:i<ts.length
 ·have hti:=ht.one _ (List.getElem_mem hlt)
  obtain⟨t,htk⟩:∃t,t=ts[i]:=⟨_,rfl⟩
  rw[←htk]at hti
  have g1:=hti.first
  have g2:=hti.len
  have g3:=hti.last
  have hts:=fH hti.name
  simp only[go_sem,B47_0,dF,aK hlt,←htk,show(i:Int)<(ts.length:Int)by omega]
  refine aA (by simp only[go_sem]) (by simp only[go_sem]<;>rfl) (MM l t.name hl) ⟨rfl,trivial⟩ trivial ?_
  simp only[go_sem]
  refine⟨by omega,?_⟩
  refine aF (by simp only[go_sem]) (by simp only[go_sem]) (by simp only[go_sem]<;>rfl) (fun _=>ML d t.name h.globs (z6 hm) (by omega)) rfl ?_
  simp only[go_sem]
  have hn:(if t.first>rV l t.name then t.first else rV l t.name)=jV l t:=rfl
  have hen:t.first+(t.log.length:Int)=t.end_:=rfl
  rw[hn,hen]
  refine⟨fun hx=>?_,fun hx=>⟨by omega,i+1,rfl,⟨hlt,fun j hj hji=>?_⟩,by omega⟩⟩
  ·have:BF d l ts=(t.name,jV l t,0):=by
    unfold BF
    rw[LD hlt (by rw[←htk];unfold Ay;rw[decide_eq_true hx.1,hx.2];rfl) hq,←htk]
   rw[this]
  ·by_cases hj2:j=i
   ·subst hj2
    rw[←htk]
    unfold Ay
    rcases hx with hx|hx
    ·rw[decide_eq_false hx];rfl
    ·rw[hx,Bool.and_false]
   ·exact hq j hj (by omega)
 ·simp only[go_sem,B47_0,R47_0,show ¬(i:Int)<(ts.length:Int)by omega]
  have:ts.find? (Ay d l)=none:=List.find?_eq_none.2 fun x hx=>by
   obtain⟨j,hj,rfl⟩:=List.mem_iff_getElem.1 hx
   rw[hq j hj (by omega)];simp
  unfold BF
  rw[this]
end Go.Vc

namespace Go.Vc
open Go.Proofs
set_option linter.unusedSimpArgs false
set_option linter.unusedVariables false
set_option maxRecDepth 10000
def oN (l:List In) (key:Vl) (left:List Kp):List In:=l.filter (fun y=>decide (cE y.key key<0))++(if left=[]then[]else[⟨key,left⟩])++l.filter (fun y=>decide (0<cE y.key key))
def s8 (j:Jn) (l:List In) (i:Nat):Bool:=
 cU (l.getD i default).key&&(decide (i=0)||decide (cE (l.getD (i-1) default).key (l.getD i default).key<0))&&decide ((l.getD i default).l≠[])&&bJ j (l.getD i default).l
def mM (l:List In):List Int:=(eB l).map (·.id)
def cJ (j:Jn) (l:List In):Bool:=kS j&&decide (l.length≤40)&&(List.range l.length).all (s8 j l)&&decide ((mM l).Nodup)
def CG (es:List (Int×Int)):List (PV×PV):=es.map fun e=>(pU e.1,pI e.2)
theorem FU {n:Int}:∀{es:List (Int×Int)},(rQ (pU n) (CG es)).isSome=decide (n∈es.map (·.1))
 | []=>rfl
 | e::es=>by
  have ih:=FU (n:=n) (es:=es)
  simp only[CG]at ih
  by_cases h:n=e.1
  ·simp[CG,rQ,cG,h]
  ·simp only[CG,List.map_cons,rQ,cG,h,decide_false,Bool.false_eq_true,if_false,ih,List.mem_cons,false_or]
theorem yV (n:Int):∀es:List (Int×Int),aW .int (pU n) (CG es)
 | []=>trivial
 | k::es=>⟨rfl,yV n es⟩
theorem Dr {n v:Int}:∀{es:List (Int×Int)},n∉es.map (·.1)→nP (pU n) (pI v) (CG es)=CG (es++[(n,v)])
 | [],_=>rfl
 | e::es,h=>by
  simp only[List.map_cons,List.mem_cons,not_or]at h
  have ih:=Dr (v:=v) h.2
  simp only[CG]at ih
  simp[CG,nP,cG,h.1,ih]
theorem Jh {n:Int} {es:List (Int×Int)} (h:n∈es.map (·.1)):∃v,rQ (pU n) (CG es)=some (pI v):=by
 induction es with
 | nil=>cases h
 | cons e es ih=>
  by_cases hn:n=e.1
  ·exact⟨e.2,by simp[CG,rQ,cG,hn]⟩
  ·obtain⟨v,hv⟩:=ih (by simpa[hn]using h)
   exact⟨v,by simp only[CG]at hv;simp[CG,rQ,cG,hn,hv]⟩
theorem Ji {n:Int} {es:List (Int×Int)} (h:n∉es.map (·.1)):rQ (pU n) (CG es)=none:=by
 have:=FU (n:=n) (es:=es)
 rw[decide_eq_false h]at this
 cases hl:rQ (pU n) (CG es)with
 | none=>rfl
 | some v=>rw[hl]at this;cases this
theorem LA {l:List In} {i:Nat} (h:i<l.length) (m:Nat):(mM (l.take i)++(l[i].l.take m).map (·.id)).Sublist (mM l):=by
 have e1:mM (l.take (i+1))=mM (l.take i)++l[i].l.map (·.id):=by simp only[mM];rw[vP h,List.map_append]
 have e2:mM l=mM (l.take (i+1))++mM (l.drop (i+1)):=by
  simp only[mM,eB]
  rw[←List.map_append,←List.flatten_append,←List.map_append,List.take_append_drop]
 rw[e2,e1]
 refine List.Sublist.trans ?_ (List.sublist_append_left _ _)
 exact List.Sublist.append (List.Sublist.refl _) ((List.take_sublist _ _).map _)
theorem sN {l:List Int} {a:Int}:(l++[a]).Nodup↔l.Nodup∧a∉l:=by
 rw[List.nodup_append]
 constructor
 ·rintro⟨h1,_,h3⟩
  exact⟨h1,fun hm=>h3 a hm a (by simp) rfl⟩
 ·rintro⟨h1,h2⟩
  exact⟨h1,by simp,fun b hb c hc e=>by simp only[List.mem_singleton]at hc;subst hc;subst e;exact h2 hb⟩
theorem Ib (j:Jn) (l:List In) (hl:l.length<100000) (hk:∀x∈l,x.l.length<100000):Fn Tryz.prog 125 [j.pv,ins l] (.pv (pI (eR (cJ j l)))) []:=by
 refine c125.r [] (by simp) ?_
 simp only[go_sem,M125]
 refine aA (by simp only[go_sem]) (by simp only[go_sem]) (Ng j) ⟨rfl,trivial⟩ trivial ?_
 simp only[go_sem]
 by_cases hm:kS j=true∧l.length≤40
 ·obtain⟨hm,h40⟩:=hm
  simp only[go_sem,B125_1,B125_0,R125_0,hm,show ¬(40:Int)<(l.length:Int)by omega]
  refine aZ (T:=Nat×List (Int×Int)) (fun t=>⟨[(1,.pv (ins l)),(2,.ptr 2 0),(5,.mp 20),(21,.pv (ins l)),(22,.pv (pI l.length)),(23,.pv (pI t.1))],
   [(2,.box [.pv (pS j.kind),.pv (pI j.parts),.pv (pI j.need),.pv (pI j.window)]),(20,.mp (CG t.2))]⟩)
   (fun t=>t.1≤l.length∧(List.range t.1).all (s8 j l)=true∧(mM (l.take t.1)).Nodup∧t.2.map (·.1)=mM (l.take t.1)) (fun t=>l.length-t.1) ⟨0,[]⟩ ?_ ⟨Nat.zero_le _,rfl,by simp[mM,eB],by simp[mM,eB]⟩ ?_
  ·rfl
  rintro⟨i,es⟩ ⟨hi,hok,hnd,hes⟩
  simp only at hi hok hnd hes
  by_cases hlt:i<l.length
  ·have hx:=hk _ (List.getElem_mem hlt)
   simp only[go_sem,B125_0,iC,lE hlt,nQ hlt,show(i:Int)<(l.length:Int)by omega]
   have hno:s8 j l i=false→cJ j l=false:=fun h=>by
    cases hc:cJ j l with
    | false=>rfl
    | true=>
     exfalso
     simp only[cJ,Bool.and_eq_true,decide_eq_true_eq,List.all_eq_true,List.mem_range]at hc
     have:=hc.1.2 i hlt
     rw[h]at this;cases this
   refine aA (by simp only[go_sem]) (by simp only[go_sem]) (Ea l[i].key) ⟨rfl,trivial⟩ trivial ?_
   simp only[go_sem,B125_1,B125_0,R125_0,iC,nQ hlt,show((i:Int)-1).toNat=i-1 by omega,lE (show i-1<l.length by omega)]
   have hpre:(0:Int)<(i:Int)→(0:Int)≤(i:Int)-1∧(i:Int)-1<(l.length:Int):=fun h=>by omega
   refine⟨fun h=>⟨h,by omega,by omega⟩,fun h=>⟨h,by have:=h.2;omega,by omega⟩,?_⟩
   refine aF (by simp only[go_sem]) (by simp only[go_sem]) (by simp only[go_sem];rfl) (fun _=>Ia (l.getD (i-1) default).key l[i].key) rfl ?_
   have hone:s8 j l i=(cU l[i].key&&(decide (i=0)||decide (cE (l.getD (i-1) default).key l[i].key<0))&&decide (l[i].l≠[])&&bJ j l[i].l):=by
    unfold s8;rw[nQ hlt]
   have hi0:(decide ((0:Int)<(i:Int))) = !decide (i=0):=by
    by_cases h:i=0
    ·simp[h]
    ·simp[h];omega
   by_cases hA:cU l[i].key=true∧(i=0∨cE (l.getD (i-1) default).key l[i].key<0)
   ·have e1:¬((0:Int)<(i:Int)∧0≤cE (l.getD (i-1) default).key l[i].key):=fun⟨h1,h2⟩=>by
     rcases hA.2 with h|h<;>omega
    simp only[go_sem,hA.1]
    refine⟨fun h=>absurd h e1,fun _=>?_⟩
    refine aF (by simp only[go_sem]) (by simp only[go_sem]) (by simp only[go_sem];rfl) (fun _=>Ft j l[i].l hx) rfl ?_
    by_cases hB:¬l[i].l=[]∧bJ j l[i].l=true
    ·obtain⟨hne,hck⟩:=hB
     have hpos:¬((l[i].l.length:Int)=0):=fun h=>hne (List.eq_nil_of_length_eq_zero (by omega))
     simp only[go_sem,hpos,lO,hck]
     refine⟨fun h=>absurd rfl h,fun _=>?_⟩
     refine aZ (T:=Nat×List (Int×Int)) (fun t=>⟨[(1,.pv (ins l)),(2,.ptr 2 0),(5,.mp 20),(6,.pv (pI i)),(21,.pv (ins l)),(22,.pv (pI l.length)),(23,.pv (pI i)),(60,.pv (ks l[i].l)),(61,.pv (pI l[i].l.length)),(62,.pv (pI t.1))],
      [(2,.box [.pv (pS j.kind),.pv (pI j.parts),.pv (pI j.need),.pv (pI j.window)]),(20,.mp (CG t.2))]⟩)
      (fun t=>t.1≤l[i].l.length∧(mM (l.take i)++(l[i].l.take t.1).map (·.id)).Nodup∧t.2.map (·.1)=mM (l.take i)++(l[i].l.take t.1).map (·.id)) (fun t=>l[i].l.length-t.1) ⟨0,es⟩ rfl ⟨Nat.zero_le _,by simpa using hnd,by simpa using hes⟩ ?_
     rintro⟨k,es'⟩ ⟨hk1,hk2,hk3⟩
     simp only at hk1 hk2 hk3
     by_cases hkl:k<l[i].l.length
     ·have hts:(l[i].l.take (k+1)).map (·.id)=(l[i].l.take k).map (·.id)++[(l[i].l.getD k default).id]:=by rw[fB hkl,List.map_append];rfl
      have hsub:=LA hlt (k+1)
      rw[hts,←List.append_assoc,←hk3]at hsub
      by_cases hmet:(l[i].l.getD k default).id∈es'.map (·.1)
      ·obtain⟨v,hv⟩:=Jh hmet
       have h1:cJ j l=false:=by
        cases hc:cJ j l with
        | false=>rfl
        | true=>
         exfalso
         simp only[cJ,Bool.and_eq_true,decide_eq_true_eq]at hc
         exact(sN.1 (hc.2.sublist hsub)).2 hmet
       rw[h1]
       simp only[go_sem,B125_1,show(k:Int)<(l[i].l.length:Int)by omega,fX,jR hkl,yV,hv,eR]
      ·simp only[go_sem,B125_1,show(k:Int)<(l[i].l.length:Int)by omega,fX,jR hkl,yV,Ji hmet,Dr hmet]
       refine⟨⟨by omega,by omega⟩,⟨k+1,es'++[((l[i].l.getD k default).id,(i:Int))]⟩,rfl,⟨hkl,?_,?_⟩,by simp only;omega⟩
       ·simp only
        rw[hts,←List.append_assoc,←hk3]
        exact sN.2 ⟨by rw[hk3];exact hk2,hmet⟩
       ·simp only
        rw[hts,←List.append_assoc,←hk3,List.map_append]
        rfl
     ·have hke:k=l[i].l.length:=by omega
      subst hke
      simp only[go_sem,B125_1,show ¬((l[i].l.length:Int)<(l[i].l.length:Int))by omega]
      have hids:mM (l.take (i+1))=mM (l.take i)++l[i].l.map (·.id):=by simp only[mM];rw[vP hlt,List.map_append]
      rw[List.take_length]at hk2 hk3
      have hoi:s8 j l i=true:=by
       rw[hone]
       rcases hA.2 with h|h<;>simp[hA.1,eq_true h,hne,hck,-List.getD_eq_getElem?_getD]
      refine⟨⟨by omega,by omega⟩,⟨i+1,es'⟩,rfl,⟨hlt,?_,?_,?_⟩,by simp only;omega⟩
      ·simp only[List.range_succ,List.all_append,hok,List.all_cons,hoi,List.all_nil,Bool.and_true]
      ·simp only;rw[hids];exact hk2
      ·simp only;rw[hids];exact hk3
    ·have h1:cJ j l=false:=hno (by
      rw[hone]
      by_cases hz:l[i].l=[]
      ·simp[hz]
      ·have:bJ j l[i].l=false:=by
        cases h:bJ j l[i].l with
        | false=>rfl
        | true=>exact absurd ⟨hz,h⟩ hB
       simp[this])
     rw[h1]
     by_cases hz:l[i].l=[]
     ·simp only[go_sem,B125_1,B125_0,R125_0,show((l[i].l.length:Int)=0)by rw[hz];rfl,eR]
     ·have hc:bJ j l[i].l=false:=by
       cases h:bJ j l[i].l with
       | false=>rfl
       | true=>exact absurd ⟨hz,h⟩ hB
      have hpos:¬((l[i].l.length:Int)=0):=fun h=>hz (List.eq_nil_of_length_eq_zero (by omega))
      simp only[go_sem,hpos,lO,hc,eR]
   ·have h1:cJ j l=false:=hno (by
     rw[hone]
     by_cases hv:cU l[i].key=true
     ·have h2:¬(i=0∨cE (l.getD (i-1) default).key l[i].key<0):=fun h=>hA ⟨hv,h⟩
      simp only[not_or]at h2
      simp[hv,h2.1,-List.getD_eq_getElem?_getD]
      omega
     ·simp[hv])
    rw[h1]
    by_cases hv:cU l[i].key=true
    ·have h2:¬(i=0∨cE (l.getD (i-1) default).key l[i].key<0):=fun h=>hA ⟨hv,h⟩
     simp only[go_sem,B125_1,B125_0,R125_0,hv,show(0:Int)<(i:Int)by omega,show(0:Int)≤cE (l.getD (i-1) default).key l[i].key by omega,eR]
    ·have hv':cU l[i].key=false:=by simpa using hv
     simp only[go_sem,hv',eR]
  ·have hie:i=l.length:=by omega
   subst hie
   simp only[go_sem,B125_0,R125_0,show ¬((l.length:Int)<(l.length:Int))by omega]
   rw[List.take_length]at hnd
   simp[cJ,hm,h40,hok,hnd,eR]
 ·have h1:cJ j l=false:=by
   cases hc:cJ j l with
   | false=>rfl
   | true=>
    exfalso
    simp only[cJ,Bool.and_eq_true,decide_eq_true_eq]at hc
    exact hm ⟨hc.1.1.1,hc.1.1.2⟩
  refine⟨fun _=>by rw[h1];rfl,fun h=>absurd ⟨h.1,by omega⟩ hm⟩
structure FRI where
 ins_:List In
 fired:List Kp
 over:List Kp
 err:Int
 deriving DecidableEq
abbrev FRI.pv (r:FRI):PV:=.tup [ins r.ins_,ks r.fired,ks r.over,pI r.err]
def kB (e:Int):FRI:=⟨[],[],[],e⟩
def cW (l:List In) (key:Vl):List Kp:=if 0≤kX l key then(l.getD (kX l key).toNat default).l else[]
def hZ (j:Jn) (l:List In) (key:Vl) (x:Kp):FRI:=
 if cJ j l=false then kB 1
 else if cU key=false then kB 1
 else if l.any (fun y=>oU y.l x.id)=true then kB 5
 else if(bB j (cW l key) x).err≠0 then kB (bB j (cW l key) x).err
 else if kX l key<0∧0<(bB j (cW l key) x).left.length∧40≤l.length then kB 6
 else⟨AI l key (bB j (cW l key) x).left,(bB j (cW l key) x).fired,(bB j (cW l key) x).over,0⟩
theorem JG (l:List In) (key:Vl):kX l key<0∨∃n:Nat,kX l key=n∧n<l.length:=by
 unfold kX gZ
 split
 ·rename_i h
  exact .inr ⟨_,rfl,List.findIdx_lt_length_of_exists (by simpa using h)⟩
 ·exact .inl (by omega)
theorem QI (j:Jn) (l:List In) (key:Vl) (x:Kp) (hl:l.length<100000) (hk:∀y∈l,y.l.length<100000):Fn Tryz.prog 111 [j.pv,ins l,key.pv,x.pv] (.pv (hZ j l key x).pv) []:=by
 refine c111.r [false,false,false,false] (by simp) ?_
 simp only[go_sem,M111]
 refine aA (by simp only[go_sem]) (by simp only[go_sem]) (Ib j l hl hk) ⟨rfl,trivial⟩ trivial ?_
 cases hc:cJ j l with
 | false=>
  simp only[go_sem,eR]
  simp[hZ,hc,kB]
 | true=>
  simp only[go_sem,eR]
  refine aA (by simp only[go_sem]) (by simp only[go_sem]) (Ea key) ⟨rfl,trivial⟩ trivial ?_
  cases hv:cU key with
  | false=>
   simp only[go_sem]
   simp[hZ,hc,hv,kB]
  | true=>
   simp only[go_sem]
   refine aA (by simp only[go_sem]) (by simp only[go_sem]) (Qj l x.id hl hk) ⟨rfl,trivial⟩ trivial ?_
   cases ha:l.any (fun y=>oU y.l x.id)with
   | true=>
    simp only[go_sem]
    simp[hZ,hc,hv,ha,kB]
   | false=>
    simp only[go_sem]
    refine aA (by simp only[go_sem]) (by simp only[go_sem]) (Qi l key hl) ⟨rfl,trivial⟩ trivial ?_
    have hfd:=JG l key
    have h40:l.length≤40:=by
     simp only[cJ,Bool.and_eq_true,decide_eq_true_eq]at hc
     exact hc.1.1.2
    have rest:∀ws:List Kp,ws.length<100000→cW l key=ws→∀b:Bool,(kX l key<0)=(b=true)→
      hZ j l key x=(if(bB j ws x).err≠0 then kB (bB j ws x).err else if b=true∧0<(bB j ws x).left.length∧40≤l.length then kB 6 else⟨AI l key (bB j ws x).left,(bB j ws x).fired,(bB j ws x).over,0⟩):=by
     intro ws _ hw b hb
     simp only[hZ,hc,hv,ha,hw,hb]
     simp
    by_cases h0:0≤kX l key
    ·obtain⟨n,hn,hnl⟩:∃n:Nat,kX l key=n∧n<l.length:=by
      rcases hfd with h|h
      ·omega
      ·exact h
     have hx:=hk _ (List.getElem_mem hnl)
     have hr:=rest l[n].l hx (by unfold cW;rw[if_pos h0,hn,Int.toNat_natCast,nQ hnl]) false (by simp;omega)
     rw[hr]
     simp only[go_sem,hn,iC,lE hnl,nQ hnl,show(n:Int)<(l.length:Int)by omega]
     refine aC (by simp only[go_sem]) rfl (Mz j l[n].l x hx) (.inl rfl) trivial ?_
     simp only[go_sem]
     have hlen:=(vL j l[n].l x).1
     generalize bB j l[n].l x=r at*
     refine⟨fun he=>?_,fun he=>⟨fun h=>absurd h.1.1 (by omega),fun _=>?_⟩⟩
     ·rw[if_pos he];rfl
     ·rw[if_neg (by simp[he])]
      refine aC (by simp only[go_sem]) rfl (My l key r.left (by omega) hk (by omega)) (.inl rfl) trivial ?_
      simp only[go_sem]
    ·have hr:=rest [] (by simp) (by unfold cW;rw[if_neg h0]) true (by simp;omega)
     rw[hr]
     simp only[go_sem,h0]
     refine aC (by simp only[go_sem]) rfl (Mz j [] x (by simp)) (.inl rfl) trivial ?_
     simp only[go_sem]
     have hlen:=(vL j [] x).1
     simp only[List.length_nil]at hlen
     generalize bB j [] x=r at*
     refine⟨fun he=>?_,fun he=>⟨fun h=>?_,fun h=>?_⟩⟩
     ·rw[if_pos he];rfl
     ·rw[if_neg (by simp[he]),if_pos (by omega)];rfl
     ·rw[if_neg (by simp[he]),if_neg (by omega)]
      refine aC (by simp only[go_sem]) rfl (My l key r.left (by omega) hk (by omega)) (.inl rfl) trivial ?_
      simp only[go_sem]
theorem jG (a:Vl):cE a a=0:=by
 have h:=tK a.s a.s
 unfold cE
 rw[h]
 cases a.num<;>simp[oV,nK]
theorem Ht {a b:Int}:oV a b=0↔a=b:=by
 unfold oV
 constructor
 ·intro h;repeat' split at h
  all_goals omega
 ·intro h;subst h;simp
theorem Hu {a b:ByteArray} (h:BJ a b=0):a=b:=by
 rw[tK]at h
 repeat' split at h
 all_goals first|assumption|omega
theorem A7 {a b:Vl} (ha:cU a=true) (hb:cU b=true) (h:cE a b=0):a=b:=by
 obtain⟨an,ai,at_⟩:=a
 obtain⟨bn,bi,bt_⟩:=b
 cases an<;>cases bn<;>simp[cU,cE]at ha hb h
 ·have:=Hu h
  simp[this,ha.1,hb.1]
 ·have:=Ht.1 h
  simp[this,ha,hb]
theorem toList_inj {a b:ByteArray} (h:a.toList=b.toList):a=b:=by
 have:=toList_eq a b
 rw[h]at this
 simpa using this.symm
theorem Ld {a b:Vl}:cE a b<0↔(a.num=true∧(b.num=false∨a.n<b.n))∨(a.num=false∧b.num=false∧Op.bytesLess a.s.toList b.s.toList=true):=by
 have h:=tK a.s b.s
 unfold cE
 rw[h]
 cases a.num<;>cases b.num<;>simp[oV]
 ·repeat' split
  all_goals simp[*,nK]
 ·repeat' split
  all_goals simp[*]
  all_goals omega
theorem Oi (j:Jn) (l:List Kp) (now:Int) (hl:l.length<100000) (h:v7 j l now=true):
  Fn Tryz.prog 126 [j.pv,ks l,pI now] (.pv (.tup [ks (l.drop (bN j now l)),ks (l.take (bN j now l)),pI 0])) []:=by
 have:=(MG j l now hl h).rowTup (ps:=[ks (l.take (bN j now l)),pI 0]) (by rw[List.length_map,List.length_drop]) rfl
 exact this
def jQ (j:Jn) (now:Int) (x:In):In:=⟨x.key,x.l.drop (bN j now x.l)⟩
def gP (j:Jn) (now:Int) (l:List In):List In:=(l.map (jQ j now)).filter (fun x=>decide (x.l≠[]))
def kE (j:Jn) (now:Int) (l:List In):List Kp:=(l.map fun x=>x.l.take (bN j now x.l)).flatten
structure XRI where
 ins_:List In
 over:List Kp
 ok:Bool
def nZ (j:Jn) (l:List In) (now:Int):XRI:=
 if cJ j l=true∧dW now=true∧l.any (fun x=>dU x.l now)=false then⟨gP j now l,kE j now l,true⟩else⟨[],[],false⟩
theorem EZ {j:Jn} {now:Int} {l:List In} {i:Nat} (h:i<l.length):gP j now (l.take (i+1))=gP j now (l.take i)++if 0<(l[i].l.drop (bN j now l[i].l)).length then[jQ j now l[i]]else[]:=by
 unfold gP
 rw[fB h,nQ h,List.map_append,List.filter_append]
 congr 1
 simp only[List.map_cons,List.map_nil,List.filter_cons,List.filter_nil,jQ,ne_eq,decide_not,Bool.not_eq_true',decide_eq_false_iff_not,List.length_pos_iff]
theorem zU {j:Jn} {now:Int} {l:List In} {i:Nat} (h:i<l.length):kE j now (l.take (i+1))=kE j now (l.take i)++l[i].l.take (bN j now l[i].l):=by
 unfold kE
 rw[fB h,nQ h,List.map_append,List.flatten_append]
 simp
theorem Be (j:Jn) (now:Int) (l:List In):(gP j now l).length≤l.length:=by
 unfold gP
 exact Nat.le_trans (List.length_filter_le _ _) (by simp)
theorem A5 {j:Jn} {now:Int} {l:List In} (hk:∀x∈l,x.l.length<100000):∀i,(kE j now (l.take i)).length≤i*100000
 | 0=>by simp[kE]
 | i+1=>by
  have ih:=A5 (j:=j) (now:=now) hk i
  by_cases h:i<l.length
  ·rw[zU h,List.length_append,List.length_take]
   have:=hk _ (List.getElem_mem h)
   omega
  ·rw[List.take_of_length_le (by omega)]
   rw[List.take_of_length_le (by omega)]at ih
   exact Nat.le_trans ih (Nat.mul_le_mul_right _ (Nat.le_succ i))
theorem oE {j:Jn} {l:List In} (h:cJ j l=true) {x:In} (hx:x∈l):bJ j x.l=true∧x.l≠[]∧cU x.key=true:=by
 simp only[cJ,Bool.and_eq_true,decide_eq_true_eq,List.all_eq_true,List.mem_range]at h
 obtain⟨i,hi,rfl⟩:=List.mem_iff_getElem.1 hx
 have:=h.1.2 i hi
 simp only[s8,Bool.and_eq_true,decide_eq_true_eq,nQ hi]at this
 exact⟨this.2,this.1.2,this.1.1.1⟩
theorem Fg {j:Jn} {l:List In} (h:cJ j l=true):l.length≤40:=by
 simp only[cJ,Bool.and_eq_true,decide_eq_true_eq]at h
 exact h.1.1.2
abbrev XRI.pvE (r:XRI):PV:=.tup [ins r.ins_,ks r.over,pI (eR r.ok)]
theorem Rt (j:Jn) (l:List In) (now:Int) (hl:l.length<100000) (hk:∀x∈l,x.l.length<100000):Fn Tryz.prog 69 [j.pv,ins l,pI now] (.pv (nZ j l now).pvE) []:=by
 refine c69.r [false,false,false] (by simp) ?_
 simp only[go_sem,M69]
 refine aA (by simp only[go_sem]) (by simp only[go_sem]) (Ib j l hl hk) ⟨rfl,trivial⟩ trivial ?_
 simp only[go_sem]
 cases hc:cJ j l with
 | false=>
  simp only[go_sem,eR]
  simp[nZ,hc,eR]
 | true=>
  simp only[go_sem,eR]
  refine⟨fun h=>?_,fun⟨h1,h2⟩=>?_⟩
  ·have:dW now=false:=by
    simp only[dW,decide_eq_false_iff_not];omega
   simp[nZ,this,eR]
  ·have ht:dW now=true:=(uT now).2 (by omega)
   refine aZ (T:=Nat) (fun i=>⟨[(2,.pv (pI now)),(3,.ptr 3 0),(10,.row 2010 0 (gP j now (l.take i)).length),(11,.row 2011 0 (kE j now (l.take i)).length),(29,.pv (ins l)),(30,.pv (pI l.length)),(31,.pv (pI i))],
    [(3,.box [.pv (pS j.kind),.pv (pI j.parts),.pv (pI j.need),.pv (pI j.window)]),(2010,.sl 4 ((gP j now (l.take i)).map In.pv)),(2011,.sl 3 ((kE j now (l.take i)).map Kp.pv))]⟩)
    (fun i=>i≤l.length∧∀m (h:m<l.length),m<i→dU l[m].l now=false) (fun i=>l.length-i) 0 rfl ⟨Nat.zero_le _,fun m _ h=>absurd h (by omega)⟩ ?_
   intro i ⟨hi,hq⟩
   by_cases hlt:i<l.length
   ·have hx:=hk _ (List.getElem_mem hlt)
    have hcx:=(oE hc (List.getElem_mem hlt)).1
    simp only[go_sem,B69_0,iC,lE hlt,nQ hlt,show(i:Int)<(l.length:Int)by omega]
    cases he:dU l[i].l now with
    | true=>
     refine aC (by simp only[go_sem]) rfl (LC j l[i].l now hx (by simp[v7,he])) (.inl rfl) trivial ?_
     simp only[go_sem]
     have:l.any (fun x=>dU x.l now)=true:=List.any_eq_true.2 ⟨_,List.getElem_mem hlt,he⟩
     simp[nZ,this,eR]
    | false=>
     refine aC (by simp only[go_sem]) rfl (Oi j l[i].l now hx (by simp[v7,he,hcx,ht])) (.inl rfl) trivial ?_
     have e1:=EZ (j:=j) (now:=now) hlt
     have e2:=zU (j:=j) (now:=now) hlt
     have l1:=Be j now (l.take i)
     have l2:=A5 (j:=j) (now:=now) hk i
     rw[List.length_take]at l1
     simp only[go_sem,fX]
     simp only[List.length_take,List.length_drop]at*
     have hln:min (bN j now l[i].l) l[i].l.length=bN j now l[i].l:=Nat.min_eq_left (pV _ _ _)
     have hnl:=pV j now l[i].l
     refine⟨⟨by omega,by omega⟩,fun h=>⟨⟨iC [jQ j now l[i]],by omega,by omega⟩,⟨by omega,by omega⟩,i+1,?_,⟨hlt,fun m hm hmi=>?_⟩,by omega⟩,fun h=>⟨⟨by omega,by omega⟩,i+1,?_,⟨hlt,fun m hm hmi=>?_⟩,by omega⟩⟩
     ·rw[if_pos (by omega)]at e1
      rw[e1,e2,bF,bF]
      simp[jQ,hln]
     ·by_cases hmk:m=i
      ·subst hmk;exact he
      ·exact hq m hm (by omega)
     ·rw[if_neg (by omega),List.append_nil]at e1
      rw[e1,e2,bF]
      simp[hln]
     ·by_cases hmk:m=i
      ·subst hmk;exact he
      ·exact hq m hm (by omega)
   ·have hie:i=l.length:=by omega
    subst hie
    simp only[go_sem,B69_0,R69_0,show ¬((l.length:Int)<(l.length:Int))by omega]
    have hno:l.any (fun x=>dU x.l now)=false:=by
     rw[List.any_eq_false]
     intro x hx
     obtain⟨m,hm,rfl⟩:=List.mem_iff_getElem.1 hx
     simp[hq m hm hm]
    rw[bF,bF]
    simp[nZ,hc,ht,hno,eR]
theorem Hp (l:List Kp) (hne:l≠[]) (now:Int):dU l now=decide (now<(l.getD (l.length-1) default).at_):=by
 have:0<l.length:=List.length_pos_iff.2 hne
 simp[dU,this]
theorem JO (a b:Int):oV b a = - oV a b:=by
 unfold oV
 repeat' split
 all_goals omega
theorem JP (a b:ByteArray):BJ b a = - BJ a b:=by
 rw[tK,tK]
 by_cases h:a=b
 ·subst h;simp[nK]
 ·have h':¬b=a:=fun e=>h e.symm
  cases hab:Op.bytesLess a.toList b.toList with
  | true=>simp[DS hab,h,h']
  | false=>
   have:a.toList≠b.toList:=fun e=>h (toList_inj e)
   simp[zG hab this,h,h']
theorem tO (a b:Vl):cE b a = - cE a b:=by
 have h1:=JO a.n b.n
 have h2:=JP a.s b.s
 unfold cE
 cases a.num<;>cases b.num<;>simp[h1,h2]
theorem sM {a b c:Vl} (h:cE a b<0) (k:cE b c<0):cE a c<0:=by
 rw[Ld]at h k ⊢
 rcases h with⟨h1,h2⟩|⟨h1,h2,h3⟩<;>rcases k with⟨k1,k2⟩|⟨k1,k2,k3⟩
 ·rcases h2 with h2|h2
  ·rw[k1]at h2;cases h2
  ·rcases k2 with k2|k2
   ·exact .inl ⟨h1,.inl k2⟩
   ·exact .inl ⟨h1,.inr (by omega)⟩
 ·exact .inl ⟨h1,.inl k2⟩
 ·rw[h2]at k1;cases k1
 ·exact .inr ⟨h1,k2,zE h3 k3⟩
abbrev rP (x y:In):Prop:=cE x.key y.key<0
theorem Ox {l:List In} (h:∀i,i+1<l.length→rP (l.getD i default) (l.getD (i+1) default)):l.Pairwise rP:=by
 have key:∀d i,i+1+d<l.length→rP (l.getD i default) (l.getD (i+1+d) default):=by
  intro d
  induction d with
  | zero=>intro i hi;exact h i hi
  | succ d ih=>intro i hi;exact sM (ih i (by omega)) (h (i+1+d) (by omega))
 rw[List.pairwise_iff_getElem]
 intro i k hi hk hik
 have:=key (k-(i+1)) i (by omega)
 rw[show i+1+(k-(i+1))=k by omega,nQ hi,nQ hk]at this
 exact this
structure GoodI (j:Jn) (l:List In):Prop where
 may:kS j=true
 len:l.length≤40
 ord:l.Pairwise rP
 one:∀x∈l,cU x.key=true∧x.l≠[]∧bJ j x.l=true
 ids:(mM l).Nodup
theorem gN {j:Jn} {l:List In}:cJ j l=true↔GoodI j l:=by
 constructor
 ·intro h
  have h0:=h
  simp only[cJ,Bool.and_eq_true,decide_eq_true_eq,List.all_eq_true,List.mem_range]at h
  refine⟨h.1.1.1,h.1.1.2,Ox fun i hi=>?_,fun x hx=>?_,h.2⟩
  ·have:=h.1.2 (i+1) hi
   simp only[s8,Bool.and_eq_true,Bool.or_eq_true,decide_eq_true_eq,Nat.add_sub_cancel]at this
   rcases this.1.1.2 with h1|h1
   ·omega
   ·exact h1
  ·have:=oE h0 hx
   exact⟨this.2.2,this.2.1,this.1⟩
 ·intro g
  simp only[cJ,Bool.and_eq_true,decide_eq_true_eq,List.all_eq_true,List.mem_range]
  refine⟨⟨⟨g.may,g.len⟩,fun i hi=>?_⟩,g.ids⟩
  have:=g.one _ (List.getElem_mem hi)
  simp only[s8,Bool.and_eq_true,Bool.or_eq_true,decide_eq_true_eq,nQ hi]
  refine⟨⟨⟨this.1,?_⟩,this.2.1⟩,this.2.2⟩
  by_cases h0:i=0
  ·exact .inl h0
  ·right
   rw[nQ (show i-1<l.length by omega)]
   exact List.pairwise_iff_getElem.1 g.ord (i-1) i (by omega) hi (by omega)
theorem rP.ne {x y:In} (h:rP x y):x.key≠y.key:=fun e=>by
 unfold rP at h
 rw[e,jG]at h
 omega
theorem By {x y:In} {key:Vl} (h0:0≤cE x.key key) (hx:cU x.key=true) (hk:cU key=true) (h:rP x y):0<cE y.key key:=by
 have hn:=tO x.key key
 rcases Int.lt_or_eq_of_le h0 with h1|h1
 ·have h2:cE key x.key<0:=by omega
  have:=sM h2 h
  have:=tO key y.key
  omega
 ·have e:=A7 hx hk h1.symm
  unfold rP at h
  rw[e]at h
  have:=tO key y.key
  omega
theorem Ck {x:In} {key:Vl} (hx:cU x.key=true) (hk:cU key=true):x.key=key↔cE x.key key=0:=
 ⟨fun e=>by rw[e];exact jG _,fun h=>A7 hx hk h⟩
theorem qE (key:Vl) (left:List Kp):∀(l:List In) (s:List In),l.foldl (dH key left) (s,true)=(s++l.filter (fun x=>decide (x.key≠key)),true)
 | [],s=>by simp
 | x::l,s=>by
  rw[List.foldl_cons]
  have:dH key left (s,true) x=(s++(if x.key=key then[]else[x]),true):=by simp[dH]
  rw[this,qE key left l]
  by_cases h:x.key=key<;>simp[h]
theorem oC {key:Vl} (hk:cU key=true):∀{l:List In},l.Pairwise rP→(∀x∈l,cU x.key=true)→
  l.filter (fun x=>decide (x.key≠key))=l.filter (fun y=>decide (cE y.key key<0))++l.filter (fun y=>decide (0<cE y.key key))
 | [],_,_=>rfl
 | x::l,hs,hm=>by
  rw[List.pairwise_cons]at hs
  have hx:=hm x (by simp)
  have ih:=oC hk hs.2 (fun y hy=>hm y (List.mem_cons_of_mem _ hy))
  have hki:=Ck hx hk
  by_cases h1:cE x.key key<0
  ·have:¬x.key=key:=fun e=>by have:=hki.1 e;omega
   simp[h1,this,show ¬0<cE x.key key by omega,ih]
   simpa using ih
  ·have hall:∀y∈l,0<cE y.key key:=fun y hy=>By (by omega) hx hk (hs.1 y hy)
   have e1:l.filter (fun y=>decide (cE y.key key<0))=[]:=List.filter_eq_nil_iff.2 fun y hy=>by have:=hall y hy;simp;omega
   have e2:l.filter (fun y=>decide (0<cE y.key key))=l:=List.filter_eq_self.2 fun y hy=>by simpa using hall y hy
   rw[e1,e2,List.nil_append]at ih
   by_cases h2:cE x.key key=0
   ·have:=hki.2 h2
    simp only[List.filter_cons,this,h1,jG]
    simp[e1,e2,ih]
    simpa using ih
   ·have:¬x.key=key:=fun e=>h2 (hki.1 e)
    simp only[List.filter_cons]
    simp[h1,this,show 0<cE x.key key by omega,e1,e2]
    simpa using ih
theorem Bl {key:Vl} {left:List Kp} (hk:cU key=true):∀{l:List In},l.Pairwise rP→(∀x∈l,cU x.key=true)→∀s:List In,
  (l.foldl (dH key left) (s,false)).1++(if(l.foldl (dH key left) (s,false)).2=false then[⟨key,left⟩]else[])=
   s++(l.filter (fun y=>decide (cE y.key key<0))++[⟨key,left⟩]++l.filter (fun y=>decide (0<cE y.key key)))
 | [],_,_,s=>by simp
 | x::l,hs,hm,s=>by
  rw[List.pairwise_cons]at hs
  have hx:=hm x (by simp)
  have ih:=Bl (left:=left) hk hs.2 (fun y hy=>hm y (List.mem_cons_of_mem _ hy))
  have hki:=Ck hx hk
  rw[List.foldl_cons]
  by_cases h1:cE x.key key<0
  ·have hne:¬x.key=key:=fun e=>by have:=hki.1 e;omega
   have:dH key left (s,false) x=(s++[x],false):=by simp[dH,hne,show ¬0≤cE x.key key by omega]
   rw[this,ih]
   simp[h1,show ¬0<cE x.key key by omega]
  ·have hall:∀y∈l,0<cE y.key key:=fun y hy=>By (by omega) hx hk (hs.1 y hy)
   have e1:l.filter (fun y=>decide (cE y.key key<0))=[]:=List.filter_eq_nil_iff.2 fun y hy=>by have:=hall y hy;simp;omega
   have e2:l.filter (fun y=>decide (0<cE y.key key))=l:=List.filter_eq_self.2 fun y hy=>by simpa using hall y hy
   have e3:l.filter (fun x=>decide (x.key≠key))=l:=List.filter_eq_self.2 fun y hy=>by
    have:=hall y hy
    simp only[decide_eq_true_eq,ne_eq]
    intro e
    rw[e,jG]at this
    omega
   have:dH key left (s,false) x=(s++[⟨key,left⟩]++(if x.key=key then[]else[x]),true):=by simp[dH,show 0≤cE x.key key by omega]
   rw[this,qE,e3]
   by_cases h2:cE x.key key=0
   ·have:=hki.2 h2
    simp[this,jG,e1,e2]
   ·have hne:¬x.key=key:=fun e=>h2 (hki.1 e)
    simp[h1,hne,show 0<cE x.key key by omega,e1,e2]
theorem IG {l:List In} {key:Vl} {left:List Kp} (hk:cU key=true) (hs:l.Pairwise rP) (hm:∀x∈l,cU x.key=true):AI l key left=oN l key left:=by
 unfold AI e9 oN
 rw[List.take_length]
 by_cases h:left=[]
 ·subst h
  simp only[decide_true,if_true]
  rw[qE]
  simp only[List.nil_append,Bool.true_eq_false,if_false,List.append_nil]
  exact oC hk hs hm
 ·simp only[h,decide_false,if_false]
  rw[Bl hk hs hm,List.nil_append]
theorem y1 (l:List In) (n:Int):oU (eB l) n=l.any (fun y=>oU y.l n):=by
 unfold oU eB
 induction l with
 | nil=>rfl
 | cons a l ih=>simp only[List.map_cons,List.flatten_cons,List.any_append,ih,List.any_cons]
theorem DX (a:In) (l:List In) (key:Vl):cW (a::l) key=if a.key=key then a.l else cW l key:=by
 unfold cW kX gZ
 by_cases h:a.key=key
 ·simp[h,List.findIdx_cons]
 ·simp only[List.any_cons,h,decide_false,Bool.false_or,List.findIdx_cons,cond_false,if_false]
  cases hh:l.any (fun x=>decide (x.key=key))with
  | false=>simp
  | true=>
   simp only[if_true]
   rw[if_pos (by omega),if_pos (by omega)]
   simp
theorem EG (key:Vl):cW [] key=[]:=rfl
theorem JF {key:Vl} {l:List In}:kX l key<0↔∀x∈l,x.key≠key:=by
 unfold kX gZ
 constructor
 ·intro h x hx e
  have:l.any (fun x=>decide (x.key=key))=true:=List.any_eq_true.2 ⟨x,hx,by simpa using e⟩
  rw[this]at h
  simp only[if_true]at h
  omega
 ·intro h
  have:l.any (fun x=>decide (x.key=key))=false:=by
   rw[List.any_eq_false]
   intro x hx
   simpa using h x hx
  rw[this]
  simp
theorem qJ (l m:List In):eB (l++m)=eB l++eB m:=by simp[eB]
theorem nL (a:In) (l:List In):eB (a::l)=a.l++eB l:=by simp[eB]
theorem DU:eB []=[]:=rfl
theorem Bx {key:Vl}:∀{l:List In},l.Pairwise rP→(eB l).Perm (cW l key++eB (l.filter (fun x=>decide (x.key≠key))))
 | [],_=>by simp[EG,DU]
 | a::l,hs=>by
  rw[List.pairwise_cons]at hs
  rw[nL,DX]
  by_cases h:a.key=key
  ·have:l.filter (fun x=>decide (x.key≠key))=l:=List.filter_eq_self.2 fun y hy=>by
    have:=(hs.1 y hy).ne
    rw[h]at this
    simpa using Ne.symm this
   simp only[h,if_true,List.filter_cons,ne_eq,not_true_eq_false,decide_false,Bool.false_eq_true,if_false]
   have e:l.filter (fun x=>decide (¬x.key=key))=l:=this
   rw[e]
  ·rw[if_neg h,List.filter_cons,if_pos (by simpa using h),nL]
   have ih:=Bx (key:=key) hs.2
   exact((List.Perm.refl a.l).append ih).trans (by
    rw[←List.append_assoc,←List.append_assoc]
    exact List.Perm.append_right _ List.perm_append_comm)
theorem GY {l:List In} {key:Vl} {left:List Kp} (hk:cU key=true) (hm:∀x∈l,cU x.key=true) {y:In}:y∈oN l key left↔(y∈l∧y.key≠key)∨(left≠[]∧y=⟨key,left⟩):=by
 unfold oN
 simp only[List.mem_append,List.mem_filter,decide_eq_true_eq]
 constructor
 ·rintro((⟨h1,h2⟩|h)|⟨h1,h2⟩)
  ·exact .inl ⟨h1,fun e=>by rw[e,jG]at h2;omega⟩
  ·split at h
   ·cases h
   ·rename_i hn
    exact .inr ⟨hn,by simpa using h⟩
  ·exact .inl ⟨h1,fun e=>by rw[e,jG]at h2;omega⟩
 ·rintro(⟨h1,h2⟩|⟨h1,rfl⟩)
  ·have:=Ck (hm y h1) hk
   have hne:cE y.key key≠0:=fun e=>h2 (this.2 e)
   by_cases h3:cE y.key key<0
   ·exact .inl (.inl ⟨h1,h3⟩)
   ·exact .inr ⟨h1,by omega⟩
  ·rw[if_neg h1]
   exact .inl (.inr (by simp))
theorem Gl {l:List In} {key:Vl} {left:List Kp} (hs:l.Pairwise rP):(oN l key left).Pairwise rP:=by
 unfold oN
 rw[List.pairwise_append,List.pairwise_append]
 refine⟨⟨hs.filter _,by split<;>simp,fun x hx y hy=>?_⟩,hs.filter _,fun x hx y hy=>?_⟩
 ·simp only[List.mem_filter,decide_eq_true_eq]at hx
  split at hy
  ·cases hy
  ·simp only[List.mem_cons,List.not_mem_nil,or_false]at hy
   subst hy
   exact hx.2
 ·simp only[List.mem_filter,decide_eq_true_eq]at hy
  have hn:=tO key y.key
  have hky:cE key y.key<0:=by omega
  rcases List.mem_append.1 hx with hx|hx
  ·simp only[List.mem_filter,decide_eq_true_eq]at hx
   exact sM hx.2 hky
  ·split at hx
   ·cases hx
   ·simp only[List.mem_cons,List.not_mem_nil,or_false]at hx
    subst hx
    exact hky
theorem Fj {l:List In} {key:Vl} {left:List Kp} (hk:cU key=true) (hs:l.Pairwise rP) (hm:∀x∈l,cU x.key=true):
  (eB (oN l key left)).Perm (left++eB (l.filter (fun x=>decide (x.key≠key)))):=by
 rw[oC hk hs hm]
 unfold oN
 rw[qJ,qJ,qJ]
 have:eB (if left=[]then[]else[⟨key,left⟩])=left:=by
  split
  ·rename_i h;rw[h];rfl
  ·simp[nL,DU]
 rw[this,←List.append_assoc]
 exact List.Perm.append_right _ List.perm_append_comm
structure FedI (j:Jn) (l:List In) (key:Vl) (x:Kp):Prop where
 good:GoodI j l
 mayK:cU key=true
 ids:oU (eB l) x.id=false
 err:(bB j (cW l key) x).err=0
 room:¬(kX l key<0∧0<(bB j (cW l key) x).left.length∧40≤l.length)
theorem y6 {j:Jn} {l:List In} {key:Vl} {x:Kp}:(hZ j l key x).err=0↔FedI j l key x:=by
 constructor
 ·intro h
  unfold hZ at h
  repeat' split at h
  all_goals first|(simp[kB]at h;done)|skip
  ·rename_i h1 h2 h3 h4
   simp only[kB]at h
   exact absurd h h4
  ·rename_i h1 h2 h3 h4 h5
   exact⟨gN.1 (by simpa using h1),by simpa using h2,by rw[y1];simpa using h3,by simpa using h4,h5⟩
 ·intro g
  unfold hZ
  rw[if_neg (by rw[gN.2 g.good];simp),if_neg (by rw[g.mayK];simp),if_neg (by rw[←y1,g.ids];simp),if_neg (by simp[g.err]),if_neg g.room]
theorem tY {j:Jn} {l:List In} {key:Vl} {x:Kp} (g:FedI j l key x):
  hZ j l key x=⟨oN l key (bB j (cW l key) x).left,(bB j (cW l key) x).fired,(bB j (cW l key) x).over,0⟩:=by
 unfold hZ
 rw[if_neg (by rw[gN.2 g.good];simp),if_neg (by rw[g.mayK];simp),if_neg (by rw[←y1,g.ids];simp),if_neg (by simp[g.err]),if_neg g.room,
  IG g.mayK g.good.ord fun x hx=>(g.good.one x hx).1]
theorem FedI.perm {j:Jn} {l:List In} {key:Vl} {x:Kp} (g:FedI j l key x):
  (eB l++[x]).Perm ((hZ j l key x).over++((hZ j l key x).fired++eB (hZ j l key x).ins_)):=by
 rw[tY g]
 have h1:=Bx (key:=key) g.good.ord
 have h2:=Fj (left:=(bB j (cW l key) x).left) g.mayK g.good.ord fun x hx=>(g.good.one x hx).1
 have h3:=Bp g.err
 generalize bB j (cW l key) x=r at*
 generalize eB (l.filter (fun x=>decide (x.key≠key)))=z at*
 have h4:(eB l++[x]).Perm ((cW l key++[x])++z):=by
  refine(h1.append_right [x]).trans ?_
  rw[List.append_assoc,List.append_assoc]
  exact List.Perm.append_left _ List.perm_append_comm
 refine h4.trans ((h3.append_right z).trans ?_)
 simp only[List.append_assoc]
 exact List.Perm.append_left _ (List.Perm.append_left _ h2.symm)
theorem FedI.len {j:Jn} {l:List In} {key:Vl} {x:Kp} (g:FedI j l key x):(hZ j l key x).ins_.length≤40:=by
 rw[tY g]
 have hr:=g.room
 have hg:=g.good
 have hs:=oC g.mayK hg.ord fun x hx=>(hg.one x hx).1
 have hl:=congrArg List.length hs
 rw[List.length_append]at hl
 generalize bB j (cW l key) x=r at*
 have hw:(oN l key r.left).length=(l.filter (fun x=>decide (x.key≠key))).length+(if r.left=[]then 0 else 1):=by
  rw[hl]
  unfold oN
  rw[List.length_append,List.length_append]
  split<;>simp<;>omega
 show(oN l key r.left).length≤40
 have hle:=List.length_filter_le (fun x:In=>decide (x.key≠key)) l
 have:=hg.len
 by_cases hn:r.left=[]
 ·rw[hw,if_pos hn];omega
 ·rw[hw,if_neg hn]
  by_cases hf:kX l key<0
  ·have:0<r.left.length:=List.length_pos_iff.2 hn
   have:¬40≤l.length:=fun h=>hr ⟨hf,this,h⟩
   omega
  ·have:∃y∈l,y.key=key:=Classical.byContradiction fun h=>hf (JF.2 fun y hy e=>h ⟨y,hy,e⟩)
   obtain⟨y,hy,e⟩:=this
   have:(l.filter (fun x:In=>decide (x.key≠key))).length<l.length:=List.length_filter_lt_length_iff_exists.2 ⟨y,hy,by simp[e]⟩
   omega
theorem FedI.next {j:Jn} {l:List In} {key:Vl} {x:Kp} (g:FedI j l key x):GoodI j (hZ j l key x).ins_:=by
 have hp:=g.perm
 have hl:=g.len
 have hi:=tY g
 have hck:=E8 g.err
 refine⟨g.good.may,hl,?_,?_,?_⟩
 ·rw[hi];exact Gl g.good.ord
 ·intro y hy
  rw[hi]at hy
  rcases(GY g.mayK fun x hx=>(g.good.one x hx).1).1 hy with⟨h1,_⟩|⟨h1,rfl⟩
  ·exact g.good.one y h1
  ·exact⟨g.mayK,h1,hck⟩
 ·have h1:((eB l++[x]).map (·.id)).Nodup:=by
   rw[List.map_append,List.map_singleton,sN]
   refine⟨g.good.ids,fun hm=>?_⟩
   have hn:=g.ids
   unfold oU at hn
   rw[List.any_eq_false]at hn
   obtain⟨k,hk,e⟩:=List.mem_map.1 hm
   have:=hn k hk
   simp at this
   exact this e
  have h2:=(hp.map (·.id)).nodup_iff.1 h1
  rw[List.map_append,List.map_append]at h2
  exact((List.nodup_append.1 (List.nodup_append.1 h2).2.1).2.1)
end Go.Vc

namespace Go.Vc
open Go.Proofs
set_option maxRecDepth 100000
def M72:MC:=(.seq (.reg [vI 2 0,vI 3 1,bI 4 false] [] [2,3] [2,3]) (.seq (.reg [fI 5 3 10,lJ 6 5 1,oJ 7 .geq 6 0,mi 8 7,gT 9 8 (.fa (.t 3) 10),gT 10 8 (.ld (.t 9) 1 false),gT 11 8 (.bin .lss (.t 10) (ic 3)),qi 12 (.pick (.t 8) (.t 11) (.c (.bool false))),mi 13 12,gT 14 13 (.fa (.t 3) 0),gT 15 13 (.ld (.t 14) 8 true),⟨some 16,some (13,true),.call (.f 35) [.t 15]⟩,qi 17 (.pick (.t 13) (.t 16) (.c (.bool false))),mi 18 17,gT 19 18 (.fa (.t 3) 8),gT 20 18 (.ld (.t 19) 1 false),gT 21 18 (.fa (.t 2) 1),gT 22 18 (.ld (.t 21) 1 false),⟨some 23,some (18,true),.call (.f 129) [.t 20,.t 22]⟩,qi 24 (.pick (.t 18) (.t 23) (.c (.bool false))),mi 25 24,gT 26 25 (.ld (.t 3) 15 true),⟨some 27,some (25,true),.call (.f 130) [.t 26]⟩,qi 28 (.pick (.t 25) (.t 27) (.c (.bool false))),mi 29 28,gT 30 29 (.ld (.t 3) 15 true),gT 31 29 (.fa (.t 2) 0),gT 32 29 (.ld (.t 31) 1 false),⟨some 33,some (29,true),.call (.f 131) [.t 30,.t 32]⟩,qi 34 (.pick (.t 29) (.t 33) (.c (.bool false))),mi 4 34] [] [4] [1016,1023,1027,1033]) .ret))
theorem c72:Cd 72 35 [RV.tmp 4] M72:=cO [] (rn [] [] 2 M72) Tryz.func72 (by kernel_rfl) Tryz.ntmps72
def B22_0:MC:=(.seq (.reg [oI 13 .lss 12 11] [] [1,10,11,12,13] [1]) (.seq (.cond (.t 13) .skip (.exit 0)) (.seq (.block 1 (.seq (.reg [mi 14 12,qi 15 (.ia (.t 10) (.t 12) 15),lI 16 15 15,aI 4 [.pv (.sc (.string ⟨#[]⟩)),.e0,.e0,.pv (.sc (.string ⟨#[]⟩)),.pv (.sc (.string ⟨#[]⟩)),.pv (.sc (.int .i64 0)),.pv (.sc (.int .i64 0)),.pv (.sc (.int .i64 0)),.e0,.e0,.pv (.sc (.int .i64 0)),.pv (.sc (.int .i64 0)),.pv (.sc (.int .i64 0)),.pv (.sc (.int .i64 0)),.pv (.sc (.int .i64 0))],mi 3 14,⟨none,none,.st (.t 4) (.t 16) 15⟩] [] [1,3,4,10,11,12] [1,4]) (.seq (.reg [lI 17 1 8,lI 18 4 15,cI 19 72 [.t 17,.t 18],qi 20 (.not (.t 19)),mi 21 20,gF 22 21 (.mv (.t 3)),gF 23 21 (.bin .gtr (.t 22) (ic 0)),gF 24 21 (.mv (.t 23)),gT 25 24 (.fa (.t 1) 3),gT 26 24 (.ld (.t 25) 1 false),gT 27 24 (.mv (.t 3)),gT 28 24 (.bin .sub (.t 27) (ic 1)),gT 29 24 (.ia (.t 26) (.t 28) 15),gT 30 24 (.fa (.t 29) 0),gT 31 24 (.fa (.t 30) 0),gT 32 24 (.ld (.t 31) 1 false),gT 33 24 (.fa (.t 4) 0),gT 34 24 (.fa (.t 33) 0),gT 35 24 (.ld (.t 34) 1 false),gT 36 24 (.bin .geq (.t 32) (.t 35)),gF 37 21 (.pick (.t 24) (.t 36) (.c (.bool false))),qi 38 (.pick (.t 21) (.c (.bool true)) (.t 37))] [] [1,10,11,12,38] [1,1019]) (.cond (.t 38) (.seq (.reg [bI 2 false] [] [2] []) .ret) .skip)))) (.reg [oJ 39 .add 12 1,mi 12 39] [] [1,10,11,12] [1]))))
def R22_0:MC:=(.seq (.reg [bI 2 true] [] [2] []) .ret)
def M22:MC:=(.seq (.reg [vI 1 0,bI 2 false] [] [1] [1]) (.seq (.seq (.reg [fI 5 1 3,lJ 6 5 1,nI 7 6 false,oJ 8 .gtr 7 8] [] [1,8] [1]) (.cond (.t 8) (.seq (.reg [bI 2 false] [] [2] []) .ret) .skip)) (.seq (.seq (.reg [fI 9 1 3,lJ 10 9 1,nI 11 10 false,kI 12 0] [] [1,10,11,12] [1]) (.block 0 (.loop B22_0))) R22_0)))
theorem c22:Cd 22 40 [RV.tmp 2] M22:=cO [] (rn [] [(6,[(0,4194301),(1,4194302),(2,0),(3,4194296),(4,4194288),(5,4194272),(6,4194240),(7,4194176),(8,3732224),(9,3731968),(10,3734528),(11,3733504),(12,3731456),(13,3727360),(14,3719168),(15,3702784),(16,4128768),(17,4063232),(18,3932160),(19,3670016),(20,3145728),(21,2097152)],4194303)] 10 M22) Tryz.func22 (by kernel_rfl) Tryz.ntmps22
def B23_0:MC:=(.seq (.reg [oJ 30 .lss 29 2] [] [1,28,29,30] [1]) (.seq (.cond (.t 30) .skip (.exit 0)) (.seq (.block 1 (.seq (.reg [qi 31 (.idxa (.t 28) (.t 29) 2),mi 4 31] [] [1,4,28,29] [1]) (.seq (.reg [mi 32 4,nI 33 32 false,oJ 34 .gtr 33 0,mi 35 34,gT 36 35 (.mv (.t 4)),gT 37 35 (.mv (.t 4)),gT 38 35 (.len (.t 37) false),gT 39 35 (.bin .sub (.t 38) (ic 1)),gT 40 35 (.ia (.t 36) (.t 39) 5),gT 41 35 (.fa (.t 40) 0),gT 42 35 (.ld (.t 41) 1 false),gT 43 35 (.fa (.t 1) 4),gT 44 35 (.ld (.t 43) 1 false),gT 45 35 (.conv .u64 (.t 44)),gT 46 35 (.bin .gtr (.t 42) (.t 45)),qi 47 (.pick (.t 35) (.t 46) (.c (.bool false)))] [] [1,28,29,47] [1]) (.cond (.t 47) (.seq (.reg [bI 2 false] [] [2] []) .ret) .skip)))) (.reg [oJ 48 .add 29 1,mi 29 48] [] [1,28,29] [1]))))
def B23_1:MC:=(.seq (.seq (.reg [mi 49 5,fI 50 1 5,lJ 51 50 1,nI 52 51 false,oI 53 .lss 49 52,mi 54 53,gT 55 54 (.mv (.t 6)),gT 56 54 (.fa (.t 1) 6),gT 57 54 (.ld (.t 56) 1 false),gT 58 54 (.len (.t 57) false),gT 59 54 (.bin .lss (.t 55) (.t 58)),qi 60 (.pick (.t 54) (.t 59) (.c (.bool false)))] [] [1,5,6,60] [1]) (.cond (.t 60) .skip (.exit 2))) (.block 3 (.seq (.reg [fI 61 1 5,lJ 62 61 1,mi 63 5,qi 64 (.ia (.t 62) (.t 63) 5),fI 65 64 0,lJ 66 65 1,fI 67 1 6,lJ 68 67 1,mi 69 6,qi 70 (.ia (.t 68) (.t 69) 5),fI 71 70 0,lJ 72 71 1,mi 7 66,mi 8 72] [] [1,5,6,7,8] [1]) (.block 4 (.seq (.reg [mi 76 7,mi 77 8,oI 78 .eql 76 77,mi 75 78] [] [1,5,6,7,8,75] [1]) (.cond (.t 75) (.seq (.reg [bI 2 false] [] [2] []) .ret) (.seq (.reg [mi 80 7,mi 81 8,oI 82 .lss 80 81,mi 79 82] [] [1,5,6,79] [1]) (.cond (.t 79) (.reg [mi 83 5,oJ 84 .add 83 1,mi 5 84] [] [1,5,6] [1]) (.reg [mi 73 6,oJ 74 .add 73 1,mi 6 74] [] [1,5,6] [1])))))))))
def R23_1:MC:=(.seq (.reg [bI 2 true] [] [2] []) .ret)
def R23_0:MC:=(.seq (.reg [kI 5 0,kI 6 0] [] [1,5,6] [1]) (.seq (.block 2 (.loop B23_1)) R23_1))
def M23:MC:=(.seq (.reg [vI 1 0,bI 2 false] [] [1] [1]) (.seq (.seq (.reg [fI 9 1 4,lJ 10 9 1,oJ 11 .lss 10 0,mi 12 11,gF 13 12 (.fa (.t 1) 5),gF 14 12 (.ld (.t 13) 1 false),⟨some 15,some (12,false),.call (.f 73) [.t 14]⟩,gF 16 12 (.bin .neq (.t 15) (ic 0)),qi 17 (.pick (.t 12) (.c (.bool true)) (.t 16)),mi 18 17,gF 19 18 (.fa (.t 1) 6),gF 20 18 (.ld (.t 19) 1 false),⟨some 21,some (18,false),.call (.f 73) [.t 20]⟩,gF 22 18 (.bin .neq (.t 21) (ic 0)),qi 23 (.pick (.t 18) (.c (.bool true)) (.t 22))] [] [1,23] [1,1015,1021]) (.cond (.t 23) (.seq (.reg [bI 2 false] [] [2] []) .ret) .skip)) (.seq (.seq (.reg [fI 24 1 5,lJ 25 24 1,fI 26 1 6,lJ 27 26 1,qi 28 (.mk [.e0,.e0] [(0,1,(.t 25)),(1,1,(.t 27))]),kI 29 0] [] [1,28,29] [1]) (.block 0 (.loop B23_0))) R23_0)))
theorem c23:Cd 23 85 [RV.tmp 2] M23:=cO [] (rz [] [(6,[(0,65535),(1,65534),(2,65532),(3,65528),(4,50960),(5,51168),(6,51136),(7,51072),(8,50944),(9,50688),(10,50176),(11,63488),(12,61440),(13,57344),(14,49152),(15,32768)],65535),(11,[(0,12347),(1,12346),(2,12348),(3,12344),(4,12336),(5,12320),(6,11968),(7,11904),(8,12032),(9,11776),(10,11264),(11,10240),(12,12288),(13,8192)],16383)] [0,1,2,3,4,5,6,7,8,9,10,11,9,12,2,14,16,17] M23) Tryz.func23 (by kernel_rfl) Tryz.ntmps23
def B24_0:MC:=(.seq (.reg [oI 16 .lss 15 14] [] [1,13,14,15,16] [1]) (.seq (.cond (.t 16) .skip (.exit 0)) (.seq (.block 1 (.seq (.reg [qi 17 (.ia (.t 13) (.t 15) 2),lI 18 17 2,aI 4 [.pv (.sc (.string ⟨#[]⟩)),.pv (.sc (.string ⟨#[]⟩))],⟨none,none,.st (.t 4) (.t 18) 2⟩] [] [1,4,13,14,15] [1,4]) (.seq (.reg [fI 20 4 1,lJ 21 20 1,cI 22 31 [.t 21],mi 19 22,xI 23 19 0,xI 24 19 1,xI 25 19 2,aI 5 [.pv (.sc (.string ⟨#[]⟩)),.pv (.sc (.string ⟨#[]⟩)),.pv (.sc (.int .u64 0)),.e0],⟨none,none,.st (.t 5) (.t 23) 4⟩,mi 6 24,mi 7 25] [] [1,4,6,7,13,14,15] [1,4,1022]) (.seq (.reg [mi 26 7,oJ 27 .neq 26 0,mi 28 27,gF 29 28 (.mv (.t 6)),gF 30 28 (.fa (.t 4) 1),gF 31 28 (.ld (.t 30) 1 false),gF 32 28 (.len (.t 31) true),gF 33 28 (.bin .neq (.t 29) (.t 32)),qi 34 (.pick (.t 28) (.c (.bool true)) (.t 33)),mi 35 34,gF 36 35 (.fa (.t 1) 3),gF 37 35 (.ld (.t 36) 1 false),gF 38 35 (.fa (.t 4) 0),gF 39 35 (.ld (.t 38) 1 false),⟨some 40,some (35,false),.call (.f 74) [.t 37,.t 39]⟩,gF 41 35 (.bin .lss (.t 40) (ic 0)),qi 42 (.pick (.t 35) (.c (.bool true)) (.t 41))] [] [1,13,14,15,42] [1,1022,1040]) (.cond (.t 42) (.seq (.reg [bI 2 false] [] [2] []) .ret) .skip))))) (.reg [oJ 43 .add 15 1,mi 15 43] [] [1,13,14,15] [1]))))
def R24_0:MC:=(.seq (.reg [bI 2 true] [] [2] []) .ret)
def M24:MC:=(.seq (.reg [vI 1 0,bI 2 false] [] [1] [1]) (.seq (.seq (.reg [fI 8 1 7,lJ 9 8 1,nI 10 9 false,oJ 11 .gtr 10 40] [] [1,11] [1]) (.cond (.t 11) (.seq (.reg [bI 2 false] [] [2] []) .ret) .skip)) (.seq (.seq (.reg [fI 12 1 7,lJ 13 12 1,nI 14 13 false,kI 15 0] [] [1,13,14,15] [1]) (.block 0 (.loop B24_0))) R24_0)))
theorem c24:Cd 24 44 [RV.tmp 2] M24:=cO [] (rn [] [] 11 M24) Tryz.func24 (by kernel_rfl) Tryz.ntmps24
def B129_0:MC:=(.seq (.reg [oI 15 .lss 14 13] [] [1,12,13,14,15] []) (.seq (.cond (.t 15) .skip (.exit 0)) (.seq (.block 1 (.seq (.reg [qi 16 (.ia (.t 12) (.t 14) 2),lI 17 16 2,aI 6 [.pv (.sc (.string ⟨#[]⟩)),.pv (.sc (.int .i64 0))],⟨none,none,.st (.t 6) (.t 17) 2⟩] [] [1,6,12,13,14] [6]) (.seq (.reg [mi 19 1,fI 20 6 0,lJ 21 20 1,cI 22 48 [.t 19,.t 21],mi 18 22,xI 23 18 0,xI 24 18 1,mi 7 23,mi 8 24] [] [1,6,7,8,12,13,14] [6,1022]) (.seq (.reg [mi 25 8,qi 26 (.not (.t 25)),mi 27 26,gF 28 27 (.fa (.t 6) 1),gF 29 27 (.ld (.t 28) 1 false),gF 30 27 (.mv (.t 1)),gF 31 27 (.mv (.t 7)),gF 32 27 (.ia (.t 30) (.t 31) 3),gF 33 27 (.ld (.t 32) 3 true),⟨some 34,some (27,false),.call (.f 123) [.t 33]⟩,gF 35 27 (.bin .gtr (.t 29) (.t 34)),qi 36 (.pick (.t 27) (.c (.bool true)) (.t 35))] [] [1,12,13,14,36] [1022,1034]) (.cond (.t 36) (.seq (.reg [bI 4 false] [] [4] []) .ret) .skip))))) (.reg [oJ 37 .add 14 1,mi 14 37] [] [1,12,13,14] []))))
def R129_0:MC:=(.seq (.reg [bI 4 true] [] [4] []) .ret)
def M129:MC:=(.seq (.reg [bI 4 false] [] [0,1] []) (.seq (.seq (.reg [mi 9 0,cI 10 103 [.t 9],oJ 11 .neq 10 0] [] [0,1,11] [1010]) (.cond (.t 11) (.seq (.reg [bI 4 false] [] [4] []) .ret) .skip)) (.seq (.seq (.reg [mi 12 0,nI 13 12 false,kI 14 0] [] [1,12,13,14] []) (.block 0 (.loop B129_0))) R129_0)))
theorem c129:Cd 129 38 [RV.tmp 4] M129:=cO [] (rn [] [(7,[(0,4095),(1,4094),(2,4092),(3,3096),(4,3088),(5,4000),(6,4032),(7,3968),(8,3840),(9,0),(10,3072),(11,2048)],4095)] 11 M129) Tryz.func129 (by kernel_rfl) Tryz.ntmps129
def M130:MC:=(.seq (.reg [vI 1 0,bI 2 false] [] [1] [1]) (.seq (.seq (.reg [fI 4 1 11,lJ 5 4 1,oJ 6 .lss 5 0,mi 7 6,gF 8 7 (.fa (.t 1) 12),gF 9 7 (.ld (.t 8) 1 false),gF 10 7 (.bin .lss (.t 9) (ic 0)),qi 11 (.pick (.t 7) (.c (.bool true)) (.t 10)),mi 12 11,gF 13 12 (.fa (.t 1) 13),gF 14 12 (.ld (.t 13) 1 false),gF 15 12 (.bin .lss (.t 14) (ic 0)),qi 16 (.pick (.t 12) (.c (.bool true)) (.t 15)),mi 17 16,gF 18 17 (.fa (.t 1) 14),gF 19 17 (.ld (.t 18) 1 false),gF 20 17 (.bin .lss (.t 19) (ic 0)),qi 21 (.pick (.t 17) (.c (.bool true)) (.t 20)),mi 22 21,gF 23 22 (.fa (.t 1) 13),gF 24 22 (.ld (.t 23) 1 false),gF 25 22 (.fa (.t 1) 11),gF 26 22 (.ld (.t 25) 1 false),gF 27 22 (.bin .gtr (.t 24) (.t 26)),qi 28 (.pick (.t 22) (.c (.bool true)) (.t 27))] [] [1,28] [1]) (.cond (.t 28) (.seq (.reg [bI 2 false] [] [2] [1045]) .ret) .skip)) (.seq (.reg [fI 29 1 11,lJ 30 29 1,fI 31 1 13,lJ 32 31 1,oI 33 .sub 30 32,mi 3 33] [] [1,3] [1]) (.seq (.reg [fI 34 1 14,lJ 35 34 1,mi 36 3,oI 37 .leq 35 36,mi 38 37,gT 39 38 (.mv (.t 3)),gT 40 38 (.fa (.t 1) 14),gT 41 38 (.ld (.t 40) 1 false),gT 42 38 (.bin .sub (.t 39) (.t 41)),gT 43 38 (.fa (.t 1) 9),gT 44 38 (.ld (.t 43) 1 false),⟨some 45,some (38,true),.call (.f 178) [.t 44]⟩,gT 46 38 (.bin .eql (.t 42) (.t 45)),qi 47 (.pick (.t 38) (.t 46) (.c (.bool false))),mi 2 47] [] [2] [1045]) .ret))))
theorem c130:Cd 130 48 [RV.tmp 2] M130:=cO [] (rn [] [(4,[(0,32763),(1,32762),(2,32764),(3,32760),(4,32752),(5,28960),(6,29120),(7,29056),(8,28928),(9,32256),(10,31744),(11,0),(12,28672),(13,24576),(14,16384)],32767)] 5 M130) Tryz.func130 (by kernel_rfl) Tryz.ntmps130
def B131_1:MC:=(.seq (.reg [oI 27 .lss 26 25] [] [1,2,17,18,19,24,25,26,27] [2]) (.seq (.cond (.t 27) .skip (.exit 2)) (.seq (.block 3 (.seq (.reg [qi 28 (.ia (.t 24) (.t 26) 3),lI 29 28 3,aI 8 [.pv (.sc (.int .i64 0)),.pv (.sc (.int .u64 0)),.pv (.sc (.int .i64 0))],⟨none,none,.st (.t 8) (.t 29) 3⟩] [] [1,2,8,17,18,19,24,25,26] [2,8]) (.seq (.reg [fI 30 8 1,lJ 31 30 1,qi 32 (.bin .lss (.t 31) (.c (.int .u64 1))),mi 33 32,gF 34 33 (.fa (.t 8) 1),gF 35 33 (.ld (.t 34) 1 false),gF 36 33 (.fa (.t 2) 11),gF 37 33 (.ld (.t 36) 1 false),gF 38 33 (.conv .u64 (.t 37)),gF 39 33 (.bin .gtr (.t 35) (.t 38)),qi 40 (.pick (.t 33) (.c (.bool true)) (.t 39)),mi 41 40,gF 42 41 (.fa (.t 8) 2),gF 43 41 (.ld (.t 42) 1 false),gF 44 41 (.mv (.t 1)),gF 45 41 (.bin .gtr (.t 43) (.t 44)),qi 46 (.pick (.t 41) (.c (.bool true)) (.t 45))] [] [1,2,17,18,19,24,25,26,46] [2]) (.cond (.t 46) (.seq (.reg [bI 4 false] [] [4] []) .ret) .skip)))) (.reg [oJ 47 .add 26 1,mi 26 47] [] [1,2,17,18,19,24,25,26] [2]))))
def B131_0:MC:=(.seq (.reg [oI 20 .lss 19 18] [] [1,2,17,18,19,20] [2]) (.seq (.cond (.t 20) .skip (.exit 0)) (.seq (.block 1 (.seq (.reg [qi 21 (.ia (.t 17) (.t 19) 4),lI 22 21 4,aI 6 [.pv (.sc (.bool false)),.pv (.sc (.int .i64 0)),.pv (.sc (.string ⟨#[]⟩)),.e0],⟨none,none,.st (.t 6) (.t 22) 4⟩] [] [1,2,6,17,18,19] [2,6]) (.seq (.reg [fI 23 6 3,lJ 24 23 1,nI 25 24 false,kI 26 0] [] [1,2,17,18,19,24,25,26] [2]) (.block 2 (.loop B131_1))))) (.reg [oJ 48 .add 19 1,mi 19 48] [] [1,2,17,18,19] [2]))))
def R131_0:MC:=(.seq (.reg [bI 4 true] [] [4] []) .ret)
def M131:MC:=(.seq (.reg [vI 2 0,bI 4 false] [] [1,2] [2]) (.seq (.seq (.reg [fI 9 2 0,fI 10 9 4,lI 11 10 4,fI 12 2 9,lJ 13 12 1,cI 14 125 [.t 11,.t 13],oJ 15 .neq 14 0] [] [1,2,15] [2,1014]) (.cond (.t 15) (.seq (.reg [bI 4 false] [] [4] []) .ret) .skip)) (.seq (.seq (.reg [fI 16 2 9,lJ 17 16 1,nI 18 17 false,kI 19 0] [] [1,2,17,18,19] [2]) (.block 0 (.loop B131_0))) R131_0)))
theorem c131:Cd 131 49 [RV.tmp 4] M131:=cO [] (rn [] [] 14 M131) Tryz.func131 (by kernel_rfl) Tryz.ntmps131
def M74:MC:=(.seq (.reg [vI 3 1,kI 4 0] [] [0,3] [3]) (.seq (.reg [mi 5 0,qi 6 (.clo 133 [.t 3]),cI 7 132 [.t 5,.t 6],mi 4 7] [] [4] [1007]) .ret))
theorem c74:Cd 74 8 [RV.tmp 4] M74:=cO [] (rn [] [] 2 M74) Tryz.func74 (by kernel_rfl) Tryz.ntmps74
def M133:MC:=(.seq (.reg [vI 2 0,bI 3 false] [] [1,2] [2]) (.seq (.reg [fI 4 2 0,fI 5 4 0,lJ 6 5 1,lJ 7 1 1,oI 8 .eql 6 7,mi 3 8] [] [3] []) .ret))
theorem c133:Cd 133 9 [RV.tmp 3] M133:=cO [] (rn [] [] 2 M133) Tryz.func133 (by kernel_rfl) Tryz.ntmps133
def M7:MC:=(.seq (.reg [vI 1 0,kI 2 0] [] [1] [1]) (.seq (.seq (.reg [fI 3 1 0,lJ 4 3 1,oJ 5 .lss 4 0,mi 6 5,gF 7 6 (.fa (.t 1) 0),gF 8 6 (.ld (.t 7) 1 false),gF 9 6 (.bin .gtr (.t 8) (ic 1099511627775)),qi 10 (.pick (.t 6) (.c (.bool true)) (.t 9)),mi 11 10,gF 12 11 (.fa (.t 1) 1),gF 13 11 (.ld (.t 12) 1 false),⟨some 14,some (11,false),.call (.f 20) [.t 13]⟩,gF 15 11 (.bin .neq (.t 14) (ic 0)),qi 16 (.pick (.t 11) (.c (.bool true)) (.t 15)),mi 17 16,gF 18 17 (.fa (.t 1) 2),gF 19 17 (.ld (.t 18) 1 false),⟨some 20,some (17,false),.call (.f 21) [.t 19]⟩,gF 21 17 (.bin .neq (.t 20) (ic 0)),qi 22 (.pick (.t 17) (.c (.bool true)) (.t 21))] [] [1,22] [1,1014,1020]) (.cond (.t 22) (.seq (.reg [kI 2 1] [] [2] []) .ret) .skip)) (.seq (.seq (.reg [lI 23 1 8,cI 24 22 [.t 23],qi 25 (.not (.t 24)),mi 26 25,gF 27 26 (.ld (.t 1) 8 true),⟨some 28,some (26,false),.call (.f 23) [.t 27]⟩,gF 29 26 (.not (.t 28)),qi 30 (.pick (.t 26) (.c (.bool true)) (.t 29)),mi 31 30,gF 32 31 (.ld (.t 1) 8 true),⟨some 33,some (31,false),.call (.f 24) [.t 32]⟩,gF 34 31 (.not (.t 33)),qi 35 (.pick (.t 31) (.c (.bool true)) (.t 34))] [] [35] [1024,1028,1033]) (.cond (.t 35) (.seq (.reg [kI 2 1] [] [2] []) .ret) .skip)) (.seq (.reg [kI 2 0] [] [2] []) .ret))))
theorem c7:Cd 7 36 [RV.tmp 2] M7:=cO [] (rn [] [] 6 M7) Tryz.func7 (by kernel_rfl) Tryz.ntmps7
end Go.Vc

namespace Go.Vc
open Go.Proofs
set_option linter.unusedSimpArgs false
set_option linter.unusedVariables false
set_option maxRecDepth 10000
structure Su where
 d:Df
 offs:List Of
 ins_:List In
 fails:Int
 taken:Int
 passes:Int
 fires:Int
 over:Int
instance:Inhabited Su:=⟨⟨default,[],[],0,0,0,0,0⟩⟩
abbrev Su.cells (x:Su):List PV:=[pS x.d.name,ss x.d.globs,HF x.d.wh,pS x.d.key,pS x.d.j.kind,pI x.d.j.parts,pI x.d.j.need,pI x.d.j.window,Go.Vc.offs x.offs,ins x.ins_,pI x.fails,pI x.taken,pI x.passes,pI x.fires,pI x.over]
abbrev Su.pv (x:Su):PV:=.agg x.cells
abbrev Su.av (x:Su):List AV:=[.pv (pS x.d.name),.pv (ss x.d.globs),.pv (HF x.d.wh),.pv (pS x.d.key),.pv (pS x.d.j.kind),.pv (pI x.d.j.parts),.pv (pI x.d.j.need),.pv (pI x.d.j.window),.pv (Go.Vc.offs x.offs),.pv (ins x.ins_),.pv (pI x.fails),.pv (pI x.taken),.pv (pI x.passes),.pv (pI x.fires),.pv (pI x.over)]
abbrev J4 (l:List Su):PV:=.lst (l.map Su.pv)
theorem kC (l:List Su):cY 15 (l.map Su.pv):=kZ (f:=Su.pv) (s:=15) (fun a=>⟨rfl,fun c hc=>by
 simp only[PV.cells,List.mem_cons,List.not_mem_nil,or_false]at hc
 rcases hc with rfl|rfl|rfl|rfl|rfl|rfl|rfl|rfl|rfl|rfl|rfl|rfl|rfl|rfl|rfl<;>rfl⟩) l
structure De where
 sub:ByteArray
 o:ByteArray
instance:Inhabited De:=⟨⟨⟨#[]⟩,⟨#[]⟩⟩⟩
abbrev De.pv (x:De):PV:=.agg [pS x.sub,pS x.o]
abbrev J9 (l:List De):PV:=.lst (l.map De.pv)
theorem pD (l:List De):cY 2 (l.map De.pv):=kZ (f:=De.pv) (s:=2) (fun a=>⟨rfl,fun c hc=>by
 simp only[PV.cells,List.mem_cons,List.not_mem_nil,or_false]at hc
 rcases hc with rfl|rfl<;>rfl⟩) l
structure Ro where
 now:Int
 tp:List Tp
 la:List La
 su:List Su
 total:Int
 out:List Ot
 gone:List Ot
 dead:List De
instance:Inhabited Ro:=⟨⟨0,[],[],[],0,[],[],[]⟩⟩
abbrev Ro.cells (s:Ro):List PV:=[pI s.now,uJ s.tp,ls s.la,J4 s.su,pI s.total,os s.out,os s.gone,J9 s.dead]
abbrev Ro.pv (s:Ro):PV:=.agg s.cells
abbrev Ro.av (s:Ro):List AV:=[.pv (pI s.now),.pv (uJ s.tp),.pv (ls s.la),.pv (J4 s.su),.pv (pI s.total),.pv (os s.out),.pv (os s.gone),.pv (J9 s.dead)]
structure SuOk (now:Int) (tp:List Tp) (x:Su):Prop where
 sm:SmD x.d
 may:sB x.d=true
 f0:0≤x.fails
 f3:x.fails<3
 of:d7 x.offs=true
 at_:∀o∈x.offs,∃k,∃h:k<tp.length,cM tp o.t=k∧o.n≤(tp[k]).end_
 p0:0≤x.passes
 i0:0≤x.fires
 v0:0≤x.over
 cnt:x.taken=x.fires+x.over+dG x.ins_
 ins:cJ x.d.j x.ins_=true
 ids:∀k∈eB x.ins_,1≤k.id∧k.id≤x.taken∧k.at_≤now
 big:x.taken≤1000000000000
abbrev mP (a b:Su):Prop:=lS a.d.name b.d.name=true
structure DeOk (su:List Su) (x:De):Prop where
 err:(bS (cF x.o)).2.2=0
 all:(bS (cF x.o)).2.1=x.o.size
 sub:∃y∈su,y.d.name=x.sub
structure RoOk (s:Ro):Prop where
 n0:0≤s.now
 n1:s.now≤1099511627775
 tp:TpsOk s.tp
 la:dV s.la=true
 sul:s.su.length≤8
 su:∀x∈s.su,SuOk s.now s.tp x
 suo:s.su.Pairwise mP
 t0:0≤s.total
 t1:s.total≤1000000000000
 out:bL s.out=true
 gone:bL s.gone=true
 oid:∀x∈s.out,x.id≤s.total
 gid:∀x∈s.gone,x.id≤s.total
 apart:∀x∈s.out,∀y∈s.gone,x.id≠y.id
 del:s.dead.length≤40
 dead:∀x∈s.dead,DeOk s.su x
theorem SuOk.insl {now:Int} {tp:List Tp} {x:Su} (h:SuOk now tp x):x.ins_.length≤40∧∀y∈x.ins_,y.l.length<100000:=by
 refine⟨Fg h.ins,fun y hy=>?_⟩
 have:=(oE h.ins hy).1
 simp only[bJ,Bool.and_eq_true,decide_eq_true_eq]at this
 omega
theorem AP:eR true=0:=rfl
theorem Qz (now:Int) (tp:List Tp) (x:Su) (h:SuOk now tp x):Fn Tryz.prog 130 [x.pv] (.pv (pB true)) []:=by
 refine c130.r [] (by simp) ?_
 have h1:=h.p0;have h2:=h.i0;have h3:=h.v0;have h4:=h.cnt
 have h5:=Qg x.ins_ (by have:=h.insl.1;omega) h.insl.2
 have h6:=h.big
 simp only[go_sem,M130,show ¬x.taken<0 by omega,show ¬x.passes<0 by omega,show ¬x.fires<0 by omega,show ¬x.over<0 by omega,show ¬x.taken<x.fires by omega,show x.over≤x.taken-x.fires by omega]
 refine⟨⟨by omega,by omega⟩,⟨by omega,by omega⟩,?_⟩
 refine aF (by simp only[go_sem]) (by simp only[go_sem]) (by simp only[go_sem]<;>rfl) (fun _=>h5) rfl ?_
 simp only[go_sem,show x.taken-x.fires-x.over=(dG x.ins_:Int)by omega]
theorem Ds {l:List In} {i:Nat} (h:i<l.length) {k:Kp} (hk:k∈l[i].l):k∈eB l:=by
 unfold eB
 exact List.mem_flatten.2 ⟨_,List.mem_map.2 ⟨_,List.getElem_mem h,rfl⟩,hk⟩
theorem Qy (now:Int) (tp:List Tp) (x:Su) (h:SuOk now tp x):Fn Tryz.prog 131 [x.pv,pI now] (.pv (pB true)) []:=by
 refine c131.r [] (by simp) ?_
 obtain⟨hl,hk⟩:=h.insl
 have h1:=Ib x.d.j x.ins_ (by omega) hk
 rw[h.ins]at h1
 have h2:=h.big
 have h3:=h.cnt;have h4:=h.i0;have h5:=h.v0
 simp only[go_sem,M131]
 refine aA (by simp only[go_sem]) (by simp only[go_sem]<;>rfl) (h1) ⟨rfl,trivial⟩ trivial ?_
 simp only[go_sem,AP]
 refine bK (T:=Nat) [1,2,17,18,19] [2] (fun i=>⟨[(1,.pv (pI now)),(2,.ptr 2 0),(17,.pv (ins x.ins_)),(18,.pv (pI x.ins_.length)),(19,.pv (pI i))],[(2,.box x.av)]⟩) (fun i=>i≤x.ins_.length) (fun i=>x.ins_.length-i) 0 ?_ (Nat.zero_le _) ?_
 ·simp only[go_sem]
 intro i hi
 by_cases hlt:i<x.ins_.length
 ·have hkl:=hk _ (List.getElem_mem hlt)
  simp only[go_sem,B131_0,iC,aK hlt,show(i:Int)<(x.ins_.length:Int)by omega]
  refine bK (T:=Nat) [1,2,17,18,19,24,25,26] [2] (fun m=>⟨[(1,.pv (pI now)),(2,.ptr 2 0),(17,.pv (ins x.ins_)),(18,.pv (pI x.ins_.length)),(19,.pv (pI i)),(24,.pv (ks x.ins_[i].l)),(25,.pv (pI x.ins_[i].l.length)),(26,.pv (pI m))],[(2,.box x.av)]⟩) (fun m=>m≤x.ins_[i].l.length) (fun m=>x.ins_[i].l.length-m) 0 ?_ (Nat.zero_le _) ?_
  ·simp only[go_sem]
  intro m hm
  by_cases hlt2:m<x.ins_[i].l.length
  ·have hids:=h.ids _ (Ds hlt (List.getElem_mem hlt2))
   simp only[go_sem,B131_1,fX,aK hlt2,show(m:Int)<(x.ins_[i].l.length:Int)by omega]
   exact⟨fun _=>⟨by omega,by omega,by omega⟩,fun h=>by omega,fun _=>⟨⟨by omega,by omega⟩,m+1,rfl,by omega,by omega⟩⟩
  ·simp only[go_sem,B131_1,show ¬(m:Int)<(x.ins_[i].l.length:Int)by omega]
   exact⟨⟨by omega,by omega⟩,i+1,rfl,by omega,by omega⟩
 ·simp only[go_sem,B131_0,R131_0,show ¬(i:Int)<(x.ins_.length:Int)by omega]
theorem sT {l:List Of} (h:d7 l=true):l.length≤20:=by
 simp only[d7,Bool.and_eq_true,decide_eq_true_eq]at h;omega
theorem QA (tp:List Tp) (l:List Of) (ht:TpsOk tp) (hf:d7 l=true) (ha:∀o∈l,∃k,∃h:k<tp.length,cM tp o.t=k∧o.n≤(tp[k]).end_):Fn Tryz.prog 129 [Go.Vc.offs l,uJ tp] (.pv (pB true)) []:=by
 refine c129.r [] (by simp) ?_
 have hl:=sT hf
 have htl:=ht.len
 have h1:=Id l (by omega)
 rw[hf]at h1
 simp only[go_sem,M129]
 refine aA (by simp only[go_sem]) (by simp only[go_sem]<;>rfl) (h1) ⟨rfl,trivial⟩ trivial ?_
 simp only[go_sem,AP]
 refine aZ (T:=Nat) (fun i=>⟨[(1,.pv (uJ tp)),(12,.pv (Go.Vc.offs l)),(13,.pv (pI l.length)),(14,.pv (pI i))],[]⟩) (fun i=>i≤l.length) (fun i=>l.length-i) 0 rfl (Nat.zero_le _) ?_
 intro i hi
 by_cases hlt:i<l.length
 ·obtain⟨k,hk,h2,h3⟩:=ha _ (List.getElem_mem hlt)
  have h4:=Kt tp l[i].t (by omega)
  rw[h2,if_neg (by omega),decide_eq_true (by omega)]at h4
  simp only[go_sem,B129_0,pC,aK hlt,show(i:Int)<(l.length:Int)by omega]
  refine aA (by simp only[go_sem]) (by simp only[go_sem]<;>rfl) (h4) ⟨rfl,trivial⟩ trivial ?_
  simp only[go_sem,dF,aK hk,Int.toNat_natCast]
  refine⟨by omega,?_⟩
  refine aF (by simp only[go_sem]) (by simp only[go_sem]) (by simp only[go_sem]<;>rfl) (fun _=>MH tp[k] (ht.one _ (List.getElem_mem hk))) rfl ?_
  simp only[go_sem,show ¬(tp[k]).end_<(l[i]).n by omega]
  exact⟨⟨by omega,by omega⟩,i+1,rfl,by omega,by omega⟩
 ·simp only[go_sem,B129_0,R129_0,show ¬(i:Int)<(l.length:Int)by omega]
theorem Rr (s:Ro) (x:Su) (h:SuOk s.now s.tp x) (ht:TpsOk s.tp):Fn Tryz.prog 72 [s.pv,x.pv] (.pv (pB true)) []:=by
 refine c72.r [] (by simp) ?_
 have h1:=Gj x.d h.sm
 rw[h.may]at h1
 have h2:=QA s.tp x.offs ht h.of h.at_
 have h3:=Qz _ _ _ h
 have h4:=Qy _ _ _ h
 have h5:=h.f0;have h6:=h.f3
 simp only[go_sem,M72,show 0≤x.fails by omega,show x.fails<3 by omega]
 refine aF (by simp only[go_sem]) (by simp only[go_sem]) (by simp only[go_sem]<;>rfl) (fun _=>h1) rfl ?_
 simp only[go_sem]
 refine aF (by simp only[go_sem]) (by simp only[go_sem]) (by simp only[go_sem]<;>rfl) (fun _=>h2) rfl ?_
 simp only[go_sem]
 refine aF (by simp only[go_sem]) (by simp only[go_sem]) (by simp only[go_sem]<;>rfl) (fun _=>h3) rfl ?_
 simp only[go_sem]
 refine aF (by simp only[go_sem]) (by simp only[go_sem]) (by simp only[go_sem]<;>rfl) (fun _=>h4) rfl ?_
 simp only[go_sem]
theorem RQ (s:Ro) (h:RoOk s):Fn Tryz.prog 22 [s.pv] (.pv (pB true)) []:=by
 refine c22.r [] (by simp) ?_
 have hl:=h.sul
 simp only[go_sem,M22,show ¬(8:Int)<(s.su.length:Int)by omega]
 refine bK (T:=Nat) [1,10,11,12] [1] (fun i=>⟨[(1,.ptr 1 0),(10,.pv (J4 s.su)),(11,.pv (pI s.su.length)),(12,.pv (pI i))],[(1,.box s.av)]⟩) (fun i=>i≤s.su.length) (fun i=>s.su.length-i) 0 ?_ (Nat.zero_le _) ?_
 ·simp only[go_sem]
 intro i hi
 by_cases hlt:i<s.su.length
 ·have h72:=Rr s s.su[i] (h.su _ (List.getElem_mem hlt)) h.tp
  simp only[go_sem,B22_0,kC,aK hlt,show(i:Int)<(s.su.length:Int)by omega]
  refine aA (by simp only[go_sem]) (by simp only[go_sem]<;>rfl) (h72) ⟨rfl,trivial⟩ trivial ?_
  by_cases h0:i=0
  ·subst h0
   simp only[go_sem]
   exact⟨1,rfl,by omega,by omega⟩
  ·have hlt1:i-1<s.su.length:=by omega
   have e1:((i:Int)-1).toNat=i-1:=by omega
   have ho:Op.bytesLess (s.su[i-1]).d.name.toList (s.su[i]).d.name.toList=true:=List.pairwise_iff_getElem.1 h.suo (i-1) i hlt1 hlt (by omega)
   simp only[go_sem,kC,e1,aK hlt1,ho,show(0:Int)<(i:Int)by omega]
   exact⟨⟨by omega,by omega⟩,⟨by omega,by omega⟩,⟨by omega,by omega⟩,i+1,rfl,by omega,by omega⟩
 ·simp only[go_sem,B22_0,R22_0,show ¬(i:Int)<(s.su.length:Int)by omega]
theorem Qx (x:Su) (n:ByteArray):Fn Tryz.prog 133 [x.pv,.pt [pS n]] (.pv (pB (decide (x.d.name=n)))) []:=by
 refine c133.r [] (by simp) ?_
 simp only[go_sem,M133]
def gJ (l:List Su) (n:ByteArray):Int:=gZ (fun x:Su=>decide (x.d.name=n)) l
theorem nF (l:List Su) (n:ByteArray):(gJ l n = -1∧∀x∈l,x.d.name≠n)∨∃k,∃h:k<l.length,gJ l n=k∧(l[k]).d.name=n:=by
 rcases eY (fun x:Su=>decide (x.d.name=n)) l with⟨h1,h2⟩|⟨n,h,h1,h2,_⟩
 ·exact .inl ⟨h1,fun x hx=>by simpa using h2 x hx⟩
 ·exact .inr ⟨n,h,h1,by simpa using h2⟩
theorem Nk (l:List Su) (n:ByteArray) (hl:l.length<100000):Fn Tryz.prog 74 [J4 l,pS n] (.pv (pI (gJ l n))) []:=by
 refine c74.r [] (by simp) ?_
 simp only[go_sem,M74]
 refine aA (by simp only[go_sem]) (by simp only[go_sem]<;>rfl) (rZ c132.r l (kC l) (fun _=>rfl) 133 [.pt [pS n]] (fun x:Su=>decide (x.d.name=n)) hl (fun x _=>Qx x n)) ⟨rfl,trivial⟩ trivial ?_
 simp only[go_sem]
 rfl
theorem RO (s:Ro) (h:RoOk s):Fn Tryz.prog 24 [s.pv] (.pv (pB true)) []:=by
 refine c24.r [] (by simp) ?_
 have hl:=h.del
 have hsl:=h.sul
 simp only[go_sem,M24,show ¬(40:Int)<(s.dead.length:Int)by omega]
 refine bK (T:=Nat) [1,13,14,15] [1] (fun i=>⟨[(1,.ptr 1 0),(13,.pv (J9 s.dead)),(14,.pv (pI s.dead.length)),(15,.pv (pI i))],[(1,.box s.av)]⟩) (fun i=>i≤s.dead.length) (fun i=>s.dead.length-i) 0 ?_ (Nat.zero_le _) ?_
 ·simp only[go_sem]
 intro i hi
 by_cases hlt:i<s.dead.length
 ·have hd:=h.dead _ (List.getElem_mem hlt)
  have hsz:(s.dead[i]).o.size≤800:=by
   have:=(nW hd.err).2.2
   rw[hd.all]at this;exact this
  have h31:=HP (s.dead[i]).o (by omega)
  rw[hd.err,hd.all]at h31
  generalize (bS (cF (s.dead[i]).o)).1=e at h31
  have hp:0≤gJ s.su (s.dead[i]).sub:=by
   rcases nF s.su (s.dead[i]).sub with⟨_,h2⟩|⟨k,hk,h2,_⟩
   ·obtain⟨y,hy,e⟩:=hd.sub
    exact absurd e (h2 y hy)
   ·omega
  have h74:=Nk s.su (s.dead[i]).sub (by omega)
  simp only[go_sem,B24_0,pD,aK hlt,show(i:Int)<(s.dead.length:Int)by omega]
  refine aC (by simp only[go_sem]) rfl (h31) (.inl rfl) trivial ?_
  simp only[go_sem]
  refine aF (by simp only[go_sem]) (by simp only[go_sem]) (by simp only[go_sem]<;>rfl) (fun _=>h74) rfl ?_
  simp only[go_sem,show ¬gJ s.su (s.dead[i]).sub<0 by omega]
  exact⟨⟨by omega,by omega⟩,i+1,rfl,by omega,by omega⟩
 ·simp only[go_sem,B24_0,R24_0,show ¬(i:Int)<(s.dead.length:Int)by omega]
end Go.Vc

namespace Go.Vc
open Go.Proofs
set_option linter.unusedSimpArgs false
set_option linter.unusedVariables false
set_option maxRecDepth 10000
theorem eL {l:List Ot} (h:bL l=true):l.length≤100:=by
 simp only[bL,Bool.and_eq_true,decide_eq_true_eq]at h;omega
theorem RP (s:Ro) (h:RoOk s):Fn Tryz.prog 23 [s.pv] (.pv (pB true)) []:=by
 refine c23.r [] (by simp) ?_
 have hl1:=eL h.out
 have hl2:=eL h.gone
 have h1:=Eb s.out (by omega)
 have h2:=Eb s.gone (by omega)
 rw[h.out]at h1
 rw[h.gone]at h2
 have ht:=h.t0
 have ht1:=h.t1
 simp only[go_sem,M23,R23_0,R23_1,show ¬s.total<0 by omega]
 refine aF (by simp only[go_sem]) (by simp only[go_sem]) (by simp only[go_sem]<;>rfl) (fun _=>h1) rfl ?_
 simp only[go_sem,AP]
 refine aF (by simp only[go_sem]) (by simp only[go_sem]) (by simp only[go_sem]<;>rfl) (fun _=>h2) rfl ?_
 simp only[go_sem,AP]
 refine bK (T:=Nat) [1,28,29] [1] (fun i=>⟨[(1,.ptr 1 0),(28,.pv (.agg [os s.out,os s.gone])),(29,.pv (pI i))],[(1,.box s.av)]⟩) (fun i=>i≤2) (fun i=>2-i) 0 ?_ (by omega) ?_
 ·simp only[go_sem]
 intro i hi
 by_cases hlt:i<2
 ·have key:∀(m:List Ot),m.length≤100→(∀x∈m,x.id≤s.total)→∀hm:0<m.length,(m[m.length-1]).id≤s.total:=fun m h1 h2 hm=>h2 _ (List.getElem_mem _)
  have e0:i=0∨i=1:=by omega
  rcases e0 with rfl|rfl
  ·simp only[go_sem,B23_0]
   by_cases hm:0<s.out.length
   ·have e1:((s.out.length:Int)-1).toNat=s.out.length-1:=by omega
    have hb:=key _ hl1 h.oid hm
    simp only[go_sem,show(0:Int)<(s.out.length:Int)by omega,eU,e1,aK (show s.out.length-1<s.out.length by omega)]
    exact⟨⟨by omega,by omega⟩,⟨by omega,by omega⟩,⟨by omega,by omega⟩,fun h=>by omega,fun _=>⟨1,rfl,by omega,by omega⟩⟩
   ·simp only[go_sem,show ¬(0:Int)<(s.out.length:Int)by omega]
    exact⟨1,rfl,by omega,by omega⟩
  ·simp only[go_sem,B23_0]
   by_cases hm:0<s.gone.length
   ·have e1:((s.gone.length:Int)-1).toNat=s.gone.length-1:=by omega
    have hb:=key _ hl2 h.gid hm
    simp only[go_sem,show(0:Int)<(s.gone.length:Int)by omega,eU,e1,aK (show s.gone.length-1<s.gone.length by omega)]
    exact⟨⟨by omega,by omega⟩,⟨by omega,by omega⟩,⟨by omega,by omega⟩,fun h=>by omega,fun _=>⟨2,rfl,by omega,by omega⟩⟩
   ·simp only[go_sem,show ¬(0:Int)<(s.gone.length:Int)by omega]
    exact⟨2,rfl,by omega,by omega⟩
 ·obtain rfl:i=2:=by omega
  simp only[go_sem,B23_0]
  refine bK (T:=Nat×Nat) [1,5,6] [1] (fun t=>⟨[(1,.ptr 1 0),(5,.pv (pI t.1)),(6,.pv (pI t.2))],[(1,.box s.av)]⟩) (fun t=>t.1≤s.out.length∧t.2≤s.gone.length) (fun t=>(s.out.length-t.1)+(s.gone.length-t.2)) (0,0) ?_ ⟨Nat.zero_le _,Nat.zero_le _⟩ ?_
  ·simp only[go_sem]
  rintro⟨i,j⟩ ⟨hi,hj⟩
  simp only at hi hj
  by_cases h1:i<s.out.length
  ·by_cases h2:j<s.gone.length
   ·have hne:=h.apart _ (List.getElem_mem h1) _ (List.getElem_mem h2)
    simp only[go_sem,B23_1,eU,aK h1,aK h2,hne,show(i:Int)<(s.out.length:Int)by omega,show(j:Int)<(s.gone.length:Int)by omega]
    exact⟨fun _=>⟨⟨by omega,by omega⟩,(i+1,j),rfl,⟨by simp only;omega,by simp only;omega⟩,by simp only;omega⟩,fun _=>⟨⟨by omega,by omega⟩,(i,j+1),rfl,⟨by simp only;omega,by simp only;omega⟩,by simp only;omega⟩⟩
   ·simp only[go_sem,B23_1,show(i:Int)<(s.out.length:Int)by omega,show ¬(j:Int)<(s.gone.length:Int)by omega]
  ·simp only[go_sem,B23_1,show ¬(i:Int)<(s.out.length:Int)by omega]
theorem HI (s:Ro) (h:RoOk s):Fn Tryz.prog 7 [s.pv] (.pv (pI 0)) []:=by
 refine c7.r [] (by simp) ?_
 have h1:=Kv s.tp h.tp
 have h2:=O2 s.la (by have:=h.la;simp only[dV,Bool.and_eq_true,decide_eq_true_eq]at this;omega)
 rw[h.la]at h2
 have h3:=RQ s h
 have h4:=RP s h
 have h5:=RO s h
 have hn:=h.n0
 have hn1:=h.n1
 simp only[go_sem,M7,show ¬s.now<0 by omega,show ¬(1099511627775:Int)<s.now by omega]
 refine aF (by simp only[go_sem]) (by simp only[go_sem]) (by simp only[go_sem]<;>rfl) (fun _=>h1) rfl ?_
 simp only[go_sem]
 refine aF (by simp only[go_sem]) (by simp only[go_sem]) (by simp only[go_sem]<;>rfl) (fun _=>h2) rfl ?_
 simp only[go_sem,AP]
 refine aA (by simp only[go_sem]) (by simp only[go_sem]<;>rfl) (h3) ⟨rfl,trivial⟩ trivial ?_
 simp only[go_sem]
 refine aF (by simp only[go_sem]) (by simp only[go_sem]) (by simp only[go_sem]<;>rfl) (fun _=>h4) rfl ?_
 simp only[go_sem]
 refine aF (by simp only[go_sem]) (by simp only[go_sem]) (by simp only[go_sem]<;>rfl) (fun _=>h5) rfl ?_
 simp only[go_sem]
end Go.Vc

namespace Go.Vc
open Go.Proofs
set_option linter.unusedSimpArgs false
set_option linter.unusedVariables false
theorem LN {a b:Int}:oV a b<0↔a<b:=by unfold oV;split<;>(try split)<;>simp<;>omega
theorem QE (y:Ot) (n:Int):Fn Tryz.prog 122 [y.pv,pU n] (.pv (pI (oV y.id n))) []:=by
 refine c122.r [] (by simp) ?_
 simp only[go_sem,M122]
 refine aA (by simp only[go_sem]) (by simp only[go_sem]<;>rfl) (OX y.id n) ⟨rfl,trivial⟩ trivial ?_
 simp only[go_sem]
def rH (l:List Ot) (n:Int):Nat:=(l.takeWhile (fun y=>decide (y.id<n))).length
theorem Lb {l:List Ot} {n:Int} {i:Nat} (h0:i≤l.length) (h1:∀j (h:j<l.length),j<i→l[j].id<n) (h2:∀j (h:j<l.length),i≤j→¬l[j].id<n):rH l n=i:=by
 have go:∀{l:List Ot} {i:Nat},i≤l.length→(∀j (h:j<l.length),j<i→l[j].id<n)→(∀j (h:j<l.length),i≤j→¬l[j].id<n)→rH l n=i:=by
  intro l
  induction l with
  | nil=>intro i h0 _ _;simp at h0;simp[rH,h0]
  | cons a l ih=>
   intro i h0 h1 h2
   unfold rH
   cases i with
   | zero=>
    have:=h2 0 (by simp) (by omega)
    simp only[List.getElem_cons_zero]at this
    simp[List.takeWhile_cons,this]
   | succ i=>
    have:=h1 0 (by simp) (by omega)
    simp only[List.getElem_cons_zero]at this
    simp only[List.takeWhile_cons,this,decide_true,if_true,List.length_cons]
    congr 1
    exact ih (by simpa using h0) (fun j hj hji=>by have:=h1 (j+1) (by simpa using hj) (by omega);simpa using this) (fun j hj hji=>by have:=h2 (j+1) (by simpa using hj) (by omega);simpa using this)
 exact go h0 h1 h2
theorem Mm (g:Nat) (hg:∀(x:Ot) (n:Int),Fn Tryz.prog g [x.pv,pU n] (.pv (pI (oV x.id n))) []) (l:List Ot) (n:Int) (hl:l.length<100000) (hs:l.Pairwise Ei):∃b:Bool,Fn Tryz.prog 58 [os l,pU n,.fn g []] (.pv (.tup [pI (rH l n),pB b])) []:=by
 refine⟨decide (rH l n<l.length)&&decide (oV (l.getD (rH l n) default).id n=0),?_⟩
 have ord:∀i j (hi:i<l.length) (hj:j<l.length),i<j→l[i].id<l[j].id:=fun i j hi hj hij=>List.pairwise_iff_getElem.1 hs i j hi hj hij
 refine c58.r [] (by simp) ?_
 simp only[go_sem,M58]
 refine aZ (T:=Nat×Nat) (fun t=>⟨[(0,.pv (os l)),(1,.pv (pU n)),(2,.pv (.fn g [])),(8,.pv (pI l.length)),(9,.pv (pI t.1)),(10,.pv (pI t.2))],[]⟩)
  (fun t=>t.1≤t.2∧t.2≤l.length∧(∀j (h:j<l.length),j<t.1→l[j].id<n)∧(∀j (h:j<l.length),t.2≤j→¬l[j].id<n)) (fun t=>t.2-t.1) (0,l.length) rfl ⟨Nat.zero_le _,Nat.le_refl _,fun j _ h=>absurd h (by omega),fun j h h2=>absurd h (by omega)⟩ ?_
 intro ⟨i,j⟩ ⟨hij,hj,h1,h2⟩
 simp only at hij hj h1 h2 ⊢
 by_cases hlt:i<j
 ·have hm:(i+j) / 2<l.length:=by omega
  obtain⟨m,hme⟩:∃m,m=(i+j) / 2:=⟨_,rfl⟩
  rw[←hme]at hm
  have e1:((i:Int)+(j:Int)).fdiv (2^1)=(m:Int):=by
   rw[Int.fdiv_eq_ediv_of_nonneg _ (by omega)];omega
  simp only[go_sem,B58_0,eU,e1,aK hm,show(i:Int)<(j:Int)by omega]
  refine⟨⟨by omega,by omega⟩,⟨by omega,by omega⟩,⟨by omega,by omega⟩,by omega,?_⟩
  refine aA (by simp only[go_sem]) (by simp only[go_sem]<;>rfl) (hg l[m] n) ⟨rfl,trivial⟩ trivial ?_
  simp only[go_sem]
  rw[LN]
  refine⟨fun hc=>⟨⟨by omega,by omega⟩,(m+1,j),rfl,⟨by show m+1≤j;omega,hj,fun q hq hqm=>?_,h2⟩,by show j-(m+1)<j-i;omega⟩,fun hc=>⟨(i,m),rfl,⟨by show i≤m;omega,by show m≤_;omega,h1,fun q hq hqm=>?_⟩,by show m-i<j-i;omega⟩⟩
  ·by_cases e:q=m
   ·subst e;exact hc
   ·have hqm':q<m+1:=hqm
    have:=ord q m hq hm (by omega);omega
  ·by_cases e:q=m
   ·subst e;exact hc
   ·have hqm':m≤q:=hqm
    have:=ord m q hm hq (by omega);omega
 ·have:i=j:=by omega
  subst this
  have hp:rH l n=i:=Lb hj h1 h2
  rw[hp]
  by_cases hil:i<l.length
  ·simp only[go_sem,B58_0,R58_0,eU,aK hil,show ¬(i:Int)<(i:Int)by omega,show(i:Int)<(l.length:Int)by omega]
   refine aF (by simp only[go_sem]) (by simp only[go_sem]) (by simp only[go_sem]<;>rfl) (fun _=>hg l[i] n) rfl ?_
   simp only[go_sem,hil]
   rw[aM hil]
  ·simp only[go_sem,B58_0,R58_0,eU,show ¬(i:Int)<(i:Int)by omega,show ¬(i:Int)<(l.length:Int)by omega]
   refine aF (p:=pI 0) (by simp only[go_sem]) (by simp only[go_sem]) (by simp only[go_sem]<;>rfl) (fun h=>absurd h (by simp only[go_sem])) rfl ?_
   simp only[go_sem,hil]
theorem Rz (l:List Ot) (n:Int) (hl:l.length<100000) (hs:l.Pairwise Ei):∃b:Bool,Fn Tryz.prog 58 [os l,pU n,.fn 122 []] (.pv (.tup [pI (rH l n),pB b])) []:=Mm 122 (fun x n=>QE x n) l n hl hs
def sJ (l:List Ot) (x:Ot) (now:Int):List Ot×Int:=
 if bL l=false∨dW now=false∨rI x=false then([],1)else if 0≤bY l x.id then([],5)else if 100≤l.length then([],6)
 else(eZ l (rH l x.id) { x with tries:=0,due:=now },0)
theorem Rx (l:List Ot) (x:Ot) (now:Int) (hl:l.length<100000):Fn Tryz.prog 64 [os l,x.pv,pI now] (.pv (.tup [os (sJ l x now).1,pI (sJ l x now).2])) []:=by
 refine c64.r [false,false] (by simp) ?_
 simp only[go_sem,M64]
 refine aA (by simp only[go_sem]) (by simp only[go_sem]<;>rfl) (Eb l hl) ⟨rfl,trivial⟩ trivial ?_
 simp only[go_sem,nA,y8]
 refine aF (by simp only[go_sem]) (by simp only[go_sem]) (by simp only[go_sem]<;>rfl) (fun _=>Ic now) rfl ?_
 simp only[go_sem]
 refine aF (by simp only[go_sem]) (by simp only[go_sem]) (by simp only[go_sem]<;>rfl) (fun _=>Fv x) rfl ?_
 simp only[go_sem]
 unfold sJ
 refine⟨fun h=>?_,fun h=>?_⟩
 ·rw[if_pos (by rcases h with(h|h)|h<;>simp[h])];rfl
 obtain⟨⟨hc,ht⟩,hm⟩:=h
 rw[if_neg (by rw[hc,ht,hm];simp)]
 refine aA (by simp only[go_sem]) (by simp only[go_sem]<;>rfl) (HO l x.id hl) ⟨rfl,trivial⟩ trivial ?_
 simp only[go_sem]
 refine⟨fun h=>by rw[if_pos h];rfl,fun h=>⟨fun h5=>by rw[if_neg h,if_pos (by omega)];rfl,fun h5=>?_⟩⟩
 rw[if_neg h,if_neg (by omega)]
 obtain⟨b,hb⟩:=Rz l x.id hl (eJ hc)
 refine aA (by simp only[go_sem]) (by simp only[go_sem]<;>rfl) (hb) ⟨rfl,trivial⟩ trivial ?_
 simp only[go_sem]
 refine cC (by simp only[go_sem]) rfl (Ec l hl) (.inl rfl) trivial ?_
 simp only[go_sem]
 have hp:rH l x.id≤l.length:=(List.takeWhile_prefix _).length_le
 have hS:=Mj (l.map Ot.pv) (eU l) (Ot.pv { x with tries:=0,due:=now }) (eU [{ x with tries:=0,due:=now }]) (rH l x.id) (by simpa using hp) (by simpa using hl)
 rw[List.length_map]at hS
 refine aP (fun _=>1042) (by simp only[go_sem]) (by simp only[go_sem]<;>rfl) hS rfl (by intro e he;simp only[List.mem_cons,List.not_mem_nil,or_false]at he;subst he;simp only[go_sem]) (by simp) (by simp) (by simp) (by intro e he _;decide) ?_
 simp only[go_sem]
 rw[mZ (f:=Ot.pv)]
end Go.Vc

namespace Go.Vc
open Go.Proofs
set_option maxRecDepth 100000
def M10:MC:=(.seq (.reg [vI 2 0,aI 4 [.pv (.sc (.int .i64 0)),.e0,.e0,.e0,.pv (.sc (.int .i64 0)),.e0,.e0,.e0],kI 5 0,kI 6 0] [] [1,2,4] [2,4,1053,1070]) (.seq (.seq (.reg [lI 15 2 8,cI 16 7 [.t 15],oJ 17 .neq 16 0] [] [1,2,4,17] [2,4,1016,1053,1070]) (.cond (.t 17) (.seq (.reg [lI 18 2 8,⟨none,none,.st (.t 4) (.t 18) 8⟩,kI 5 0,kI 6 1] [] [4,5,6] [4,1021,1041,1053,1070]) .ret) .skip)) (.seq (.reg [mi 20 1,cI 21 31 [.t 20],mi 19 21,xI 22 19 0,xI 23 19 1,xI 24 19 2,aI 7 [.pv (.sc (.string ⟨#[]⟩)),.pv (.sc (.string ⟨#[]⟩)),.pv (.sc (.int .u64 0)),.e0],⟨none,none,.st (.t 7) (.t 22) 4⟩,mi 8 23,mi 9 24] [] [1,2,4,7,8,9] [2,4,7,1021,1053,1070]) (.seq (.seq (.reg [mi 25 9,oJ 26 .neq 25 0] [] [1,2,4,7,8,9,26] [2,4,7,1021,1053,1070]) (.cond (.t 26) (.seq (.reg [lI 27 2 8,mi 28 9,⟨none,none,.st (.t 4) (.t 27) 8⟩,kI 5 0,mi 6 28] [] [4,5,6] [4,1021,1041,1053,1070]) .ret) .skip)) (.seq (.seq (.reg [mi 29 8,mi 30 1,nI 31 30 true,oI 32 .neq 29 31] [] [2,4,7,32] [2,4,7,1021,1053,1070]) (.cond (.t 32) (.seq (.reg [lI 33 2 8,⟨none,none,.st (.t 4) (.t 33) 8⟩,kI 5 0,kI 6 2] [] [4,5,6] [4,1021,1041,1053,1070]) .ret) .skip)) (.seq (.seq (.reg [fI 35 2 2,lJ 36 35 1,fI 37 7 1,lJ 38 37 1,fI 39 7 2,lJ 40 39 1,cI 41 32 [.t 36,.t 38,.t 40],mi 34 41,xI 42 34 0,xI 43 34 1,mi 10 42,mi 11 43] [] [2,4,7,10,11] [2,4,7,1021,1041,1053,1070]) (.seq (.reg [mi 44 11,oJ 45 .neq 44 0] [] [2,4,7,10,11,45] [2,4,7,1021,1041,1053,1070]) (.cond (.t 45) (.seq (.reg [lI 46 2 8,mi 47 10,mi 48 11,⟨none,none,.st (.t 4) (.t 46) 8⟩,mi 5 47,mi 6 48] [] [4,5,6] [4,1021,1041,1053,1070]) .ret) .skip))) (.seq (.reg [fI 50 2 1,lJ 51 50 1,lI 52 7 4,cI 53 33 [.t 51,.t 52],mi 49 53,xI 54 49 0,xI 55 49 1,xI 56 49 2,mi 12 54,mi 13 55,mi 9 56] [] [2,4,7,9,12,13] [2,4,7,1021,1053,1070]) (.seq (.seq (.reg [mi 57 9,oJ 58 .neq 57 0] [] [2,4,7,9,12,13,58] [2,4,7,1021,1053,1070]) (.cond (.t 58) (.seq (.reg [lI 59 2 8,mi 60 9,⟨none,none,.st (.t 4) (.t 59) 8⟩,kI 5 0,mi 6 60] [] [4,5,6] [4,1021,1041,1053,1070]) .ret) .skip)) (.seq (.reg [fI 62 2 2,lJ 63 62 1,fI 64 7 1,lJ 65 64 1,fI 66 7 2,lJ 67 66 1,mi 68 13,qi 69 (.mk [.pv (.sc (.string ⟨#[]⟩)),.pv (.sc (.int .u64 0)),.pv (.sc (.int .i64 0))] [(0,1,(.t 65)),(1,1,(.t 67)),(2,1,(.t 68))]),cI 70 34 [.t 63,.t 69],mi 61 70,xI 71 61 0,xI 72 61 1,mi 14 71,mi 9 72] [] [2,4,9,12,13,14] [2,4,1021,1053,1070]) (.seq (.seq (.reg [mi 73 9,oJ 74 .neq 73 0] [] [2,4,9,12,13,14,74] [2,4,1021,1053,1070]) (.cond (.t 74) (.seq (.reg [lI 75 2 8,mi 76 9,⟨none,none,.st (.t 4) (.t 75) 8⟩,kI 5 0,mi 6 76] [] [4,5,6] [4,1021,1041,1053,1070]) .ret) .skip)) (.seq (.reg [mi 77 12,mi 78 14,fI 79 2 1,⟨none,none,.st (.t 79) (.t 77) 1⟩,fI 80 2 2,⟨none,none,.st (.t 80) (.t 78) 1⟩] [] [2,4,13] [2,4,1053,1070]) (.seq (.reg [lI 81 2 8,mi 82 13,⟨none,none,.st (.t 4) (.t 81) 8⟩,mi 5 82,kI 6 0] [] [4,5,6] [4,1021,1041,1053,1070]) .ret))))))))))))
theorem c10:Cd 10 83 [RV.cell 4 8 true,RV.tmp 5,RV.tmp 6] M10:=cO [] (rn [] [] 19 M10) Tryz.func10 (by kernel_rfl) Tryz.ntmps10
def M11:MC:=(.seq (.reg [vI 2 0,vI 3 1,aI 4 [.pv (.sc (.int .i64 0)),.e0,.e0,.e0,.pv (.sc (.int .i64 0)),.e0,.e0,.e0],kI 5 0] [] [2,3,4] [2,3,4,1022,1034,1039]) (.seq (.seq (.reg [lI 8 2 8,cI 9 7 [.t 8],oJ 10 .neq 9 0,mi 11 10,gF 12 11 (.ld (.t 3) 8 true),⟨some 13,some (11,false),.call (.f 35) [.t 12]⟩,gF 14 11 (.not (.t 13)),qi 15 (.pick (.t 11) (.c (.bool true)) (.t 14))] [] [2,3,4,15] [2,3,4,1009,1013,1022,1034,1039]) (.cond (.t 15) (.seq (.reg [lI 16 2 8,⟨none,none,.st (.t 4) (.t 16) 8⟩,kI 5 1] [] [4,5] [4,1022,1034,1039]) .ret) .skip)) (.seq (.reg [fI 18 2 3,lJ 19 18 1,fI 20 3 0,lJ 21 20 1,cI 22 36 [.t 19,.t 21,.f 37],mi 17 22,xI 23 17 0,xI 24 17 1,mi 6 23,mi 7 24] [] [2,3,4,6,7] [2,3,4,1022,1034,1039]) (.seq (.seq (.reg [mi 25 7] [] [2,3,4,6,25] [2,3,4,1022,1034,1039]) (.cond (.t 25) (.seq (.reg [lI 26 2 8,⟨none,none,.st (.t 4) (.t 26) 8⟩,kI 5 5] [] [4,5] [4,1022,1034,1039]) .ret) .skip)) (.seq (.seq (.reg [fI 27 2 3,lJ 28 27 1,nI 29 28 false,oJ 30 .geq 29 8] [] [2,3,4,6,30] [2,3,4,1022,1034,1039]) (.cond (.t 30) (.seq (.reg [lI 31 2 8,⟨none,none,.st (.t 4) (.t 31) 8⟩,kI 5 6] [] [4,5] [4,1022,1034,1039]) .ret) .skip)) (.seq (.seq (.grp [1034] [⟨32,none,.q (.fa (.t 2) 3),[2],[2,1022,1039]⟩,⟨33,none,.q (.ld (.t 32) 1 false),[32],[2,1022,1039]⟩,⟨34,none,.call (.f 40) [.t 33],[33],[1022,1039]⟩,⟨35,none,.q (.mv (.t 6)),[6],[1022,1039]⟩,⟨36,none,.q (.ld (.t 3) 8 true),[3],[3]⟩,⟨37,none,.q (.mk [.pv (.sc (.string ⟨#[]⟩)),.e0,.e0,.pv (.sc (.string ⟨#[]⟩)),.pv (.sc (.string ⟨#[]⟩)),.pv (.sc (.int .i64 0)),.pv (.sc (.int .i64 0)),.pv (.sc (.int .i64 0)),.e0,.e0,.pv (.sc (.int .i64 0)),.pv (.sc (.int .i64 0)),.pv (.sc (.int .i64 0)),.pv (.sc (.int .i64 0)),.pv (.sc (.int .i64 0))] [(0,8,(.t 36))]),[36],[]⟩,⟨38,none,.lits [.t 37] 15,[37],[]⟩] [2,4,34,35,38,39,40] [2,4,1022,1034,1039]) (.reg [dI 39 39 [.t 34,.t 35,.t 38],fI 40 2 3,⟨none,none,.st (.t 40) (.t 39) 1⟩] [] [2,4] [2,4,1022,1034,1039])) (.seq (.reg [lI 41 2 8,⟨none,none,.st (.t 4) (.t 41) 8⟩,kI 5 0] [] [4,5] [4,1022,1034,1039]) .ret)))))))
theorem c11:Cd 11 42 [RV.cell 4 8 true,RV.tmp 5] M11:=cO [39] (rz [(8,⟨[2,4],[2,4,1022,1034,1039],[(7,0),(8,768),(9,0)],383,[],some ⟨[1034],[(0,[2],[2,1022,1039]),(1,[32],[2,1022,1039]),(2,[33],[1022,1039]),(3,[6],[1022,1039]),(4,[3],[3]),(5,[36],[]),(6,[37],[])],[2,4,34,35,38,39,40],[2,4,1022,1034,1039]⟩⟩)] [] [0,1,2,3,4,5,6,7,0,9] M11) Tryz.func11 (by kernel_rfl) Tryz.ntmps11
def M15:MC:=(.seq (.reg [vI 2 0,aI 4 [.pv (.sc (.int .i64 0)),.e0,.e0,.e0,.pv (.sc (.int .i64 0)),.e0,.e0,.e0],kI 5 0] [] [1,2,4] [2,4,1016]) (.seq (.seq (.reg [lI 8 2 8,cI 9 7 [.t 8],oJ 10 .neq 9 0] [] [1,2,4,10] [2,4,1009,1016]) (.cond (.t 10) (.seq (.reg [lI 11 2 8,⟨none,none,.st (.t 4) (.t 11) 8⟩,kI 5 1] [] [4,5] [4,1016]) .ret) .skip)) (.seq (.reg [fI 13 2 5,lJ 14 13 1,mi 15 1,cI 16 56 [.t 14,.t 15],mi 12 16,xI 17 12 0,xI 18 12 1,mi 6 17,mi 7 18] [] [2,4,6,7] [2,4,1016]) (.seq (.seq (.reg [mi 19 7,oJ 20 .neq 19 0] [] [2,4,6,7,20] [2,4,1016]) (.cond (.t 20) (.seq (.reg [lI 21 2 8,mi 22 7,⟨none,none,.st (.t 4) (.t 21) 8⟩,mi 5 22] [] [4,5] [4,1016]) .ret) .skip)) (.seq (.reg [mi 23 6,fI 24 2 5,⟨none,none,.st (.t 24) (.t 23) 1⟩] [] [2,4] [2,4,1016]) (.seq (.reg [lI 25 2 8,⟨none,none,.st (.t 4) (.t 25) 8⟩,kI 5 0] [] [4,5] [4,1016]) .ret))))))
theorem c15:Cd 15 26 [RV.cell 4 8 true,RV.tmp 5] M15:=cO [] (rn [] [] 8 M15) Tryz.func15 (by kernel_rfl) Tryz.ntmps15
def M16:MC:=(.seq (.reg [vI 2 0,aI 4 [.pv (.sc (.int .i64 0)),.e0,.e0,.e0,.pv (.sc (.int .i64 0)),.e0,.e0,.e0],bI 5 false,kI 6 0] [] [1,2,4] [2,4,1022,1040,1045,1056]) (.seq (.seq (.reg [lI 12 2 8,cI 13 7 [.t 12],oJ 14 .neq 13 0] [] [1,2,4,14] [2,4,1013,1022,1040,1045,1056]) (.cond (.t 14) (.seq (.reg [lI 15 2 8,⟨none,none,.st (.t 4) (.t 15) 8⟩,bI 5 false,kI 6 1] [] [4,5,6] [4,1022,1040,1045,1056]) .ret) .skip)) (.seq (.reg [fI 17 2 5,lJ 18 17 1,mi 19 1,fI 20 2 0,lJ 21 20 1,cI 22 57 [.t 18,.t 19,.t 21],mi 16 22,xI 23 16 0,xI 24 16 1,xI 25 16 2,mi 7 23,mi 8 24,mi 9 25] [] [1,2,4,7,8,9] [2,4,1022,1040,1045,1056]) (.seq (.seq (.reg [mi 26 9,oJ 27 .neq 26 0] [] [1,2,4,7,8,9,27] [2,4,1022,1040,1045,1056]) (.cond (.t 27) (.seq (.reg [lI 28 2 8,mi 29 9,⟨none,none,.st (.t 4) (.t 28) 8⟩,bI 5 false,mi 6 29] [] [4,5,6] [4,1022,1040,1045,1056]) .ret) .skip)) (.seq (.seq (.reg [mi 30 8] [] [1,2,4,7,8,30] [2,4,1022,1040,1045,1056]) (.cond (.t 30) (.seq (.seq (.reg [fI 31 2 6,lJ 32 31 1,nI 33 32 false,oJ 34 .geq 33 100] [] [1,2,4,7,8,34] [2,4,1022,1040,1045,1056]) (.cond (.t 34) (.seq (.reg [lI 35 2 8,⟨none,none,.st (.t 4) (.t 35) 8⟩,bI 5 false,kI 6 6] [] [4,5,6] [4,1022,1040,1045,1056]) .ret) .skip)) (.seq (.reg [fI 37 2 6,lJ 38 37 1,mi 39 1,cI 40 58 [.t 38,.t 39,.f 59],mi 36 40,xI 41 36 0,xI 42 36 1,mi 10 41,mi 11 42] [] [1,2,4,7,8,10] [2,4,1022,1040,1045,1056]) (.reg [fI 43 2 6,lJ 44 43 1,mi 46 10,fI 47 2 5,lJ 48 47 1,fI 49 2 5,lJ 50 49 1,mi 51 1,cI 45 62 [.t 44],cI 52 63 [.t 50,.t 51],qi 53 (.ia (.t 48) (.t 52) 5),lI 54 53 5,⟨some 55,none,.lits [.t 54] 5⟩,dI 56 61 [.t 45,.t 46,.t 55],fI 57 2 6,⟨none,none,.st (.t 57) (.t 56) 1⟩] [] [2,4,7,8] [2,4,1022,1040,1045,1056]))) .skip)) (.seq (.reg [mi 58 7,fI 59 2 5,⟨none,none,.st (.t 59) (.t 58) 1⟩] [] [2,4,8] [2,4,1022,1040,1045,1056]) (.seq (.reg [lI 60 2 8,mi 61 8,⟨none,none,.st (.t 4) (.t 60) 8⟩,mi 5 61,kI 6 0] [] [4,5,6] [4,1022,1040,1045,1056]) .ret)))))))
theorem c16:Cd 16 62 [RV.cell 4 8 true,RV.tmp 5,RV.tmp 6] M16:=cO [56] (rn [] [(10,[(0,65031),(1,65030),(3,57352),(4,64560),(5,64544),(6,65216),(7,65152),(8,65280),(2,0),(9,0),(10,64512),(11,63488),(12,0),(13,0),(14,49152),(15,0)],24575)] 13 M16) Tryz.func16 (by kernel_rfl) Tryz.ntmps16
def M17:MC:=(.seq (.reg [vI 2 0,aI 4 [.pv (.sc (.int .i64 0)),.e0,.e0,.e0,.pv (.sc (.int .i64 0)),.e0,.e0,.e0],kI 5 0] [] [1,2,4] [2,4,1016,1030,1040,1044]) (.seq (.seq (.reg [lI 9 2 8,cI 10 7 [.t 9],oJ 11 .neq 10 0] [] [1,2,4,11] [2,4,1010,1016,1030,1040,1044]) (.cond (.t 11) (.seq (.reg [lI 12 2 8,⟨none,none,.st (.t 4) (.t 12) 8⟩,kI 5 1] [] [4,5] [4,1016,1030,1040,1044]) .ret) .skip)) (.seq (.reg [fI 13 2 6,lJ 14 13 1,mi 15 1,cI 16 63 [.t 14,.t 15],mi 6 16] [] [2,4,6] [2,4,1016,1030,1040,1044]) (.seq (.seq (.reg [mi 17 6,oJ 18 .lss 17 0] [] [2,4,6,18] [2,4,1016,1030,1040,1044]) (.cond (.t 18) (.seq (.reg [lI 19 2 8,⟨none,none,.st (.t 4) (.t 19) 8⟩,kI 5 4] [] [4,5] [4,1016,1030,1040,1044]) .ret) .skip)) (.seq (.reg [fI 21 2 5,lJ 22 21 1,fI 23 2 6,lJ 24 23 1,mi 25 6,qi 26 (.ia (.t 24) (.t 25) 5),lI 27 26 5,fI 28 2 0,lJ 29 28 1,cI 30 64 [.t 22,.t 27,.t 29],mi 20 30,xI 31 20 0,xI 32 20 1,mi 7 31,mi 8 32] [] [2,4,6,7,8] [2,4,1016,1030,1040,1044]) (.seq (.seq (.reg [mi 33 8,oJ 34 .neq 33 0] [] [2,4,6,7,8,34] [2,4,1016,1030,1040,1044]) (.cond (.t 34) (.seq (.reg [lI 35 2 8,mi 36 8,⟨none,none,.st (.t 4) (.t 35) 8⟩,mi 5 36] [] [4,5] [4,1016,1030,1040,1044]) .ret) .skip)) (.seq (.reg [mi 37 7,fI 38 2 6,lJ 39 38 1,cI 40 62 [.t 39],mi 41 6,mi 42 6,oJ 43 .add 42 1,dI 44 65 [.t 40,.t 41,.t 43],fI 45 2 5,⟨none,none,.st (.t 45) (.t 37) 1⟩,fI 46 2 6,⟨none,none,.st (.t 46) (.t 44) 1⟩] [] [2,4] [2,4,1016,1030,1040,1044]) (.seq (.reg [lI 47 2 8,⟨none,none,.st (.t 4) (.t 47) 8⟩,kI 5 0] [] [4,5] [4,1016,1030,1040,1044]) .ret))))))))
theorem c17:Cd 17 48 [RV.cell 4 8 true,RV.tmp 5] M17:=cO [44] (rn [] [(6,[(0,32259),(1,32258),(2,32364),(3,32360),(4,32368),(5,32352),(6,32320),(7,32640),(8,32512),(9,0),(10,31744),(11,26624),(12,20480),(13,24576),(14,16384)],32767)] 11 M17) Tryz.func17 (by kernel_rfl) Tryz.ntmps17
def B18_0:MC:=(.seq (.reg [oI 22 .lss 21 20] [] [1,2,4,19,20,21,22] [1,2,4,1016]) (.seq (.cond (.t 22) .skip (.exit 0)) (.seq (.block 1 (.seq (.reg [mi 23 21,qi 24 (.ia (.t 19) (.t 21) 3),lI 25 24 3,aI 6 [.pv (.sc (.string ⟨#[]⟩)),.pv (.sc (.int .i64 0)),.e0],mi 5 23,⟨none,none,.st (.t 6) (.t 25) 3⟩] [] [1,2,4,5,6,19,20,21] [1,2,4,6,1016]) (.seq (.reg [fI 27 1 1,lJ 28 27 1,mi 29 5,mi 30 5,oJ 31 .add 30 1,qi 32 (.slc (.t 28) (some (.t 29)) (some (.t 31)) 3 false),fI 33 6 0,lJ 34 33 1,lI 35 1 8,lI 36 6 3,cI 37 68 [.t 35,.t 36],cI 38 67 [.t 32,.t 34,.t 37],mi 26 38,xI 39 26 0,xI 40 26 1,mi 7 39,mi 8 40] [] [1,2,4,5,7,8,19,20,21] [1,2,4,1016,1038]) (.seq (.seq (.reg [mi 41 8,oJ 42 .neq 41 0] [] [1,2,4,5,7,8,19,20,21,42] [1,2,4,1016,1038]) (.cond (.t 42) (.seq (.reg [lI 43 1 8,mi 44 8,⟨none,none,.st (.t 2) (.t 43) 8⟩,mi 3 44] [] [2,3] [2,1016,1038]) .ret) .skip)) (.reg [fI 45 4 1,lJ 46 45 1,mi 47 5,mi 48 5,oJ 49 .add 48 1,qi 50 (.slc (.t 46) (some (.t 47)) (some (.t 49)) 3 false),mi 51 7,⟨some 52,none,.cpy (.t 50) (.t 51) 3⟩] [] [1,2,4,19,20,21] [1,2,4,1016]))))) (.reg [oJ 53 .add 21 1,mi 21 53] [] [1,2,4,19,20,21] [1,2,4,1016]))))
def R18_0:MC:=(.seq (.reg [lI 54 4 8,⟨none,none,.st (.t 2) (.t 54) 8⟩,kI 3 0] [] [2,3] [2,1016,1038]) .ret)
def M18:MC:=(.seq (.reg [vI 1 0,aI 2 [.pv (.sc (.int .i64 0)),.e0,.e0,.e0,.pv (.sc (.int .i64 0)),.e0,.e0,.e0],kI 3 0] [] [1,2] [1,2,1016]) (.seq (.seq (.reg [lI 9 1 8,cI 10 7 [.t 9],oJ 11 .neq 10 0] [] [1,2,11] [1,2,1010,1016]) (.cond (.t 11) (.seq (.reg [lI 12 1 8,⟨none,none,.st (.t 2) (.t 12) 8⟩,kI 3 1] [] [2,3] [2,1016,1038]) .ret) .skip)) (.seq (.reg [lI 13 1 8,aI 4 [.pv (.sc (.int .i64 0)),.e0,.e0,.e0,.pv (.sc (.int .i64 0)),.e0,.e0,.e0],⟨none,none,.st (.t 4) (.t 13) 8⟩] [] [1,2,4] [1,2,4,1016]) (.seq (.reg [fI 14 1 1,lJ 15 14 1,cI 16 66 [.t 15],fI 17 4 1,⟨none,none,.st (.t 17) (.t 16) 1⟩] [] [1,2,4] [1,2,4,1016]) (.seq (.seq (.reg [fI 18 1 1,lJ 19 18 1,nI 20 19 false,kI 21 0] [] [1,2,4,19,20,21] [1,2,4,1016]) (.block 0 (.loop B18_0))) R18_0)))))
theorem c18:Cd 18 55 [RV.cell 2 8 true,RV.tmp 3] M18:=cO [] (rn [] [(8,[(0,129059),(1,129058),(2,129060),(3,129080),(4,129072),(5,129056),(6,129216),(7,129152),(8,130304),(9,130560),(10,0),(11,0),(12,126976),(13,106496),(14,81920),(15,98304),(16,65536)],131071)] 14 M18) Tryz.func18 (by kernel_rfl) Tryz.ntmps18
def B19_0:MC:=(.seq (.reg [oI 41 .lss 40 39] [] [2,4,6,39,40,41] [2,4,6,1035,1059]) (.seq (.cond (.t 41) .skip (.exit 0)) (.seq (.block 1 (.seq (.reg [mi 42 40,mi 7 42] [] [2,4,6,7,39,40] [2,4,6,1035,1059]) (.seq (.reg [fI 43 6 3,lJ 44 43 1,mi 45 7,qi 46 (.ia (.t 44) (.t 45) 15),mi 8 46] [] [2,4,6,8,39,40] [2,4,6,1035,1059]) (.seq (.reg [mi 48 8,hI 49 48,fI 50 49 0,fI 51 50 4,lI 52 51 4,mi 53 8,hI 54 53,fI 55 54 9,lJ 56 55 1,fI 57 6 0,lJ 58 57 1,cI 59 69 [.t 52,.t 56,.t 58],mi 47 59,xI 60 47 0,xI 61 47 1,xI 62 47 2,mi 9 60,mi 10 61,mi 11 62] [] [2,4,6,8,9,10,11,39,40] [2,4,6,1035,1059]) (.seq (.seq (.reg [mi 63 11,oJ 64 .neq 63 0] [] [2,4,6,8,9,10,11,39,40,64] [2,4,6,1035,1059]) (.cond (.t 64) (.seq (.reg [lI 65 2 8,mi 66 11,⟨none,none,.st (.t 4) (.t 65) 8⟩,mi 5 66] [] [4,5] [4,1035,1059]) .ret) .skip)) (.seq (.reg [mi 67 8,mi 68 9,hI 69 67,fI 70 69 9,⟨none,none,.st (.t 70) (.t 68) 1⟩] [] [2,4,6,8,10,39,40] [2,4,6,1035,1059]) (.reg [mi 71 8,hI 72 71,fI 73 72 14,lJ 74 73 1,mi 75 10,nI 76 75 false,oI 77 .add 74 76,hI 78 71,fI 79 78 14,⟨none,none,.st (.t 79) (.t 77) 1⟩] [] [2,4,6,39,40] [2,4,6,1035,1059]))))))) (.reg [oJ 80 .add 40 1,mi 40 80] [] [2,4,6,39,40] [2,4,6,1035,1059]))))
def R19_0:MC:=(.seq (.reg [lI 81 6 8,⟨none,none,.st (.t 4) (.t 81) 8⟩,kI 5 0] [] [4,5] [4,1035,1059]) .ret)
def M19:MC:=(.seq (.reg [vI 2 0,aI 4 [.pv (.sc (.int .i64 0)),.e0,.e0,.e0,.pv (.sc (.int .i64 0)),.e0,.e0,.e0],kI 5 0] [] [1,2,4] [2,4,1035,1059]) (.seq (.seq (.reg [lI 12 2 8,cI 13 7 [.t 12],oJ 14 .neq 13 0,mi 15 14,gF 16 15 (.mv (.t 1)),gF 17 15 (.bin .lss (.t 16) (ic 0)),qi 18 (.pick (.t 15) (.c (.bool true)) (.t 17)),mi 19 18,gF 20 19 (.mv (.t 1)),gF 21 19 (.fa (.t 2) 0),gF 22 19 (.ld (.t 21) 1 false),gF 23 19 (.bin .sub (ic 1099511627775) (.t 22)),gF 24 19 (.bin .gtr (.t 20) (.t 23)),qi 25 (.pick (.t 19) (.c (.bool true)) (.t 24))] [] [1,2,4,25] [2,4,1013,1035,1059]) (.cond (.t 25) (.seq (.reg [lI 26 2 8,⟨none,none,.st (.t 4) (.t 26) 8⟩,kI 5 1] [] [4,5] [4,1035,1059]) .ret) .skip)) (.seq (.reg [lI 27 2 8,aI 6 [.pv (.sc (.int .i64 0)),.e0,.e0,.e0,.pv (.sc (.int .i64 0)),.e0,.e0,.e0],⟨none,none,.st (.t 6) (.t 27) 8⟩] [] [1,2,4,6] [2,4,6,1035,1059]) (.seq (.reg [fI 28 6 0,lJ 29 28 1,mi 30 1,oI 31 .add 29 30,fI 32 6 0,⟨none,none,.st (.t 32) (.t 31) 1⟩] [] [2,4,6] [2,4,6,1035,1059]) (.seq (.reg [fI 33 2 3,lJ 34 33 1,cI 35 40 [.t 34],fI 36 6 3,⟨none,none,.st (.t 36) (.t 35) 1⟩] [] [2,4,6] [2,4,6,1035,1059]) (.seq (.seq (.reg [fI 37 6 3,lJ 38 37 1,nI 39 38 false,kI 40 0] [] [2,4,6,39,40] [2,4,6,1035,1059]) (.block 0 (.loop B19_0))) R19_0))))))
theorem c19:Cd 19 82 [RV.cell 4 8 true,RV.tmp 5] M19:=cO [] (rn [] [(10,[(0,522271),(1,522270),(2,522268),(3,522264),(4,522256),(5,522720),(6,522688),(7,522624),(8,522496),(9,523776),(10,523264),(11,0),(12,520192),(13,466944),(14,409600),(15,294912),(16,458752),(17,393216),(18,262144)],524287)] 17 M19) Tryz.func19 (by kernel_rfl) Tryz.ntmps19
def B68_0:MC:=(.seq (.reg [oI 14 .lss 13 12] [] [3,5,11,12,13,14] [3,1009]) (.seq (.cond (.t 14) .skip (.exit 0)) (.seq (.block 1 (.seq (.reg [qi 15 (.ia (.t 11) (.t 13) 15),lI 16 15 15,aI 7 [.pv (.sc (.string ⟨#[]⟩)),.e0,.e0,.pv (.sc (.string ⟨#[]⟩)),.pv (.sc (.string ⟨#[]⟩)),.pv (.sc (.int .i64 0)),.pv (.sc (.int .i64 0)),.pv (.sc (.int .i64 0)),.e0,.e0,.pv (.sc (.int .i64 0)),.pv (.sc (.int .i64 0)),.pv (.sc (.int .i64 0)),.pv (.sc (.int .i64 0)),.pv (.sc (.int .i64 0))],⟨none,none,.st (.t 7) (.t 16) 15⟩] [] [3,5,7,11,12,13] [3,7,1009]) (.seq (.reg [fI 17 7 0,lI 18 17 8,fI 19 3 0,lJ 20 19 1,cI 21 124 [.t 18,.t 20]] [] [3,5,7,11,12,13,21] [3,7,1009,1021]) (.cond (.t 21) (.reg [mi 22 5,fI 23 7 8,lJ 24 23 1,fI 25 3 0,lJ 26 25 1,cI 27 104 [.t 24,.t 26],qi 28 (.mm false (.t 22) (.t 27)),mi 5 28] [] [3,5,11,12,13] [3,1009]) .skip)))) (.reg [oJ 29 .add 13 1,mi 13 29] [] [3,5,11,12,13] [3,1009]))))
def R68_0:MC:=(.seq (.reg [mi 30 5,mi 4 30] [] [4] [1009]) .ret)
def M68:MC:=(.seq (.reg [vI 2 0,vI 3 1,kI 4 0] [] [2,3] [2,3]) (.seq (.reg [lI 8 3 3,cI 9 123 [.t 8],mi 5 9] [] [2,3,5] [2,3,1009]) (.seq (.seq (.reg [fI 10 2 3,lJ 11 10 1,nI 12 11 false,kI 13 0] [] [3,5,11,12,13] [3,1009]) (.block 0 (.loop B68_0))) R68_0)))
theorem c68:Cd 68 31 [RV.tmp 4] M68:=cO [] (rn [] [] 9 M68) Tryz.func68 (by kernel_rfl) Tryz.ntmps68
def B36_0:MC:=(.seq (.seq (.reg [mi 15 9,mi 16 10,oI 17 .lss 15 16] [] [0,1,2,8,9,10,17] []) (.cond (.t 17) .skip (.exit 0))) (.block 1 (.seq (.reg [mi 18 9,mi 19 10,oI 20 .add 18 19,qi 21 (.conv .u64 (.t 20)),qi 22 (.shf false (.t 21) (.c (.int .u64 1))),qi 23 (.conv .i64 (.t 22)),mi 11 23] [] [0,1,2,8,9,10,11] []) (.seq (.reg [mi 24 2,mi 25 0,mi 26 11,qi 27 (.ia (.t 25) (.t 26) 15),lI 28 27 15,mi 29 1,⟨some 30,none,.call (.t 24) [.t 28,.t 29]⟩,oJ 31 .lss 30 0] [] [0,1,2,8,9,10,11,31] [1030]) (.cond (.t 31) (.reg [mi 32 11,oJ 33 .add 32 1,mi 9 33] [] [0,1,2,8,9,10] []) (.reg [mi 34 11,mi 10 34] [] [0,1,2,8,9,10] []))))))
def R36_0:MC:=(.seq (.reg [mi 35 9,mi 36 9,mi 37 8,oI 38 .lss 36 37,mi 39 38,gT 40 39 (.mv (.t 2)),gT 41 39 (.mv (.t 0)),gT 42 39 (.mv (.t 9)),gT 43 39 (.ia (.t 41) (.t 42) 15),gT 44 39 (.ld (.t 43) 15 true),gT 45 39 (.mv (.t 1)),⟨some 46,some (39,true),.call (.t 40) [.t 44,.t 45]⟩,gT 47 39 (.bin .eql (.t 46) (ic 0)),qi 48 (.pick (.t 39) (.t 47) (.c (.bool false))),mi 6 35,mi 7 48] [] [6,7] [1046]) .ret)
def M36:MC:=(.seq (.reg [kI 6 0,bI 7 false] [] [0,1,2] []) (.seq (.reg [mi 12 0,nI 13 12 false,mi 8 13] [] [0,1,2,8] []) (.seq (.reg [mi 14 8,kI 9 0,mi 10 14] [] [0,1,2,8,9,10] []) (.seq (.block 0 (.loop B36_0)) R36_0))))
theorem c36:Cd 36 49 [RV.tmp 6,RV.tmp 7] M36:=cO [] (rn [] [] 9 M36) Tryz.func36 (by kernel_rfl) Tryz.ntmps36
def M37:MC:=(.seq (.reg [vI 2 0,kI 4 0] [] [1,2] [2]) (.seq (.reg [fI 5 2 0,fI 6 5 0,lJ 7 6 1,mi 8 1,cI 9 38 [.t 7,.t 8],mi 4 9] [] [4] [1009]) .ret))
theorem c37:Cd 37 10 [RV.tmp 4] M37:=cO [] (rn [] [] 2 M37) Tryz.func37 (by kernel_rfl) Tryz.ntmps37
end Go.Vc
