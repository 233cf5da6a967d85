/- A part of the proofs of the seat YtblffnoimmmpeaaGreatDoor: the layer that turns the code of a function into what is to be shown (verification conditions), proved sound. -/
import Derived.Test.YtblffnoimmmpeaaGreatDoorVb
import Derived.LoopN
import Derived.ChangeArms
import Derived.ChangeShapes
import Derived.WideShapes
import Derived.Carry
import Derived.ProofKit
import Derived.OpenShut
import Derived.Below
import Derived.ChangeOld
import Derived.ShutString
import Derived.Defers
import Derived.Deep.DeepLaidRun
import Derived.LaidLaws
namespace Go.Vc
open Go.RowKit
def HY (P:Program) (i:GI) (A:St) (k:Eff→Prop):Prop:=match i.g,i.op with
 | none,.q q=>q.pre A∧k ⟨q.val A,none⟩
 | some (t,b),.q q=>(bC A.fr t).gok∧((bC A.fr t).gv b=true→q.pre A)∧k ⟨.whn ((bC A.fr t).gv b) (q.val A),none⟩
 | none,.alloc z=>k ⟨.ptr i.d 0,some (i.d,.box (AV.clips (only i.d) z))⟩
 | none,.box x=>x.cd A=true∧Av (x.sv A)=true∧k ⟨.ptr i.d 0,some (i.d,.box (AV.clips (only i.d) (x.sv A).cells))⟩
 | none,.lits xs s=>(e8 A xs=true∧iY (eD A xs)=true∧oX s (eD A xs)∧xs.length*s≤16777216)∧k ⟨oP (eD A xs),none⟩
 | none,.mks l c s bytes z=>(l.cd A=true∧c.cd A=true∧eO (l.sv A)∧eO (c.sv A)∧0≤cQ (l.sv A)∧cQ (l.sv A)≤cQ (c.sv A)∧(bytes:Int)*cQ (c.sv A)≤281474976710656∧cQ (c.sv A)≤9223372036854775807)∧k ⟨.row i.d 0 (cQ (l.sv A)).toNat,some (i.d,.sl s (List.replicate (cQ (l.sv A)).toNat z))⟩
 | none,.call f args=>(f.cd A=true∧e8 A args=true)∧match cB A f args with
  | some (g,ps,pure)=>ID P g ps pure (fun v rs=>k (iM i.d v rs))
  | none=>False
 | some (t,b),.call f args=>(bC A.fr t).gok∧((bC A.fr t).gv b=true→f.cd A=true∧e8 A args=true)∧match cB A f args with
  | some (h,ps,pure)=>IE P ((bC A.fr t).gv b) h ps pure (fun p=>k ⟨.whn ((bC A.fr t).gv b) (.pv p),none⟩)
  | none=>False
 | _,_=>False
def QT (P:Program) (N:List Nat):List GI→St→(St→Prop)→Prop
 | [],σ,K=>K σ
 | i::L,σ,K=>HY P i (σ.norm i.U i.R) (fun E=>QT P N L (σ.add i.d (i.out N) E) K)
theorem Gs {P:Program} {i:GI} {A:St} {k:Eff→Prop} (h:HY P i A k):∃E,o5 P A i.d i.g i.op E∧k E:=by
 obtain⟨d,g,op,U,R⟩:=i
 unfold HY at h
 simp only at h ⊢
 split at h
 ·exact⟨_,⟨h.1,rfl⟩,h.2⟩
 ·exact⟨_,⟨h.1,_,fun hb=>⟨h.2.1 hb,rfl⟩,rfl⟩,h.2.2⟩
 ·exact⟨_,rfl,h⟩
 ·exact⟨_,⟨h.1,h.2.1,rfl⟩,h.2.2⟩
 ·exact⟨_,⟨h.1,rfl⟩,h.2⟩
 ·exact⟨_,⟨h.1,rfl⟩,h.2⟩
 ·obtain⟨h1,h2⟩:=h
  split at h2
  ·rename_i gg ps pure hca
   obtain⟨v,rs,h3,h4,h5,h6⟩:=h2
   exact⟨_,⟨h1,gg,ps,pure,v,rs,hca,h3,h4,h5,rfl⟩,h6⟩
  ·exact h2.elim
 ·obtain⟨h0,h1,h2⟩:=h
  split at h2
  ·rename_i gg ps pure hca
   obtain⟨p,h3,h4⟩:=h2
   exact⟨_,⟨h0,h1,gg,ps,pure,p,hca,h3,rfl⟩,h4⟩
  ·exact h2.elim
 ·exact h.elim
theorem FE {P:Program} {N:List Nat} {K:St→Prop}:∀{L:List GI} {σ:St},QT P N L σ K→J3 P N L σ K
 | [],_,h=>h
 | i::L,σ,h=>by
  obtain⟨E,h1,h2⟩:=Gs h
  exact⟨E,h1,FE h2⟩
structure RG where
 N:List Nat
 ops:List (Nat×List Nat×List Nat)
 keep:List Nat
 rows:List Nat
 deriving Inhabited
structure RD where
 keep:List Nat
 rows:List Nat
 steps:List (Nat×Nat)
 calm:Nat
 virt:List (Nat×Nat×Nat)
 grp:Option RG
 deriving Inhabited
def dC:List (Nat×RD)→Nat→RD
 | [],_=>default
 | (k,d)::r,id=>if k==id then d else dC r id
def FA:IOp→Bool
 | .q (.mv _)=>true
 | .q (.fa _ _)=>true
 | _=>false
def If (k:Nat):List (Nat×Nat)→Option (List (Nat×Nat)×List (Nat×Nat))
 | []=>none
 | x::r=>if x.1==k then some ([],r)else match If k r with
  | some (a,b)=>some (x::a,b)
  | none=>none
def QR (l:List (Nat×Nat)):Option (List (Nat×Nat)×List (Nat×Nat)×List (Nat×Nat)):=match If 1000 l with
 | some (pre,r)=>match If 1001 r with
  | some (A,B)=>some (pre,A,B)
  | none=>none
 | none=>none
def Eu (P:Program) (owns:List Nat) (n:Nat) (ops:Array Oper) (c:Nat) (A B:List (Nat×Nat)) (listed:Array Bool):Option (List Inst×List Inst):=match A,B with
 | (i,_)::ra,(j,_)::rb=>match ops[i]?,ops[j]? with
  | some oi,some oj=>match eT P owns n ops oi,eT P owns n ops oj with
   | some ii,some ij=>if Region.ready .any ops listed==[i,j]&&ii.op.quiet&&ij.op.hard && !c.testBit j then
     match BD P owns n ops c ra (listed.setIfInBounds i true),BD P owns n ops c rb (listed.setIfInBounds j true)with
     | some ia,some ib=>some (ii::ia,ij::ib)
     | _,_=>none
    else none
   | _,_=>none
  | _,_=>none
 | _,_=>none
def C6 (P:Program) (owns:List Nat) (n:Nat) (ops:Array Oper) (c:Nat) (A B:List (Nat×Nat)):List (Nat×Nat)→Array Bool→Option (List Inst×List Inst)
 | [],listed=>Eu P owns n ops c A B listed
 | (p,m)::r,listed=>match ops[p]? with
  | some o=>match eT P owns n ops o with
   | some inst=>if inst.g.isNone&&(FA inst.op&&qW ops listed p m o || !(m==0)&&pR ops listed c p m o inst.op.quiet inst.op.hard)then match C6 P owns n ops c A B r (listed.setIfInBounds p true)with
     | some (ia,ib)=>some (inst::ia,inst::ib)
     | none=>none
    else none
   | none=>none
  | none=>none
def bX (P:Program) (owns:List Nat) (n:Nat) (rd:List (Nat×RD)):Code→Option MC
 | .skip=>some .skip
 | .region id ops false=>match tJ P owns n ops ops.toList with
  | some is=>some (.reg is (dC rd id).virt (dC rd id).keep (dC rd id).rows)
  | none=>some .bad
 | .region id ops true=>match(dC rd id).grp with
  | none=>match QR (dC rd id).steps with
   | some (pre,A,B)=>if Region.noSelect ops&&pre.length+A.length==ops.size&&A.length==B.length then match C6 P owns n ops (dC rd id).calm A B pre (Array.replicate ops.size false)with
     | some (ia,ib)=>some (.alt (.reg ia (dC rd id).virt (dC rd id).keep (dC rd id).rows) (.reg ib (dC rd id).virt (dC rd id).keep (dC rd id).rows))
     | none=>none
    else none
   | none=>if Region.noSelect ops&&(dC rd id).steps.length==ops.size then match BD P owns n ops (dC rd id).calm (dC rd id).steps (Array.replicate ops.size false)with
    | some is=>some (.reg is (dC rd id).virt (dC rd id).keep (dC rd id).rows)
    | none=>none
   else none
  | some G=>if Region.noSelect ops&&(dC rd id).steps.length+G.ops.length==ops.size then
    match F2 P owns n ops G.N G.ops,BD P owns n ops (dC rd id).calm (dC rd id).steps (lT ops.size (G.ops.map (·.1)))with
    | some l,some is=>some (.seq (.grp G.N (l.map (·.2)) G.keep G.rows) (.reg is (dC rd id).virt (dC rd id).keep (dC rd id).rows))
    | _,_=>none
   else none
 | .seq a b=>match bX P owns n rd a,bX P owns n rd b with
  | some a,some b=>some (.seq a b)
  | _,_=>none
 | .cond c a b=>match Opd.of c,bX P owns n rd a,bX P owns n rd b with
  | some c,some a,some b=>some (.cond c a b)
  | _,_,_=>none
 | .block id b=>match bX P owns n rd b with
  | some b=>some (.block id b)
  | none=>none
 | .loop b=>match bX P owns n rd b with
  | some b=>some (.loop b)
  | none=>none
 | .exit id=>some (.exit id)
 | .ret=>some .ret
 | _=>none
def AJ (next:St→Prop) (K:Exit→St→Prop):Exit→St→Prop
 | .normal,σ=>next σ
 | ex,σ=>K ex σ
def EB (id:Nat) (K:Exit→St→Prop):Exit→St→Prop
 | .exit i,σ=>if i=id then K .normal σ else K (.exit i) σ
 | ex,σ=>K ex σ
def eC (σ σ':St):Prop:=∀(e:Env) (x:Cx) (a:Act),SRel e σ x a→∃y:Cx,y.w=x.w∧SRel e σ' y a
theorem eC.refl (σ:St):eC σ σ:=fun _ x _ h=>⟨x,rfl,h⟩
theorem eC.trans {σ σ' σ'':St} (h:eC σ σ') (h2:eC σ' σ''):eC σ σ'':=fun e x a hs=>
 let⟨y,h3,h4⟩:=h e x a hs
 let⟨z,h5,h6⟩:=h2 e y a h4
 ⟨z,h5.trans h3,h6⟩
theorem eC.norm (σ:St) (keep rows:List Nat):eC σ (σ.norm keep rows):=fun e x _ h=>⟨⟨x.w,fun b=>e.F0 b∨d6 (σ.norm keep rows).st x.ρ b,x.ρ⟩,rfl,h.norm keep rows⟩
def MC.vc (P:Program):MC→(Exit→St→Prop)→St→Prop
 | .skip,K,σ=>K .normal σ
 | .bad,_,_=>False
 | .reg l vs keep rows,K,σ=>aX P l σ (fun σ'=>K .normal ((σ'.virts vs).norm keep rows))
 | .grp N l keep rows,K,σ=>QT P N l (σ.strip N) (fun σ'=>K .normal (σ'.norm keep rows))
 | .alt a b,K,σ=>a.vc P K σ∧b.vc P K σ
 | .seq a b,K,σ=>a.vc P (AJ (b.vc P K) K) σ
 | .cond c a b,K,σ=>∃t,c.ev σ=aY t∧(t=true→a.vc P K σ)∧(t=false→b.vc P K σ)
 | .block id b,K,σ=>b.vc P (EB id K) σ
 | .loop b,K,σ=>∃(T:Type) (I:T→St) (W:St→T→Prop) (G:T→Prop) (μ:T→Nat) (t₀:T),(∀σ t,W σ t→eC σ (I t))∧W σ t₀∧G t₀∧∀t,G t→b.vc P (AJ (fun σ'=>∃t',W σ' t'∧G t'∧μ t'<μ t) K) (I t)
 | .exit id,K,σ=>K (.exit id) σ
 | .ret,K,σ=>K .ret σ
def OC (e:Env) (K:Exit→St→Prop):Exit→Act→World→Prop
 | .normal,a,w=>∃σ y,SRel e σ y a∧y.w=w∧K .normal σ
 | .exit id,a,w=>∃σ y,SRel e σ y a∧y.w=w∧K (.exit id) σ
 | .ret,a,w=>∃σ y,SRel e σ y a∧y.w=w∧K .ret σ
 | _,_,_=>False
section
variable {P:Program} {ops:Array Oper} {Q:Exit→Act→World→Prop}
theorem NM {e:Env} {σ:St} {x:Cx} {a:Act} {owns:List Nat} {q:Go.Vc.Q} {o:Oper} (hf:FA (.q q)=true) (hof:IOp.of P owns o=some (.q q)) (h:SRel e σ x a) (hp:q.pre σ):
  ∃cv,aB x (q.val σ) cv∧∀w',(execOp a.eval o).run P w'=.ok (.value cv) w':=by
 cases q with
 | mv z=>exact Ir rfl hof h hp
 | fa z n=>
  obtain⟨hcd,hp⟩:=hp
  cases hop:o.op with
  | fieldAddr s y f=>
   simp only[IOp.of,hop]at hof
   split at hof
   ·rename_i z' fields hz hs
    split at hof
    ·rename_i fl hfl
     split at hof
     ·rename_i i hi
      split at hof
      ·cases hof
      ·rename_i hsz
       injection hof with hof;injection hof with hof;injection hof with h1 h2
       subst h1;subst h2
       obtain⟨b,o',e1,h2⟩:=tZ (Opd.of_sv h hz hcd) hp
       exact⟨_,h2 fl.offset,fun w'=>by simp[execOp,hop,e1,wG hs hfl hi hsz]⟩
     ·cases hof
    ·cases hof
   ·cases hof
  | _=>
   exfalso
   simp only[IOp.of,hop]at hof
   repeat' split at hof
   all_goals first|contradiction|(cases hof;done)|(simp at hof;done)
 | _=>simp[FA]at hf
theorem E3 {owns:List Nat} {K:St→Prop} {c:Nat} (hsel:Region.noSelect ops=true) (hQ:∀c a w,¬Q (.panic c) a w) {A B:List (Nat×Nat)} (hAB:A.length=B.length) {listed:Array Bool} {ia ib:List Inst} {e:Env} [hE:EP e P] {σ:St} {x:Cx} {a:Act}
  (hN:∀a w σ y,SRel e σ y a→y.w=w→K σ→Q .normal a w) (hg:Eu P owns e.n ops c A B listed=some (ia,ib)) (h:SRel e σ x a) (hka:aX P ia σ K) (hkb:aX P ib σ K):
  gI P ops Q c.testBit (fun _=>True) A.length listed a x.w:=by
 unfold Eu at hg
 split at hg
 ·rename_i i _ ra j _ rb
  split at hg
  ·rename_i oi oj hoi hoj
   split at hg
   ·rename_i ii ij hii hij
    split at hg
    ·rename_i hc
     simp only[Bool.and_eq_true,beq_iff_eq,Bool.not_eq_true']at hc
     obtain⟨⟨⟨hr,hq⟩,hh⟩,hcj⟩:=hc
     split at hg
     ·rename_i ia' ib' h1 h2
      injection hg with hg;injection hg with g1 g2
      subst g1;subst g2
      refine⟨fun h0=>(by rw[h0]at hr;cases hr),fun k hk=>?_⟩
      rw[hr]at hk
      simp only[List.mem_cons,List.not_mem_nil,or_false]at hk
      rcases hk with rfl|rfl
      ·have ih:∀a' w',gK P e ia' K a' w'→gI P ops Q c.testBit (fun _=>True) ra.length (listed.setIfInBounds k true) a' w':=fun a' w' ⟨σ',y,g1,g2,g3⟩=>by
        rw[←g2]
        exact jL hsel hQ ra ia' _ e hE (fun _=>True) σ' y a' hN (fun _ _ _ _=>trivial) h1 g1 g3
       unfold wpOp
       simp only[hoi]
       obtain⟨cv,σ',hy,h3,h4⟩:=lL hii hq h hka
       rcases hy with⟨hw,hr'⟩|⟨hw,hv⟩
       ·rw[hw,if_pos rfl]
        exact .inl (aT (hr' x.w (Agr.refl _)) ⟨fun _=>Agr.refl _,trivial,ih _ _ ⟨σ',x,h3,rfl,h4⟩⟩)
       ·rw[hw,if_neg (by simp)]
        subst hv
        exact⟨fun _=>Agr.refl _,trivial,ih _ _ ⟨σ',x,h3,rfl,h4⟩⟩
      ·have ih:∀a' w',gK P e ib' K a' w'→gI P ops Q c.testBit (fun _=>True) ra.length (listed.setIfInBounds k true) a' w':=fun a' w' ⟨σ',y,g1,g2,g3⟩=>by
        rw[←g2,show ra.length=rb.length by simpa using hAB]
        exact jL hsel hQ rb ib' _ e hE (fun _=>True) σ' y a' hN (fun _ _ _ _=>trivial) h2 g1 g3
       unfold wpOp
       simp only[hoj]
       have:=vF hij hh h hkb Q
       split at this
       ·rename_i hw;rw[if_pos hw];exact .inl (Oper.wp_mono (fun a' w' hb=>⟨fun ht=>(by rw[hcj]at ht;cases ht),trivial,ih a' w' hb⟩) this)
       ·rename_i hw;rw[if_neg hw];exact⟨fun ht=>(by rw[hcj]at ht;cases ht),trivial,ih _ _ this⟩
     ·cases hg
    ·cases hg
   ·cases hg
  ·cases hg
 ·cases hg
theorem vO {owns:List Nat} {K:St→Prop} {c:Nat} (hsel:Region.noSelect ops=true) (hQ:∀c a w,¬Q (.panic c) a w) {A B:List (Nat×Nat)} (hAB:A.length=B.length) {e:Env} [hE:EP e P]
  (hN:∀a w σ y,SRel e σ y a→y.w=w→K σ→Q .normal a w):
  ∀(pre:List (Nat×Nat)) (ia ib:List Inst) (listed:Array Bool) (σ:St) (x:Cx) (a:Act),
  C6 P owns e.n ops c A B pre listed=some (ia,ib)→SRel e σ x a→aX P ia σ K→aX P ib σ K→gI P ops Q c.testBit (fun _=>True) (pre.length+A.length) listed a x.w
 | [],ia,ib,listed,σ,x,a,hg,h,hka,hkb=>by
  simp only[C6]at hg
  rw[List.length_nil,Nat.zero_add]
  exact E3 hsel hQ hAB hN hg h hka hkb
 | (p,m)::r,ia,ib,listed,σ,x,a,hg,h,hka,hkb=>by
  simp only[C6]at hg
  split at hg
  ·rename_i o ho
   split at hg
   ·rename_i inst hinst
    split at hg
    ·rename_i hc
     simp only[Bool.and_eq_true,Option.isNone_iff_eq_none]at hc
     obtain⟨hgn,hc⟩:=hc
     split at hg
     ·rename_i ia' ib' hg'
      injection hg with hg;injection hg with g1 g2
      subst g1;subst g2
      obtain⟨h1,h2,h3,h4⟩:=fW hinst
      obtain⟨d,g,op⟩:=inst
      simp only at h1 h2 h3 hc hgn
      subst h3;subst hgn
      have hgd:o.guard=none:=jO h2
      rw[show((p,m)::r).length+A.length=r.length+A.length+1 by simp only[List.length_cons];omega]
      rw[Bool.or_eq_true]at hc
      cases op with
      | q q=>
       simp only[aX,bO]at hka hkb
       cases hd:o.dst with
       | none=>rw[hd]at hka;exact hka.elim
       | some d=>
        rw[hd]at hka hkb
        simp only at hka hkb
        rcases hc with hc|hc
        ·rw[Bool.and_eq_true]at hc
         obtain⟨hop,hstep⟩:=hc
         simp only[qW,Bool.and_eq_true]at hstep
         obtain⟨⟨⟨hmi,hr⟩,hwait⟩,hrest⟩:=hstep
         obtain⟨cv,k1,k2⟩:=NM hop h1 h hka.1
         have hy:YieldsIf P ops (fun _=>True) o cv a:=.inl ⟨fG hgd _,fun w _=>k2 w⟩
         refine iQ (T:=fun _=>True) (D:=m.testBit) ho (Region.noSelect_spec hsel) hQ (fun d hd hne od hod=>gG hwait d od (by simpa using hod) (by simpa using hd) (by simpa using hne)) _ listed a x.w
          (kL hrest) hmi (fun j oj hoj hj hun=>⟨fun _ _ _ _ _=>trivial,(eQ hrest j oj hoj hj hun).2⟩) (by simpa using hr) trivial trivial hy ?_
         rw[hd]
         exact vO hsel hQ hAB hN r ia' ib' _ _ x _ hg' (h.put (h4 d hd) k1) hka.2 hkb.2
        ·rw[Bool.and_eq_true,Bool.not_eq_true']at hc
         obtain⟨hm0,hstep⟩:=hc
         unfold pR at hstep
         rw[hm0]at hstep
         simp only[Bool.false_eq_true,if_false,Bool.and_eq_true]at hstep
         obtain⟨⟨⟨⟨_,hmi⟩,hr⟩,hwait⟩,hrest⟩:=hstep
         obtain⟨cv,k1,k2⟩:=M0 h1 h hka.1
         have hy:YieldsIf P ops (Agr x.w) o cv a:=.inl ⟨fG hgd _,fun w hw=>k2 w hw⟩
         refine iQ (T:=Agr x.w) (D:=m.testBit) ho (Region.noSelect_spec hsel) hQ (fun d hd hne od hod=>gG hwait d od (by simpa using hod) (by simpa using hd) (by simpa using hne)) _ listed a x.w
          (kL hrest) hmi (fun j oj hoj hj hun=>⟨fun w w' hc _ ht=>ht.trans (hc (eQ hrest j oj hoj hj hun).1),(eQ hrest j oj hoj hj hun).2⟩) (by simpa using hr) trivial (Agr.refl _) hy ?_
         rw[hd]
         exact vO hsel hQ hAB hN r ia' ib' _ _ x _ hg' (h.put (h4 d hd) k1) hka.2 hkb.2
      | _=>
       rcases hc with hc|hc
       ·simp[FA]at hc
       ·simp[pR,IOp.quiet]at hc
        omega
     ·cases hg
    ·cases hg
   ·cases hg
  ·cases hg
end
theorem MC.sound {P:Program} {e:Env} [EP e P] {owns:List Nat} {rd:List (Nat×RD)} (hm:P.follows .mixedOrders=true):∀(c:Code) (m:MC),bX P owns e.n rd c=some m→∀(K:Exit→St→Prop) (σ:St) (x:Cx) (a:Act),
  SRel e σ x a→m.vc P K σ→c.wp P (OC e K) a x.w
 | .skip,m,hc,K,σ,x,a,h,hk=>by
  simp only[bX,Option.some.injEq]at hc;subst hc
  exact wp_skip ⟨σ,x,h,rfl,hk⟩
 | .region id ops false,m,hc,K,σ,x,a,h,hk=>by
  simp only[bX]at hc
  split at hc
  ·rename_i is his
   injection hc with hc;subst hc
   simp only[MC.vc]at hk
   exact wp_region_list (sO (fun a' w' σ' y g1 g2 g3=>let⟨z,k1,k2⟩:=g1.virts (dC rd id).virt;⟨_,_,k2.norm _ _,k1.trans g2,g3⟩) _ is σ x a his h hk)
  ·injection hc with hc;subst hc
   simp only[MC.vc]at hk
 | .region id ops true,m,hc,K,σ,x,a,h,hk=>by
  simp only[bX]at hc
  split at hc
  ·split at hc
   ·rename_i pre A B _
    split at hc
    ·rename_i hg
     simp only[Bool.and_eq_true,beq_iff_eq]at hg
     split at hc
     ·rename_i ia ib his
      injection hc with hc;subst hc
      simp only[MC.vc]at hk
      have h':=h.ext (w':={ x.w with drawn:=x.w.drawn+1 }) ⟨rfl,rfl,rfl,Nat.le_refl _,fun _ _=>rfl,trivial⟩
      refine wp_region_any hm (n7 _ _ _ _ (calm:=((dC rd id).calm).testBit) ?_)
      have:=j3 _ _ _ _ (vO (Q:=OC e K) (K:=fun σ'=>K .normal ((σ'.virts (dC rd id).virt).norm (dC rd id).keep (dC rd id).rows)) hg.1.1 (fun c a w hq=>hq) hg.2 (fun a' w' σ' y g1 g2 g3=>let⟨z,k1,k2⟩:=g1.virts (dC rd id).virt;⟨_,_,k2.norm _ _,k1.trans g2,g3⟩) pre ia ib _ σ _ a his h' hk.1 hk.2)
      rw[hg.1.2]at this
      exact this
     ·cases hc
    ·cases hc
   split at hc
   ·rename_i hg
    simp only[Bool.and_eq_true,beq_iff_eq]at hg
    split at hc
    ·rename_i is his
     injection hc with hc;subst hc
     simp only[MC.vc]at hk
     have h':=h.ext (w':={ x.w with drawn:=x.w.drawn+1 }) ⟨rfl,rfl,rfl,Nat.le_refl _,fun _ _=>rfl,trivial⟩
     refine wp_region_any hm (n7 _ _ _ _ (calm:=((dC rd id).calm).testBit) ?_)
     have:=j3 _ _ _ _ (jL (Q:=OC e K) (K:=fun σ'=>K .normal ((σ'.virts (dC rd id).virt).norm (dC rd id).keep (dC rd id).rows)) hg.1 (fun c a w hq=>hq) _ is _ e inferInstance (fun _=>True) σ _ a (fun a' w' σ' y g1 g2 g3=>let⟨z,k1,k2⟩:=g1.virts (dC rd id).virt;⟨_,_,k2.norm _ _,k1.trans g2,g3⟩) (fun _ _ _ _=>trivial) his h' hk)
     rw[hg.2]at this
     exact this
    ·cases hc
   ·cases hc
  ·rename_i G hG
   split at hc
   ·rename_i hg
    simp only[Bool.and_eq_true,beq_iff_eq]at hg
    split at hc
    ·rename_i l is hl his
     injection hc with hc;subst hc
     simp only[MC.vc,AJ]at hk
     have h':=h.ext (w':={ x.w with drawn:=x.w.drawn+1 }) ⟨rfl,rfl,rfl,Nat.le_refl _,fun _ _=>rfl,trivial⟩
     refine wp_region_any hm (n7 _ _ _ _ (calm:=((dC rd id).calm).testBit) ?_)
     unfold F2 at hl
     split at hl
     ·rename_i G0 hG0
      split at hl
      ·rename_i hck
       injection hl with hl;subst hl
       simp only[Bool.and_eq_true]at hck
       obtain⟨hids,hok⟩:=DB hG0
       obtain⟨y,hyw,hs⟩:=h'.strip G.N
       have hlen:ops.size=G0.length+(dC rd id).steps.length:=by
        have:=congrArg List.length hids
        simp only[List.length_map]at this
        rw[this]
        have:=hg.2
        omega
       rw[hlen]
       have hlo:Es ops (G.ops.map (·.1)) G0=true:=hck.1.2
       have:=Hh (G:=G0) (P:=P) (owns:=owns) (ops:=ops) (N:=G.N) (e:=e) (Q:=OC e K) (calm:=((dC rd id).calm).testBit) (rest:=(dC rd id).steps.length)
        (K:=fun σ'=>aX P is (σ'.norm G.keep G.rows) (fun σ''=>K .normal ((σ''.virts (dC rd id).virt).norm (dC rd id).keep (dC rd id).rows)))
        hids hok hck.1.1 hlo hg.1 (fun c a w hq=>hq) (zS hck.2) (fun σ1 τ1 hst hk1=>by rw[←hst.norm];exact hk1)
        (fun σ1 x1 a1 hs1 hk1=>j3 _ _ _ _ (jL (Q:=OC e K) (K:=fun σ'=>K .normal ((σ'.virts (dC rd id).virt).norm (dC rd id).keep (dC rd id).rows)) hg.1 (fun c a w hq=>hq)
         _ is _ e inferInstance (fun _=>True) (σ1.norm G.keep G.rows) ⟨x1.w,fun b=>e.F0 b∨d6 (σ1.norm G.keep G.rows).st x1.ρ b,x1.ρ⟩ a1 (fun a' w' σ' y g1 g2 g3=>let⟨z,k1,k2⟩:=g1.virts (dC rd id).virt;⟨_,_,k2.norm _ _,k1.trans g2,g3⟩) (fun _ _ _ _=>trivial) his (hs1.norm G.keep G.rows) hk1))
        G0.length G0 (Array.replicate ops.size false) (σ.strip G.N) y a rfl (List.Sublist.refl _)
        ⟨by simp,fun i hi=>by
         have:(Array.replicate ops.size false).getD i false=false:=by simp[Array.getD_eq_getD_getElem?,hi]
         rw[this,hids]
         cases iS (G.ops.map (·.1)) i<;>rfl,fun k o _ hk=>by
         have:(Array.replicate ops.size false).getD k false=false:=by
          simp only[Array.getD_eq_getD_getElem?,Array.getElem?_replicate]
          split<;>rfl
         rw[this]at hk;cases hk⟩ hs (FE hk) (fun p hp hm=>DY ((hok p hp).row hm))
       rw[hyw]at this
       rw[←hlen]at this ⊢
       exact this
      ·cases hl
     ·cases hl
    ·cases hc
   ·cases hc
 | .seq c d,m,hc,K,σ,x,a,h,hk=>by
  simp only[bX]at hc
  split at hc
  ·rename_i m1 m2 h1 h2
   injection hc with hc;subst hc
   simp only[MC.vc]at hk
   refine wp_seq (wp_mono (MC.sound hm c m1 h1 _ σ x a h hk) fun ex a' w' hq=>?_)
   cases ex with
   | normal=>
    obtain⟨σ',y,g1,g2,g3⟩:=hq
    rw[←g2]
    exact MC.sound hm d m2 h2 K σ' y a' g1 g3
   | _=>exact hq
  ·cases hc
 | .cond q c d,m,hc,K,σ,x,a,h,hk=>by
  simp only[bX]at hc
  split at hc
  ·rename_i z m1 m2 hz h1 h2
   injection hc with hc;subst hc
   simp only[MC.vc]at hk
   obtain⟨t,k1,k2,k3⟩:=hk
   have hv:=Opd.of_ev h hz
   rw[k1]at hv
   have hv':a.eval q=.bool t:=by simpa only[aY,aB,aG]using hv
   exact wp_cond_split hv' (fun ht=>MC.sound hm c m1 h1 K σ x a h (k2 ht)) (fun ht=>MC.sound hm d m2 h2 K σ x a h (k3 ht))
  ·cases hc
 | .block id c,m,hc,K,σ,x,a,h,hk=>by
  simp only[bX]at hc
  split at hc
  ·rename_i m1 h1
   injection hc with hc;subst hc
   simp only[MC.vc]at hk
   refine wp_block (wp_mono (MC.sound hm c m1 h1 _ σ x a h hk) fun ex a' w' hq=>?_)
   cases ex with
   | exit i=>
    obtain⟨σ',y,g1,g2,g3⟩:=hq
    simp only[EB]at g3
    simp only[Exit.inBlock]
    split
    ·rename_i hi;rw[if_pos hi]at g3;exact⟨σ',y,g1,g2,g3⟩
    ·rename_i hi;rw[if_neg hi]at g3;exact⟨σ',y,g1,g2,g3⟩
   | _=>exact hq
  ·cases hc
 | .loop c,m,hc,K,σ,x,a,h,hk=>by
  simp only[bX]at hc
  split at hc
  ·rename_i m1 h1
   injection hc with hc;subst hc
   simp only[MC.vc]at hk
   obtain⟨T,I,W,G,μ,t₀,k0,k1,k2,k3⟩:=hk
   obtain⟨y0,hy0,hs0⟩:=k0 _ _ k1 e x a h
   have rounds:∀(n:Nat) (t:T),μ t<n→G t→∀(y:Cx) (a':Act),SRel e (I t) y a'→Code.rounds P c (OC e K) n a' y.w:=by
    intro n
    induction n with
    | zero=>intro t hlt;omega
    | succ n ih=>
     intro t hlt hg y a' hs
     rw[rounds_succ]
     refine wp_mono (MC.sound hm c m1 h1 _ (I t) y a' hs (k3 t hg)) fun ex a'' w'' hq=>?_
     cases ex with
     | normal=>
      obtain⟨σ',z,g1,g2,t',g3,g4,g5⟩:=hq
      obtain⟨z2,hz2,hs2⟩:=k0 _ _ g3 e z a'' g1
      rw[←g2,←hz2]
      exact ih t' (by omega) g4 z2 a'' hs2
     | _=>exact hq
   rw[←hy0]
   exact wp_loop_rounds (μ t₀+1) (rounds _ t₀ (by omega) k2 y0 a hs0)
  ·cases hc
 | .exit id,m,hc,K,σ,x,a,h,hk=>by
  simp only[bX,Option.some.injEq]at hc;subst hc
  exact wp_exit ⟨σ,x,h,rfl,hk⟩
 | .ret,m,hc,K,σ,x,a,h,hk=>by
  simp only[bX,Option.some.injEq]at hc;subst hc
  exact wp_ret ⟨σ,x,h,rfl,hk⟩
 | .rangeFunc _ _ _ _,_,hc,_,_,_,_,_,_|.scope _,_,hc,_,_,_,_,_,_|.label _,_,hc,_,_,_,_,_,_|.goto _,_,hc,_,_,_,_,_,_|.refuse _,_,hc,_,_,_,_,_,_=>by
  simp[bX]at hc
end Go.Vc

namespace Go.Vc
open Go.RowKit
section
variable {e:Env} {σ:St} {x:Cx} {a:Act}
theorem aG.less {w:World} {F G:Nat→Prop} (hG:∀b,G b→F b) {p:PV} {v:Value} (h:aG w F p v):aG w G p v:=
 aG.kept (x:=⟨w,F,fun _=>default⟩) (y:=⟨w,G,fun _=>default⟩) ⟨Nat.le_refl _,fun _ _ _=>rfl,fun b _ h=>hG b h⟩ p h
theorem aJ.less {w:World} {F G:Nat→Prop} (hG:∀b,G b→F b) {ps:List PV} {b o':Nat} (h:aJ w F ps b o'):aJ w G ps b o':=
 aJ.kept (x:=⟨w,F,fun _=>default⟩) (y:=⟨w,G,fun _=>default⟩) ⟨Nat.le_refl _,fun _ _ _=>rfl,fun b _ h=>hG b h⟩ ps (fun h=>h) h
theorem aN.less {w:World} {F G:Nat→Prop} (hG:∀b,G b→F b) {ps:List PV} {b o':Nat} (h:aN w F ps b o'):aN w G ps b o':=
 aN.kept (x:=⟨w,F,fun _=>default⟩) (y:=⟨w,G,fun _=>default⟩) ⟨Nat.le_refl _,fun _ _ _=>rfl,fun b _ h=>hG b h⟩ ps (fun h=>h) h
theorem zJ {G:Nat→Prop} {g:AV→Option PV} (hg:∀v p cv,g v=some p→aB x v cv→aG x.w G p cv):∀{vs:List AV} {ps:List PV} {cvs:List Value},dK g vs=some ps→aD x vs cvs→aE x.w G ps cvs
 | [],_,_,h,hv=>by simp only[dK,Option.some.injEq]at h;subst h;simpa only[aD,aE]using hv
 | v::vs,ps,cvs,h,hv=>by
  simp only[dK]at h
  split at h
  ·rename_i p qs h1 h2
   injection h with h;subst h
   simp only[aD]at hv
   obtain⟨c,r,rfl,h3,h4⟩:=hv
   simp only[aE]
   exact⟨c,r,rfl,hg _ _ _ h1 h3,zJ hg h2 h4⟩
  ·cases h
theorem uX (h:SRel e σ x a) {st:List (Nat×Row)} {G:Nat→Prop} (hsub:∀r row,(r,row)∈st→(r,row)∈σ.st) (hG:∀b,G b→x.F b)
  (hst:∀r row,(r,row)∈st→(x.ρ r).ok=true→¬G (x.ρ r).blk):∀(k:Nat) (v:AV) (p:PV) (cv:Value),cV st k v=some p→aB x v cv→aG x.w G p cv
 | 0,v,p,cv,hs,_=>by simp[cV]at hs
 | k+1,v,p,cv,hs,hv=>by
  have ih:∀{vs:List AV} {ps:List PV} {cvs:List Value},dK (cV st k) vs=some ps→aD x vs cvs→aE x.w G ps cvs:=fun h1 h2=>zJ (x:=x) (g:=cV st k) (fun v p cv h1 h2=>uX h hsub hG hst k v p cv h1 h2) h1 h2
  unfold cV at hs
  split at hs
  ·injection hs with hs;subst hs;simp only[aB]at hv;exact hv.less hG
  ·injection hs with hs;subst hs
   simp only[aB]at hv
   obtain⟨ad,rfl⟩:=hv
   simp only[aG]
   exact⟨ad,0,0,rfl,rfl,Nat.le_refl _,fun hn=>absurd hn (by omega)⟩
  ·split at hs
   ·rename_i ps hps
    injection hs with hs;subst hs
    simp only[aB]at hv
    obtain⟨vs,rfl,hv⟩:=hv
    simp only[aG]
    exact⟨vs,rfl,ih hps hv⟩
   ·cases hs
  ·split at hs
   ·rename_i ps hps
    injection hs with hs;subst hs
    simp only[aB]at hv
    obtain⟨vs,rfl,hv⟩:=hv
    simp only[aG]
    exact⟨vs,rfl,ih hps hv⟩
   ·cases hs
  ·split at hs
   ·rename_i ps hps
    injection hs with hs;subst hs
    simp only[aB]at hv
    obtain⟨vs,rfl,hv⟩:=hv
    simp only[aG]
    exact⟨vs,rfl,ih hps hv⟩
   ·cases hs
  ·rename_i r off n
   split at hs
   ·rename_i s xs hr
    injection hs with hs;subst hs
    have hm:=aH hr
    have h1:=h.st r _ (hsub _ _ hm)
    simp only[Row.rel]at h1
    simp only[aB]at hv
    simp only[aG]
    rcases hv with⟨rfl,_,ad,rfl⟩|⟨c,hok,rfl,h2,h3,h4⟩
    ·exact⟨ad,0,0,rfl,by simp,Nat.le_refl _,fun hn=>absurd hn (by omega)⟩
    ·rcases h1 with⟨h1,_⟩|⟨hs,_,⟨hln,_⟩,hwf,⟨arr,et,hh,_⟩,hE⟩
     ·rw[h1]at hok;cases hok
     ·rw[hln]at h4
      refine⟨_,n,c,rfl,by rw[List.length_take,List.length_drop];omega,h2,fun _=>⟨_,_,rfl,(Array.getElem?_eq_some_iff.1 hh).1,hst r _ hm hok,?_⟩⟩
      rw[hs]
      exact((hE.drop off (fun p hp=>(hwf p hp).1) (by omega)).take n).less hG
   ·cases hs
  ·rename_i r
   split at hs
   ·rename_i cs hr
    split at hs
    ·rename_i ps hps
     injection hs with hs;subst hs
     have hm:=aH hr
     have h1:=h.st r _ (hsub _ _ hm)
     simp only[Row.rel]at h1
     obtain⟨hok,⟨arr,et,hh,_⟩,hc⟩:=h1
     simp only[aB]at hv
     subst hv
     simp only[aG]
     obtain⟨vs,h2,h3⟩:=hc.list
     exact⟨_,_,rfl,(Array.getElem?_eq_some_iff.1 hh).1,hst r _ hm hok,aN.of (ih hps h2) h3⟩
    ·cases hs
   ·cases hs
  ·injection hs with hs;subst hs
   simp only[aB]at hv
   obtain⟨b,o',rfl,h1,h2,h3⟩:=hv
   simp only[aG]
   exact⟨b,o',rfl,h1,fun h=>h2 (hG _ h),h3.less hG⟩
  ·cases hs
inductive RV where
 | tmp (t:Nat)
 | cell (t n:Nat) (agg:Bool)
def kD (P:Program):List ResultVar→Option (List RV)
 | []=>some []
 | .tmp t::r=>match kD P r with
  | some qs=>some (.tmp t::qs)
  | none=>none
 | .cell t ty::r=>match kD P r,P.underlying ty,P.info? ty with
  | some qs,some _,some i=>some (.cell t i.size (bG P ty)::qs)
  | _,_,_=>none
def rT (σ:St):List RV→Option (List AV)
 | []=>some []
 | .tmp t::r=>match rT σ r with
  | some vs=>some (bC σ.fr t::vs)
  | none=>none
 | .cell t n agg::r=>match rT σ r,bC σ.fr t with
  | some vs,.ptr row 0=>match aL σ.st row with
   | some (.box cs)=>if cs.length=n∧(agg=true∨n=1)then some (BL cs 0 n agg::vs)else none
   | _=>none
  | _,_=>none
def iD (st:List (Nat×Row)):List Nat→List (Nat×Row)
 | []=>st
 | r::rs=>aQ (iD st rs) r
def H3 (st:List (Nat×Row)) (ids:List Nat):AV→Option AV
 | .row r off n=>match ids.idxOf? r with
  | some i=>some (.row i off n)
  | none=>match cV (iD st ids) 5 (.row r off n)with
   | some p=>some (.pv p)
   | none=>none
 | v=>match cV (iD st ids) 5 v with
  | some p=>some (.pv p)
  | none=>none
def sI (st:List (Nat×Row)) (ids:List Nat):List AV→Option (List AV)
 | []=>some []
 | v::vs=>match H3 st ids v,sI st ids vs with
  | some u,some us=>some (u::us)
  | _,_=>none
def nY (st:List (Nat×Row)):List Nat→Option (List (Nat×List PV))
 | []=>some []
 | r::rs=>match aL st r,nY st rs with
  | some (.sl s xs),some us=>some ((s,xs)::us)
  | _,_=>none
def qP:List AV→AV
 | [v]=>v
 | vs=>.tup vs
def sH (vs:List AV):AV:=match cH vs with
 | some ps=>(match ps with
  | [p]=>.pv p
  | ps=>.pv (.tup ps))
 | none=>qP vs
def AL:List Bool→List AV→List Nat
 | true::hs,.row r _ _::us=>r::AL hs us
 | _::hs,_::us=>AL hs us
 | _,_=>[]
def C7 (rvs:List RV) (ids:List Bool) (v:AV) (rs:List (Nat×List PV)) (σ:St):Prop:=
 match rT σ rvs with
 | some us=>match sI σ.st (AL ids us) us with
  | some vs=>(AL ids us).Nodup∧nY σ.st (AL ids us)=some rs∧sH vs=v
  | none=>False
 | none=>False
def uL (rvs:List RV) (ids:List Bool) (v:AV) (rs:List (Nat×List PV)):Exit→St→Prop
 | .normal,σ=>C7 rvs ids v rs σ
 | .ret,σ=>C7 rvs ids v rs σ
 | _,_=>False
def entry:Nat→List PV→List (Nat×AV)
 | _,[]=>[]
 | i,p::ps=>(i,.pv p)::entry (i+1) ps
theorem lG {st:List (Nat×Row)}:∀{ids:List Nat} {r:Nat} {row:Row},(r,row)∈iD st ids→(r,row)∈st∧r∉ids
 | [],_,_,h=>⟨h,by simp⟩
 | i::ids,r,row,h=>by
  simp only[iD]at h
  obtain⟨h1,h2⟩:=bE h
  obtain⟨h3,h4⟩:=lG h1
  exact⟨h3,by simp[h2,h4]⟩
theorem zV {st:List (Nat×Row)}:∀{ids:List Nat} {rs:List (Nat×List PV)},nY st ids=some rs→rs.length=ids.length∧∀i r:Nat,ids[i]?=some r→∃(s:Nat) (xs:List PV),rs[i]?=some (s,xs)∧(r,Row.sl s xs)∈st
 | [],rs,h=>by simp only[nY,Option.some.injEq]at h;subst h;exact⟨rfl,fun i r hi=>by simp at hi⟩
 | q::ids,rs,h=>by
  simp only[nY]at h
  split at h
  ·rename_i s xs us h1 h2
   injection h with h;subst h
   obtain⟨g1,g2⟩:=zV h2
   refine⟨by simp[g1],fun i r hi=>?_⟩
   cases i with
   | zero=>
    simp only[List.getElem?_cons_zero,Option.some.injEq]at hi
    subst hi
    exact⟨s,xs,rfl,aH h1⟩
   | succ i=>simpa using g2 i r (by simpa using hi)
  ·cases h
theorem zT {y:Cx} {vs:List AV} {cvs:List Value} (h:aD y vs cvs):
  aB y (sH vs) (if h:(⟨cvs⟩:Array Value).size=1 then(⟨cvs⟩:Array Value)[0]else .tuple ⟨cvs⟩):=by
 have tup:aB y (qP vs) (if h:(⟨cvs⟩:Array Value).size=1 then(⟨cvs⟩:Array Value)[0]else .tuple ⟨cvs⟩):=by
  match vs,h with
  | [],h=>
   simp only[aD]at h;subst h
   simp[qP,aB,aD]
  | [v],h=>
   simp only[aD]at h
   obtain⟨c,r,rfl,h1,rfl⟩:=h
   simpa[qP]using h1
  | v::v'::vs,h=>
   have h':=h
   simp only[aD]at h
   obtain⟨c,r,rfl,h1,c',r',rfl,h2,h3⟩:=h
   simp only[qP,List.size_toArray,List.length_cons]
   rw[dif_neg (by omega)]
   simp only[aB]
   exact⟨_,rfl,h'⟩
 unfold sH
 cases hp:cH vs with
 | none=>simpa only[hp]using tup
 | some ps=>
  have hps:=dN hp h
  match ps,hps with
  | [],hps=>
   simp only[aE]at hps;subst hps
   simp[aB,aG,aE]
  | [v],hps=>
   simp only[aE]at hps
   obtain⟨c,r,rfl,h1,rfl⟩:=hps
   simpa[aB]using h1
  | v::v'::ps,hps=>
   have h':=hps
   simp only[aE]at hps
   obtain⟨c,r,rfl,h1,c',r',rfl,h2,h3⟩:=hps
   simp only[List.size_toArray,List.length_cons]
   rw[dif_neg (by omega)]
   simp only[aB,aG]
   exact⟨_,rfl,h'⟩
theorem zW (h:SRel e σ x a) {ids:List Nat} {y:Cx} (hw:y.w=x.w) (hρ:∀i r:Nat,ids[i]?=some r→y.ρ i=x.ρ r) (hF:∀b,y.F b→x.F b)
  (hst:∀r row,(r,row)∈iD σ.st ids→(x.ρ r).ok=true→¬y.F (x.ρ r).blk):∀{us vs:List AV} {cvs:List Value},sI σ.st ids us=some vs→aD x us cvs→aD y vs cvs
 | [],vs,cvs,ho,hv=>by
  simp only[sI,Option.some.injEq]at ho;subst ho
  simpa only[aD]using hv
 | u::us,vs,cvs,ho,hv=>by
  simp only[sI]at ho
  split at ho
  ·rename_i v vs' h1 h2
   injection ho with ho;subst ho
   simp only[aD]at hv ⊢
   obtain⟨c,r,rfl,h3,h4⟩:=hv
   refine⟨c,r,rfl,?_,zW h hw hρ hF hst h2 h4⟩
   have sn:∀{v:AV} {p:PV},cV (iD σ.st ids) 5 v=some p→aB x v c→aB y (.pv p) c:=fun hs hv=>by
    simp only[aB]
    rw[hw]
    exact uX h (fun r row hm=>(lG hm).1) hF hst 5 _ _ _ hs hv
   unfold H3 at h1
   split at h1
   ·rename_i q off n
    split at h1
    ·rename_i i hi
     injection h1 with h1;subst h1
     have hi':ids[i]?=some q:=by
      have:=List.of_findIdx?_eq_some (p:=(· == q)) (xs:=ids) (i:=i) (by simpa[List.idxOf?]using hi)
      split at this
      ·rename_i z hz;rw[hz];simpa using this
      ·cases this
     simp only[aB]at h3 ⊢
     rw[hρ i q hi']
     exact h3
    ·split at h1
     ·rename_i p hp
      injection h1 with h1;subst h1
      exact sn hp h3
     ·cases h1
   ·split at h1
    ·rename_i p hp
     injection h1 with h1;subst h1
     exact sn hp h3
    ·cases h1
  ·cases ho
theorem Nx (h:SRel e σ x a) (hL:∀b,¬e.L b) {ids:List Nat} {rs:List (Nat×List PV)} {us vs:List AV} {cvs:List Value} (h1:sI σ.st ids us=some vs) (h2:ids.Nodup) (h3:nY σ.st ids=some rs) (h4:aD x us cvs):
  ∃y,y.w=x.w∧Res e.w0 e.F0 y (sH vs) rs (if h:(⟨cvs⟩:Array Value).size=1 then(⟨cvs⟩:Array Value)[0]else .tuple ⟨cvs⟩):=by
 obtain⟨hl,hat⟩:=zV h3
 have has:∀i:Nat,i<rs.length→∃r,ids[i]?=some r∧ids.getD i 0=r∧∃s xs,rs[i]?=some (s,xs)∧(r,Row.sl s xs)∈σ.st:=fun i hi=>by
  have hi':i<ids.length:=by omega
  obtain⟨s,xs,g1,g2⟩:=hat i ids[i] (by simp[hi'])
  exact⟨ids[i],by simp[hi'],by simp[List.getD_eq_getElem?_getD,hi'],s,xs,g1,g2⟩
 let ρ':Nat→Loc:=fun i=>x.ρ (ids.getD i 0)
 let F':Nat→Prop:=fun b=>e.F0 b∨∃i,i<rs.length∧(ρ' i).ok=true∧(ρ' i).blk=b
 have hF:∀b,F' b→x.F b:=fun b hb=>(h.F b).2 (hb.imp id fun⟨i,hi,g1,g2⟩=>by
  obtain⟨r,k1,k2,s,xs,k3,k4⟩:=has i hi
  refine⟨r,_,k4,?_,?_⟩
  ·rw[←k2];exact g1
  ·rw[←k2];exact g2)
 refine⟨⟨x.w,F',ρ'⟩,rfl,{
  below:=⟨h.below.os,h.below.tape,h.below.output,h.below.size,fun k hk=>h.below.block k hk (hL k),h.below.drawn⟩
  val:=zT (zW h (y:=⟨x.w,F',ρ'⟩) rfl (fun i r hi=>by
   show x.ρ (ids.getD i 0)=x.ρ r
   simp[List.getD_eq_getElem?_getD,hi]) hF (fun r row hm hok hb=>?_) h1 h4)
  rows:=fun i s xs hi=>?_
  inj:=fun i j hi hj hij hoi hoj=>?_
  fresh:=fun i hi hok=>?_
  F:=fun b=>Iff.rfl }⟩
 ·obtain⟨m1,m2⟩:=lG hm
  rcases hb with hb|⟨i,hi,g1,g2⟩
  ·have:=(h.f0 _ hb).1
   rcases h.own r row m1 hok with h9|h9
   ·omega
   ·exact hL _ h9
  ·obtain⟨q,k1,k2,s,xs,k3,k4⟩:=has i hi
   have hq:q≠r:=fun hq=>m2 (by rw[←hq];exact List.mem_of_getElem? k1)
   have g1':(x.ρ q).ok=true:=by rw[←k2];exact g1
   have g2':(x.ρ q).blk=(x.ρ r).blk:=by rw[←k2];exact g2
   exact h.inj q _ r row k4 m1 hq g1' hok g2'
 ·have hi':i<rs.length:=by
   rcases Nat.lt_or_ge i rs.length with h|h
   ·exact h
   ·rw[List.getElem?_eq_none h]at hi;cases hi
  obtain⟨r,k1,k2,s',xs',k3,k4⟩:=has i hi'
  rw[hi]at k3
  injection k3 with k3
  injection k3 with k3 k5
  subst k3;subst k5
  have:=Row.kept (x:=x) (y:=⟨x.w,F',x.ρ⟩) ⟨Nat.le_refl _,fun _ _ _=>rfl,fun b _ hb=>hF b hb⟩ rfl (fun _=>rfl) (h.st r _ k4)
  show(Row.sl s xs).rel _ (x.ρ (ids.getD i 0))
  rw[k2]
  simp only[Row.rel]at this ⊢
  exact this
 ·obtain⟨r,k1,k2,s,xs,k3,k4⟩:=has i hi
  obtain⟨q,l1,l2,s',xs',l3,l4⟩:=has j hj
  have hne:r≠q:=fun hrq=>by
   subst hrq
   have hil:i<ids.length:=by omega
   have hjl:j<ids.length:=by omega
   have e1:ids[i]=r:=by simpa[hil]using k1
   have e2:ids[j]=r:=by simpa[hjl]using l1
   exact hij ((List.getElem_inj h2).1 (e1.trans e2.symm))
  have:=h.inj r _ q _ k4 l4 hne (by rw[←k2];exact hoi) (by rw[←l2];exact hoj)
  show(x.ρ (ids.getD i 0)).blk≠(x.ρ (ids.getD j 0)).blk
  rw[k2,l2];exact this
 ·obtain⟨r,k1,k2,s,xs,k3,k4⟩:=has i hi
  have:=h.own r _ k4 (by rw[←k2];exact hok)
  show e.w0.heap.size≤(x.ρ (ids.getD i 0)).blk
  rw[k2];exact this.resolve_right (hL _)
def BW (tmps:Array Value):ResultVar→Sem Value
 | .tmp t=>pure (tmps.getD t undef)
 | .cell a t=>do loadVar t (←asAddr (tmps.getD a undef))
theorem qC {P:Program} (h:SRel e σ x a):∀{rvs:List ResultVar} {qs:List RV} {us:List AV},kD P rvs=some qs→rT σ qs=some us→∃cvs,aD x us cvs∧(rvs.mapM (BW a.tmps)).run P x.w=.ok cvs x.w
 | [],qs,us,hq,hr=>by
  simp only[kD,Option.some.injEq]at hq;subst hq
  simp only[rT,Option.some.injEq]at hr;subst hr
  exact⟨[],by simp only[aD],by simp⟩
 | .tmp t::rvs,qs,us,hq,hr=>by
  simp only[kD]at hq
  split at hq
  ·rename_i qs' hqs
   injection hq with hq;subst hq
   simp only[rT]at hr
   split at hr
   ·rename_i vs hvs
    injection hr with hr;subst hr
    obtain⟨cvs,h1,h2⟩:=qC h hqs hvs
    exact⟨_::cvs,by simp only[aD];exact⟨_,_,rfl,h.get t,h1⟩,by simp[List.mapM_cons,BW,h2]⟩
   ·cases hr
  ·cases hq
 | .cell t ty::rvs,qs,us,hq,hr=>by
  simp only[kD]at hq
  split at hq
  ·rename_i qs' d i hqs hd hi
   injection hq with hq;subst hq
   simp only[rT]at hr
   split at hr
   ·rename_i vs row hvs hp
    split at hr
    ·rename_i cs hst
     split at hr
     ·rename_i hc
      injection hr with hr;subst hr
      obtain⟨cvs,h1,h2⟩:=qC h hqs hvs
      have hv:=h.get t
      rw[hp]at hv
      simp only[aB,Nat.add_zero]at hv
      have hrow:=h.st row _ (aH hst)
      simp only[Row.rel]at hrow
      obtain⟨hok,_,hcells⟩:=hrow
      have hcut:=hcells.cut 0 i.size (by omega)
      obtain⟨ws,g1,g2,g3⟩:=hcut
      have hload:=lZ hd hi (x.ρ row).blk ((x.ρ row).base+0) ws g1 hc.2 g3
      have hload':(loadVar ty ⟨(x.ρ row).blk,(x.ρ row).base,none⟩).run P x.w=.ok (if bG P ty then .agg ⟨ws⟩else ws.getD 0 undef) x.w:=by
       rw[←hload]
       simp[Instr.loadAt,Instr.sureAddr]
      refine⟨(if bG P ty then .agg ⟨ws⟩else ws.getD 0 undef)::cvs,?_,?_⟩
      ·simp only[aD]
       refine⟨_,_,rfl,?_,h1⟩
       unfold BL
       cases ha:bG P ty
       ·rcases hc.2 with h3|h3
        ·rw[ha]at h3;cases h3
        ·rw[h3]at g1 g2
         have hlt:0<cs.length:=by omega
         have e:(cs.drop 0).take 1=[cs.getD 0 .un]:=by
          rw[List.drop_eq_getElem_cons hlt,List.take_succ_cons,List.take_zero];simp[List.getD_eq_getElem?_getD,hlt]
         rw[e]at g2
         simp only[aD]at g2
         obtain⟨v0,r,rfl,h5,_⟩:=g2
         simpa using h5
       ·simp only[if_true]
        exact kP g2
      ·simp only[List.mapM_cons,BW,Sem.run_bind,hv,asAddr,Sem.run_pure,Result.andThen_ok,hload',h2]
     ·cases hr
    ·cases hr
   ·cases hr
  ·cases hq
theorem l0 {P:Program} {fn:Func} (h:SRel e σ x a) {qs:List RV} {us:List AV} (hq:kD P fn.results.toList=some qs) (hr:rT σ qs=some us):
  ∃cvs,aD x us cvs∧(results fn a.tmps).run P x.w=.ok (if h:(⟨cvs⟩:Array Value).size=1 then(⟨cvs⟩:Array Value)[0]else .tuple ⟨cvs⟩) x.w:=by
 obtain⟨cvs,h1,h2⟩:=qC h hq hr
 refine⟨cvs,h1,?_⟩
 have hf:results fn a.tmps=(do
   let vs ←fn.results.mapM (BW a.tmps)
   pure (if h:vs.size=1 then vs[0]else .tuple vs)):=by
  unfold results
  congr 1
 rw[hf,Array.mapM_eq_mapM_toList]
 simp[h2]
theorem Bq {P:Program} {w:World} {F:Nat→Prop} {ρ:Nat→Loc}:∀{ps:List PV} {vs:List Value} {i k:Nat} {v:AV},aE w F ps vs→(k,v)∈entry i ps→∃cv j,k=i+j∧vs[j]?=some cv∧aB ⟨w,F,ρ⟩ v cv
 | [],_,_,_,_,_,h=>by simp[entry]at h
 | p::ps,vs,i,k,v,hp,h=>by
  simp only[aE]at hp
  obtain⟨c,r,rfl,h1,h2⟩:=hp
  simp only[entry]at h
  rcases List.mem_cons.1 h with h|h
  ·injection h with h3 h4
   subst h3;subst h4
   exact⟨c,0,rfl,rfl,by simpa only[aB]using h1⟩
  ·obtain⟨cv,j,g1,g2,g3⟩:=Bq (P:=P) (ρ:=ρ) h2 h
   exact⟨cv,j+1,by omega,by simpa using g2,g3⟩
theorem uH {w:World} {F:Nat→Prop}:∀{ps:List PV} {vs:List Value},aE w F ps vs→vs.length=ps.length
 | [],_,h=>by simp only[aE]at h;subst h;rfl
 | p::ps,vs,h=>by
  simp only[aE]at h
  obtain⟨c,r,rfl,h1,h2⟩:=h
  simp[uH h2]
theorem QS {P:Program} {f:FuncId} {fn:Func} {c:Code} {m:MC} {owns:List Nat} {rd:List (Nat×RD)} {args:List PV} {v:AV} {rs:List (Nat×List PV)} {rvs:List RV} (ids:List Bool)
  (hm:P.follows .mixedOrders=true) (hf:P.funcs[f]?=some fn) (hname:(fn.name == "runtime.NumGoroutine")=false) (hb:fn.body=some c) (hc:bX P owns fn.ntmps rd c=some m)
  (hr:kD P fn.results.toList=some rvs) (hn:args.length≤fn.ntmps) (hsm:fn.ntmps≤100000) (hv:m.vc P (uL rvs ids v rs) ⟨entry 0 args,[]⟩):Fn P f args v rs:=by
 refine⟨fT hf hname hb,fun w F vs hF htb hargs=>calls_of_wp hf hb ?_⟩
 let e:Env:=⟨P,w,F,fn.ntmps,fun _=>False,fun _=>default,[]⟩
 have:EP e P:=⟨rfl⟩
 have hlen:=uH hargs
 have hS:SRel e ⟨entry 0 args,[]⟩ ⟨w,F,fun _=>default⟩ { tmps:=(⟨vs⟩:Array Value)++Array.replicate (fn.ntmps-(⟨vs⟩:Array Value).size) undef,defers:=[] }:={
  defers:=rfl
  size:=by simp[e,hlen];omega
  fr:=fun k u hm=>by
   obtain⟨cv,j,h1,h2,h3⟩:=Bq (P:=P) (ρ:=fun _=>default) hargs hm
   refine⟨cv,?_,h3⟩
   have hj:j<vs.length:=(List.getElem?_eq_some_iff.1 h2).1
   have hkj:k=j:=by omega
   subst hkj
   rw[Array.getElem?_append_left (by simpa using hj)]
   simpa using h2
  st:=fun r row hm=>by cases hm
  keys:=by simp
  inj:=fun r row r' row' hm=>by cases hm
  F:=fun b=>⟨.inl,fun hb=>hb.elim id fun⟨_,_,hm,_⟩=>by cases hm⟩
  own:=fun r row hm=>by cases hm
  f0:=fun b hb=>⟨hF b hb,fun h=>h⟩
  tabs:=htb.sub fun b h=>h.elim id fun h=>h.elim
  below:=BelowL.refl _ _
  fix:=fun _ _=>rfl
  small:=hsm }
 refine wp_mono (MC.sound (e:=e) hm c m hc _ _ _ _ hS hv) fun ex a w' hq=>?_
 have fin:∀{σ:St} {y:Cx},SRel e σ y a→y.w=w'→C7 rvs ids v rs σ→a.defers=[]∧∃cv,(results fn a.tmps).run P w'=.ok cv w'∧∃cv' z,Ending.returned cv=Ending.returned cv'∧z.w=w'∧Res w F z v rs cv':=fun {σ y} hs hw hk=>by
  unfold C7 at hk
  split at hk
  ·rename_i us k1
   split at hk
   ·rename_i vs' k2
    obtain⟨k3,k4,k5⟩:=hk
    obtain⟨cvs,g1,g2⟩:=l0 hs hr k1
    obtain⟨z,l1,l2⟩:=Nx hs (fun _ h=>h) k2 k3 k4 g1
    subst hw
    rw[k5]at l2
    exact⟨hs.defers,_,g2,_,z,rfl,l1,l2⟩
   ·exact hk.elim
  ·exact hk.elim
 cases ex with
 | normal=>obtain⟨σ,y,h1,h2,h3⟩:=hq;exact fin h1 h2 h3
 | ret=>obtain⟨σ,y,h1,h2,h3⟩:=hq;exact fin h1 h2 h3
 | exit id=>obtain⟨σ,y,h1,h2,h3⟩:=hq;exact h3.elim
 | _=>exact hq.elim
end
end Go.Vc

namespace Go.Vc
open Go.RowKit
def fY:Nat→List AV→List (Nat×AV)
 | _,[]=>[]
 | i,p::ps=>(i,p)::fY (i+1) ps
def MZ (st:List (Nat×Row)) (ks:List Nat):AV→Option AV
 | .row r off n=>if ks.contains r then some (.row r off n)else match cV (iD st ks) 5 (.row r off n)with
  | some p=>some (.pv p)
  | none=>none
 | .ptr r off=>if ks.contains r then some (.ptr r off)else match cV (iD st ks) 5 (.ptr r off)with
  | some p=>some (.pv p)
  | none=>none
 | .rptr r i off=>if ks.contains r then some (.rptr r i off)else match cV (iD st ks) 5 (.rptr r i off)with
  | some p=>some (.pv p)
  | none=>none
 | v=>match cV (iD st ks) 5 v with
  | some p=>some (.pv p)
  | none=>none
def x7 (st:List (Nat×Row)) (ks:List Nat):List AV→Option (List AV)
 | []=>some []
 | v::vs=>match MZ st ks v,x7 st ks vs with
  | some u,some us=>some (u::us)
  | _,_=>none
def m9 (l:List (Nat×Row)):List (Nat×Row)→Prop
 | []=>True
 | (r,row)::rs=>aL l r=some row∧m9 l rs
def BM (rvs:List RV) (v:AV) (st':List (Nat×Row)) (σ:St):Prop:=
 match rT σ rvs with
 | some us=>match x7 σ.st (st'.map (·.1)) us with
  | some vs=>sH vs=v∧m9 σ.st st'
  | none=>False
 | none=>False
def CJ (rvs:List RV) (v:AV) (st':List (Nat×Row)):Exit→St→Prop
 | .normal,σ=>BM rvs v st' σ
 | .ret,σ=>BM rvs v st' σ
 | _,_=>False
theorem uD {l:List (Nat×Row)}:∀{st:List (Nat×Row)},m9 l st→∀r row,(r,row)∈st→(r,row)∈l
 | [],_,_,_,h=>by cases h
 | (q,u)::st,h,r,row,hm=>by
  simp only[m9]at h
  rcases List.mem_cons.1 hm with hm|hm
  ·injection hm with h1 h2;subst h1;subst h2;exact aH h.1
  ·exact uD h.2 r row hm
section
variable {e:Env} {σ:St} {x:Cx} {a:Act}
theorem A6 (h:SRel e σ x a) {ks:List Nat} {y:Cx} (hw:y.w=x.w) (hρ:y.ρ=x.ρ) (hF:∀b,y.F b→x.F b)
  (hst:∀r row,(r,row)∈iD σ.st ks→(x.ρ r).ok=true→¬y.F (x.ρ r).blk):∀{us vs:List AV} {cvs:List Value},x7 σ.st ks us=some vs→aD x us cvs→aD y vs cvs
 | [],vs,cvs,ho,hv=>by
  simp only[x7,Option.some.injEq]at ho;subst ho
  simpa only[aD]using hv
 | u::us,vs,cvs,ho,hv=>by
  simp only[x7]at ho
  split at ho
  ·rename_i v vs' h1 h2
   injection ho with ho;subst ho
   simp only[aD]at hv ⊢
   obtain⟨c,r,rfl,h3,h4⟩:=hv
   refine⟨c,r,rfl,?_,A6 h hw hρ hF hst h2 h4⟩
   have sn:∀{v:AV} {p:PV},cV (iD σ.st ks) 5 v=some p→aB x v c→aB y (.pv p) c:=fun hs hv=>by
    simp only[aB]
    rw[hw]
    exact uX h (fun r row hm=>(lG hm).1) hF hst 5 _ _ _ hs hv
   unfold MZ at h1
   split at h1
   ·split at h1
    ·injection h1 with h1;subst h1
     simp only[aB]at h3 ⊢
     rw[hρ];exact h3
    ·split at h1
     ·rename_i p hp
      injection h1 with h1;subst h1
      exact sn hp h3
     ·cases h1
   ·split at h1
    ·injection h1 with h1;subst h1
     simp only[aB]at h3 ⊢
     rw[hρ];exact h3
    ·split at h1
     ·rename_i p hp
      injection h1 with h1;subst h1
      exact sn hp h3
     ·cases h1
   ·split at h1
    ·injection h1 with h1;subst h1
     simp only[aB]at h3 ⊢
     rw[hρ];exact h3
    ·split at h1
     ·rename_i p hp
      injection h1 with h1;subst h1
      exact sn hp h3
     ·cases h1
   ·split at h1
    ·rename_i p hp
     injection h1 with h1;subst h1
     exact sn hp h3
    ·cases h1
  ·cases ho
theorem Ch (h:SRel e σ x a) {x0:Cx} {st:List (Nat×Row)} (hw0:e.w0=x0.w) (hF0:e.F0=fun b=>x0.F b∧¬d6 st x0.ρ b) (hL:e.L=d6 st x0.ρ) (hρ0:e.ρ0=x0.ρ)
  {st':List (Nat×Row)} {us vs:List AV} {cvs:List Value} (h1:x7 σ.st (st'.map (·.1)) us=some vs) (h2:(st'.map (·.1)).Nodup) (h3:m9 σ.st st') (h4:aD x us cvs):
  ∃y,y.w=x.w∧ResS x0 st y (sH vs) st' (if h:(⟨cvs⟩:Array Value).size=1 then(⟨cvs⟩:Array Value)[0]else .tuple ⟨cvs⟩):=by
 have hm:=uD h3
 have hF:∀b,(e.F0 b∨d6 st' x.ρ b)→x.F b:=fun b hb=>(h.F b).2 (hb.imp id fun⟨r,row,k1,k2⟩=>⟨r,row,hm r row k1,k2⟩)
 refine⟨⟨x.w,fun b=>e.F0 b∨d6 st' x.ρ b,x.ρ⟩,rfl,{
  below:=by rw[←hw0,←hL];exact h.below
  val:=zT (A6 h (y:=⟨x.w,fun b=>e.F0 b∨d6 st' x.ρ b,x.ρ⟩) rfl rfl hF (fun r row hr hok hb=>?_) h1 h4)
  st:=fun r row hr=>Row.kept (x:=x) (y:=⟨x.w,fun b=>e.F0 b∨d6 st' x.ρ b,x.ρ⟩) ⟨Nat.le_refl _,fun _ _ _=>rfl,fun b _ hb=>hF b hb⟩ rfl (fun _=>rfl) (h.st r row (hm r row hr))
  keys:=h2
  inj:=fun r row r' row' k1 k2=>h.inj r row r' row' (hm r row k1) (hm r' row' k2)
  own:=fun r row hr hok=>by
   rw[←hw0,←hL]
   exact h.own r row (hm r row hr) hok
  F:=fun b=>by
   show(e.F0 b∨d6 st' x.ρ b)↔_
   rw[hF0]
  stay:=fun r hr=>by rw[←hρ0];exact h.fix r hr }⟩
 obtain⟨m1,m2⟩:=lG hr
 rcases hb with hb|⟨q,u,k1,k2,k3⟩
 ·have h8:=h.f0 _ hb
  rcases h.own r row m1 hok with h9|h9
  ·omega
  ·exact h8.2 h9
 ·have hq:q≠r:=fun hq=>m2 (hq▸List.mem_map.2 ⟨_,k1,rfl⟩)
  exact h.inj q u r row (hm q u k1) m1 hq k2 hok k3
theorem oD {x:Cx}:∀{ps:List AV} {vs:List Value} {i k:Nat} {v:AV},aD x ps vs→(k,v)∈fY i ps→∃cv j,k=i+j∧vs[j]?=some cv∧aB x v cv
 | [],_,_,_,_,_,h=>by simp[fY]at h
 | p::ps,vs,i,k,v,hp,h=>by
  simp only[aD]at hp
  obtain⟨c,r,rfl,h1,h2⟩:=hp
  simp only[fY]at h
  rcases List.mem_cons.1 h with h|h
  ·injection h with h3 h4
   subst h3;subst h4
   exact⟨c,0,rfl,rfl,h1⟩
  ·obtain⟨cv,j,g1,g2,g3⟩:=oD h2 h
   exact⟨cv,j+1,by omega,by simpa using g2,g3⟩
theorem kM {x:Cx}:∀{ps:List AV} {vs:List Value},aD x ps vs→vs.length=ps.length
 | [],_,h=>by simp only[aD]at h;subst h;rfl
 | p::ps,vs,h=>by
  simp only[aD]at h
  obtain⟨c,r,rfl,h1,h2⟩:=h
  simp[kM h2]
theorem OA {P:Program} {f:FuncId} {fn:Func} {c:Code} {m:MC} {owns:List Nat} {rd:List (Nat×RD)} {args:List AV} {st:List (Nat×Row)} {v:AV} {st':List (Nat×Row)} {rvs:List RV}
  (hm:P.follows .mixedOrders=true) (hf:P.funcs[f]?=some fn) (hname:(fn.name == "runtime.NumGoroutine")=false) (hb:fn.body=some c) (hc:bX P owns fn.ntmps rd c=some m)
  (hr:kD P fn.results.toList=some rvs) (hn:args.length≤fn.ntmps) (hsm:fn.ntmps≤100000) (hk:(st'.map (·.1)).Nodup) (hv:m.vc P (CJ rvs v st') ⟨fY 0 args,st⟩):j4 P f args st v st':=by
 refine⟨fT hf hname hb,fun x vs hF htb hl hargs=>calls_of_wp hf hb ?_⟩
 let e:Env:=⟨P,x.w,fun b=>x.F b∧¬d6 st x.ρ b,fn.ntmps,d6 st x.ρ,x.ρ,[]⟩
 have:EP e P:=⟨rfl⟩
 have hlen:=kM hargs
 have hown:∀b,d6 st x.ρ b→x.F b:=fun b ⟨r,row,h1,h2,h3⟩=>h3▸hl.F r row h1 h2
 have hS:SRel e ⟨fY 0 args,st⟩ x { tmps:=(⟨vs⟩:Array Value)++Array.replicate (fn.ntmps-(⟨vs⟩:Array Value).size) undef,defers:=[] }:={
  defers:=rfl
  size:=by simp[e,hlen];omega
  fr:=fun k u hm=>by
   obtain⟨cv,j,h1,h2,h3⟩:=oD hargs hm
   refine⟨cv,?_,h3⟩
   have hj:j<vs.length:=(List.getElem?_eq_some_iff.1 h2).1
   have hkj:k=j:=by omega
   subst hkj
   rw[Array.getElem?_append_left (by simpa using hj)]
   simpa using h2
  st:=hl.st
  keys:=hl.keys
  inj:=hl.inj
  F:=fun b=>by
   show x.F b↔(x.F b∧¬d6 st x.ρ b)∨d6 st x.ρ b
   constructor
   ·intro hb
    by_cases ho:d6 st x.ρ b
    ·exact .inr ho
    ·exact .inl ⟨hb,ho⟩
   ·rintro(hb|hb)
    ·exact hb.1
    ·exact hown b hb
  own:=fun r row hm hok=>.inr ⟨r,row,hm,hok,rfl⟩
  f0:=fun b hb=>⟨hF b hb.1,hb.2⟩
  tabs:=htb.sub fun b h=>h.elim (fun h=>h.1) (fun h=>hown b h)
  below:=BelowL.refl _ _
  fix:=fun _ _=>rfl
  small:=hsm }
 refine wp_mono (MC.sound (e:=e) hm c m hc _ _ _ _ hS hv) fun ex a w' hq=>?_
 have fin:∀{σ:St} {y:Cx},SRel e σ y a→y.w=w'→BM rvs v st' σ→a.defers=[]∧∃cv,(results fn a.tmps).run P w'=.ok cv w'∧∃cv' z,Ending.returned cv=Ending.returned cv'∧z.w=w'∧ResS x st z v st' cv':=fun {σ y} hs hw hk'=>by
  unfold BM at hk'
  split at hk'
  ·rename_i us k1
   split at hk'
   ·rename_i vs' k2
    obtain⟨k3,k4⟩:=hk'
    obtain⟨cvs,g1,g2⟩:=l0 hs hr k1
    obtain⟨z,l1,l2⟩:=Ch hs (x0:=x) (st:=st) rfl rfl rfl rfl k2 hk k4 g1
    subst hw
    rw[k3]at l2
    exact⟨hs.defers,_,g2,_,z,rfl,l1,l2⟩
   ·exact hk'.elim
  ·exact hk'.elim
 cases ex with
 | normal=>obtain⟨σ,y,h1,h2,h3⟩:=hq;exact fin h1 h2 h3
 | ret=>obtain⟨σ,y,h1,h2,h3⟩:=hq;exact fin h1 h2 h3
 | exit id=>obtain⟨σ,y,h1,h2,h3⟩:=hq;exact h3.elim
 | _=>exact hq.elim
end
end Go.Vc

namespace Go.Vc
open Go.RowKit
set_option linter.constructorNameAsVariable false
inductive KI where
 | code (m:MC)
 | blk (id:Nat)
 | lp (inv:St→Prop)
def eE (P:Program) (R:Exit→St→Prop):List KI→Exit→St→Prop
 | [],ex,σ=>R ex σ
 | .code m::k,ex,σ=>match ex with
  | .normal=>m.vc P (eE P R k) σ
  | ex=>eE P R k ex σ
 | .blk id::k,ex,σ=>match ex with
  | .exit i=>if i=id then eE P R k .normal σ else eE P R k (.exit i) σ
  | ex=>eE P R k ex σ
 | .lp inv::k,ex,σ=>match ex with
  | .normal=>inv σ
  | ex=>eE P R k ex σ
def run (P:Program) (R:Exit→St→Prop) (m:MC) (k:List KI) (σ:St):Prop:=m.vc P (eE P R k) σ
def aU (P:Program) (R:Exit→St→Prop) (l:List Inst) (vs:List (Nat×Nat×Nat)) (keep rows:List Nat) (k:List KI) (σ:St):Prop:=aX P l σ (fun σ'=>eE P R k .normal ((σ'.virts vs).norm keep rows))
def mK (P:Program) (R:Exit→St→Prop) (N:List Nat) (l:List GI) (keep rows:List Nat) (k:List KI) (σ:St):Prop:=QT P N l σ (fun σ'=>eE P R k .normal (σ'.norm keep rows))
section
variable {P:Program} {R:Exit→St→Prop} {k:List KI} {σ:St}
theorem IT:run P R .skip k σ=eE P R k .normal σ:=rfl
theorem KW:run P R .bad k σ=False:=rfl
theorem KS {a b:MC}:run P R (.seq a b) k σ=run P R a (.code b::k) σ:=by
 unfold run
 simp only[MC.vc]
 congr 1
 funext ex σ'
 cases ex<;>simp[AJ,eE]
theorem KU {l:List Inst} {vs:List (Nat×Nat×Nat)} {keep rows:List Nat}:run P R (.reg l vs keep rows) k σ=aU P R l vs keep rows k σ:=by
 simp only[run,MC.vc,aU]
theorem KX {a b:MC}:run P R (.alt a b) k σ=(run P R a k σ∧run P R b k σ):=rfl
theorem KV {N:List Nat} {l:List GI} {keep rows:List Nat}:run P R (.grp N l keep rows) k σ=mK P R N l keep rows k (σ.strip N):=by
 simp only[run,MC.vc,mK]
theorem IV {c:Opd} {a b:MC} {t:Bool} (h:c.ev σ=aY t) (ht:t=true→run P R a k σ) (hf:t=false→run P R b k σ):run P R (.cond c a b) k σ:=by
 simp only[run,MC.vc]
 exact⟨t,h,ht,hf⟩
def EA (P:Program) (R:Exit→St→Prop) (a b:MC) (k:List KI) (σ:St):AV→Prop
 | .pv (.sc (.bool t))=>(t=true→run P R a k σ)∧(t=false→run P R b k σ)
 | _=>False
theorem DZ {c:Opd} {a b:MC}:run P R (.cond c a b) k σ=EA P R a b k σ (c.ev σ):=by
 refine propext ⟨fun h=>?_,fun h=>?_⟩
 ·simp only[run,MC.vc]at h
  obtain⟨t,h1,h2,h3⟩:=h
  rw[h1]
  exact⟨h2,h3⟩
 ·unfold EA at h
  split at h
  ·rename_i t ht
   exact IV ht h.1 h.2
  ·exact h.elim
theorem Gw {id:Nat} {b:MC}:run P R (.block id b) k σ=run P R b (.blk id::k) σ:=by
 unfold run
 simp only[MC.vc]
 congr 1
 funext ex σ'
 cases ex<;>simp[EB,eE]
theorem aZ {b:MC} {T:Type} (I:T→St) (G:T→Prop) (μ:T→Nat) (t₀:T) (h0:σ=I t₀) (hG:G t₀)
  (h:∀t,G t→run P R b (.lp (fun σ'=>∃t',σ'=I t'∧G t'∧μ t'<μ t)::k) (I t)):run P R (.loop b) k σ:=by
 simp only[run,MC.vc]
 refine⟨T,I,fun σ' t=>σ'=I t,G,μ,t₀,fun σ' t hw=>by rw[hw];exact eC.refl _,h0,hG,fun t ht=>?_⟩
 have:=h t ht
 unfold run at this
 refine Eq.mp ?_ this
 congr 1
 funext ex σ'
 cases ex<;>simp[AJ,eE]
theorem u6 {b:MC} {T:Type} (I:T→St) (W:St→T→Prop) (hW:∀σ t,W σ t→eC σ (I t)) (G:T→Prop) (μ:T→Nat) (t₀:T) (h0:W σ t₀) (hG:G t₀)
  (h:∀t,G t→run P R b (.lp (fun σ'=>∃t',W σ' t'∧G t'∧μ t'<μ t)::k) (I t)):run P R (.loop b) k σ:=by
 simp only[run,MC.vc]
 refine⟨T,I,W,G,μ,t₀,hW,h0,hG,fun t ht=>?_⟩
 have:=h t ht
 unfold run at this
 refine Eq.mp ?_ this
 congr 1
 funext ex σ'
 cases ex<;>simp[AJ,eE]
theorem bK {b:MC} {T:Type} (keep rows:List Nat) (I:T→St) (G:T→Prop) (μ:T→Nat) (t₀:T) (h0:σ.norm keep rows=I t₀) (hG:G t₀)
  (h:∀t,G t→run P R b (.lp (fun σ'=>∃t',σ'.norm keep rows=I t'∧G t'∧μ t'<μ t)::k) (I t)):run P R (.loop b) k σ:=
 u6 I (fun σ' t=>σ'.norm keep rows=I t) (fun σ' t hw=>by rw[←hw];exact eC.norm _ _ _) G μ t₀ h0 hG h
theorem IU {id:Nat}:run P R (.exit id) k σ=eE P R k (.exit id) σ:=rfl
theorem KT:run P R .ret k σ=eE P R k .ret σ:=rfl
theorem yZ {ex:Exit}:eE P R [] ex σ=R ex σ:=rfl
theorem G6 {m:MC}:eE P R (.code m::k) .normal σ=run P R m k σ:=rfl
theorem r9 {m:MC}:eE P R (.code m::k) .ret σ=eE P R k .ret σ:=rfl
theorem At {m:MC} {i:Nat}:eE P R (.code m::k) (.exit i) σ=eE P R k (.exit i) σ:=rfl
theorem Ju {id:Nat}:eE P R (.blk id::k) .normal σ=eE P R k .normal σ:=rfl
theorem uC {id:Nat}:eE P R (.blk id::k) .ret σ=eE P R k .ret σ:=rfl
theorem AD {id i:Nat}:eE P R (.blk id::k) (.exit i) σ=if i=id then eE P R k .normal σ else eE P R k (.exit i) σ:=rfl
theorem Lx {inv:St→Prop}:eE P R (.lp inv::k) .normal σ=inv σ:=rfl
theorem wO {inv:St→Prop}:eE P R (.lp inv::k) .ret σ=eE P R k .ret σ:=rfl
theorem Cz {inv:St→Prop} {i:Nat}:eE P R (.lp inv::k) (.exit i) σ=eE P R k (.exit i) σ:=rfl
variable {is:List Inst} {vs:List (Nat×Nat×Nat)} {keep rows:List Nat} {d:Nat}
theorem IX:aU P R [] vs keep rows k σ=eE P R k .normal ((σ.virts vs).norm keep rows):=rfl
theorem Nv {q:Q}:aU P R (⟨some d,none,.q q⟩::is) vs keep rows k σ=(q.pre σ∧aU P R is vs keep rows k (σ.put d (q.val σ))):=by
 simp only[aU,aX,bO]
theorem KZ {q:Q} {t:Nat} {b:Bool}:aU P R (⟨some d,some (t,b),.q q⟩::is) vs keep rows k σ=
  ((bC σ.fr t).gok∧((bC σ.fr t).gv b=true→q.pre σ)∧aU P R is vs keep rows k (σ.put d (.whn ((bC σ.fr t).gv b) (q.val σ)))):=by
 simp only[aU,aX,sX]
theorem EO {z:List AV}:aU P R (⟨some d,none,.alloc z⟩::is) vs keep rows k σ=aU P R is vs keep rows k ((σ.newRow d (.box (AV.clips (only d) z))).put d (.ptr d 0)):=by
 simp only[aU,aX,bO]
theorem I4 {x:Opd}:aU P R (⟨some d,none,.box x⟩::is) vs keep rows k σ=
  (x.cd σ=true∧Av (x.sv σ)=true∧aU P R is vs keep rows k ((σ.newRow d (.box (AV.clips (only d) (x.sv σ).cells))).put d (.ptr d 0))):=by
 simp only[aU,aX,bO]
theorem GE {xs:List Opd} {s:Nat}:aU P R (⟨some d,none,.lits xs s⟩::is) vs keep rows k σ=
  ((e8 σ xs=true∧iY (eD σ xs)=true∧oX s (eD σ xs)∧xs.length*s≤16777216)∧aU P R is vs keep rows k (σ.put d (oP (eD σ xs)))):=by
 simp only[aU,aX,bO]
theorem EK {xs:List Opd} {s t:Nat} {b:Bool}:aU P R (⟨some d,some (t,b),.lits xs s⟩::is) vs keep rows k σ=
  ((bC σ.fr t).gok∧((bC σ.fr t).gv b=true→e8 σ xs=true∧iY (eD σ xs)=true∧oX s (eD σ xs)∧xs.length*s≤16777216)∧
   aU P R is vs keep rows k (σ.put d (.whn ((bC σ.fr t).gv b) (oP (eD σ xs))))):=by
 simp only[aU,aX,sX]
theorem IW {xs:List Opd} {s:Nat}:aU P R (⟨some d,none,.own xs s⟩::is) vs keep rows k σ=
  ((e8 σ xs=true∧iY (eD σ xs)=true∧oX s (eD σ xs)∧xs.length*s≤16777216∧(∀v∈eD σ xs,∀c∈v.cells,AV.one c=true)∧∃ps,cH (eD σ xs)=some ps)∧
   aU P R is vs keep rows k ((σ.newRow d (.sl s (vU (eD σ xs)))).put d (.row d 0 xs.length))):=by
 simp only[aU,aX,bO]
theorem IZ {l c:Opd} {s bytes:Nat} {z:PV}:aU P R (⟨some d,none,.mks l c s bytes z⟩::is) vs keep rows k σ=
  ((l.cd σ=true∧c.cd σ=true∧eO (l.sv σ)∧eO (c.sv σ)∧0≤cQ (l.sv σ)∧cQ (l.sv σ)≤cQ (c.sv σ)∧(bytes:Int)*cQ (c.sv σ)≤281474976710656∧cQ (c.sv σ)≤9223372036854775807)∧
   aU P R is vs keep rows k ((σ.newRow d (.sl s (List.replicate (cQ (l.sv σ)).toNat z))).put d (.row d 0 (cQ (l.sv σ)).toNat))):=by
 simp only[aU,aX,bO]
theorem IY {l c:Opd} {bytes:Nat} {z:AV}:aU P R (⟨some d,none,.mkx l c bytes z⟩::is) vs keep rows k σ=
  ((l.cd σ=true∧c.cd σ=true∧eO (l.sv σ)∧eO (c.sv σ)∧0≤cQ (l.sv σ)∧cQ (l.sv σ)=cQ (c.sv σ)∧(bytes:Int)*cQ (c.sv σ)≤281474976710656∧cQ (c.sv σ)≤9223372036854775807)∧
   aU P R is vs keep rows k ((σ.newRow d (.bxs (List.replicate (cQ (l.sv σ)).toNat z))).put d (.row d 0 (cQ (l.sv σ)).toNat))):=by
 simp only[aU,aX,bO]
theorem KY {p x:Opd} {n:Nat}:aU P R (⟨none,none,.st p x n⟩::is) vs keep rows k σ=
  ((p.cd σ=true∧x.cd σ=true∧Kb σ n (x.sv σ) (p.sv σ))∧aU P R is vs keep rows k (Ka σ (x.sv σ) (p.sv σ))):=by
 simp only[aU,aX,bO]
theorem I5 {b s':Opd} {s bytes:Nat}:aU P R (⟨some d,none,.app b s' s bytes⟩::is) vs keep rows k σ=
  ((b.cd σ=true∧s'.cd σ=true∧tD σ s bytes (b.sv σ) (s'.sv σ))∧aU P R is vs keep rows k (v8 σ d s (b.sv σ) (s'.sv σ))):=by
 simp only[aU,aX,bO]
theorem GJ {b s':Opd} {s bytes:Nat}:aU P R (⟨some d,none,.appn b s' s bytes⟩::is) vs keep rows k σ=
  ((b.cd σ=true∧s'.cd σ=true∧HL (b.sv σ)∧tD σ s bytes .e0 (s'.sv σ)∧(kR (b.sv σ)=[]∨0<((mJ σ (s'.sv σ)).getD []).length)∧cY s (kR (b.sv σ))∧((kR (b.sv σ)).length+((mJ σ (s'.sv σ)).getD []).length)*bytes≤140737488355328∧(kR (b.sv σ)).length+((mJ σ (s'.sv σ)).getD []).length≤9223372036854775807)∧aU P R is vs keep rows k (σ.put d (.pv (.lst (kR (b.sv σ)++(mJ σ (s'.sv σ)).getD []))))):=by
 simp only[aU,aX,bO]
theorem GH {b s':Opd} {bytes:Nat}:aU P R (⟨some d,none,.appx b s' bytes⟩::is) vs keep rows k σ=
  ((b.cd σ=true∧s'.cd σ=true∧ED σ bytes (b.sv σ) (s'.sv σ))∧aU P R is vs keep rows k (B8 σ d (b.sv σ) (s'.sv σ))):=by
 simp only[aU,aX,bO]
theorem GL {b s':Opd} {s bytes t:Nat} {c:Bool}:aU P R (⟨some d,some (t,c),.app b s' s bytes⟩::is) vs keep rows k σ=((bC σ.fr t).gok∧(bC σ.fr t).gv c=true∧aU P R (⟨some d,none,.app b s' s bytes⟩::is) vs keep rows k σ):=by
 simp only[aU,aX,sX]
theorem GK {b s':Opd} {s bytes:Nat}:aU P R (⟨some d,none,.appi b s' s bytes⟩::is) vs keep rows k σ=
  ((b.cd σ=true∧s'.cd σ=true)∧B9 σ d s bytes (aU P R is vs keep rows k) (b.sv σ) (s'.sv σ)):=by
 simp only[aU,aX,bO]
 rfl
theorem I3 {x:Opd} {s:Nat} {z:PV}:aU P R (⟨none,none,.clr x s z⟩::is) vs keep rows k σ=(x.cd σ=true∧Fz σ s z (aU P R is vs keep rows k) (x.sv σ)):=by
 simp only[aU,aX,bO]
 rfl
theorem GF {x:Opd}:aU P R (⟨some d,none,.capr x⟩::is) vs keep rows k σ=(x.cd σ=true∧B6 σ d (aU P R is vs keep rows k) (x.sv σ)):=by
 simp only[aU,aX,bO]
 rfl
theorem GG {b y:Opd} {s bytes:Nat} {z:PV}:aU P R (⟨some d,none,.appz b y s bytes z⟩::is) vs keep rows k σ=((b.cd σ=true∧y.cd σ=true)∧B7 σ d s bytes z (aU P R is vs keep rows k) (b.sv σ) (y.sv σ)):=by
 simp only[aU,aX,bO]
 rfl
theorem I2 {b y:Opd} {s:Nat}:aU P R (⟨some d,none,.cpy b y s⟩::is) vs keep rows k σ=((b.cd σ=true∧y.cd σ=true)∧Fw σ d s (aU P R is vs keep rows k) (b.sv σ) (y.sv σ)):=by
 simp only[aU,aX,bO]
 rfl
theorem GC {y:Opd}:aU P R (⟨some d,none,.mkmr y⟩::is) vs keep rows k σ=((y.cd σ=true∧eO (y.sv σ))∧aU P R is vs keep rows k ((σ.newRow d (.mp [])).put d (.mp d))):=by
 simp only[aU,aX,bO]
theorem I1:aU P R (⟨some d,none,.mkm⟩::is) vs keep rows k σ=aU P R is vs keep rows k ((σ.newRow d (.mp [])).put d (.mp d)):=by
 simp only[aU,aX,bO]
def FS (P:Program) (R:Exit→St→Prop) (is:List Inst) (vs:List (Nat×Nat×Nat)) (keep rows:List Nat) (k:List KI) (σ:St) (kk:Kk):AV→AV→AV→Prop
 | .mp r,.pv key,.pv v=>match aL σ.st r with
  | some (.mp es)=>gA kk key∧aW kk key es∧aU P R is vs keep rows k ⟨σ.fr,(r,.mp (nP key v es))::aQ σ.st r⟩
  | some (.mpd es clock)=>gA kk key∧aW kk key (oT es)∧aU P R is vs keep rows k ⟨σ.fr,(r,.mpd (kU key v clock es) (Ef key es clock))::aQ σ.st r⟩
  | _=>False
 | .mp r,.pv key,v=>match aL σ.st r with
  | some (.mp [])=>gA kk key∧aU P R is vs keep rows k ⟨σ.fr,(r,.mpx [key] [v])::aQ σ.st r⟩
  | some (.mpx ks ws)=>(gA kk key∧aW kk key (LZ ks))∧rJ key ks ws=none∧aU P R is vs keep rows k ⟨σ.fr,(r,.mpx (ks++[key]) (ws++[v]))::aQ σ.st r⟩
  | _=>False
 | _,_,_=>False
theorem GB {m q v:Opd} {kk:Kk}:aU P R (⟨none,none,.mset m q v kk⟩::is) vs keep rows k σ=
  ((m.cd σ=true∧q.cd σ=true∧v.cd σ=true)∧FS P R is vs keep rows k σ kk (m.sv σ) (q.sv σ) (v.sv σ)):=by
 simp only[aU,aX,bO]
 rfl
theorem GD {m q:Opd} {kk:Kk}:aU P R (⟨none,none,.mdel m q kk⟩::is) vs keep rows k σ=((m.cd σ=true∧q.cd σ=true)∧B2 σ kk (aU P R is vs keep rows k) (m.sv σ) (q.sv σ)):=by
 simp only[aU,aX,bO]
 rfl
theorem Gy {y:Opd}:aU P R (⟨some d,none,.rngm y⟩::is) vs keep rows k σ=(y.cd σ=true∧BV σ d (aU P R is vs keep rows k) (y.sv σ)):=by
 simp only[aU,aX,bO]
 rfl
theorem Gx {y:Opd}:aU P R (⟨some d,none,.rngs y⟩::is) vs keep rows k σ=(y.cd σ=true∧BU σ d (aU P R is vs keep rows k) (y.sv σ)):=by
 simp only[aU,aX,bO]
 rfl
theorem GA {y:Opd}:aU P R (⟨some d,none,.nxtm y⟩::is) vs keep rows k σ=(y.cd σ=true∧B0 σ d (aU P R is vs keep rows k) (y.sv σ)):=by
 simp only[aU,aX,bO]
 rfl
theorem Gz {y:Opd}:aU P R (⟨some d,none,.nxts y⟩::is) vs keep rows k σ=(y.cd σ=true∧BZ σ d (aU P R is vs keep rows k) (y.sv σ)):=by
 simp only[aU,aX,bO]
 rfl
theorem wH {f:Opd} {args:List Opd} (m:Nat→Nat) {as:List AV} {st st':List (Nat×Row)} {v:AV} {g:FuncId} {avs:List AV} (hc:f.cd σ=true∧e8 σ args=true) (ha:(lW (f.sv σ)).map (fun t=>(t.1,t.2++eD σ args))=some (g,avs))
  (hF:j4 P g as st v st') (h1:AV.rns m as=avs) (h2:∀e∈st,(m e.1,e.2.rn m)∈σ.st) (h3:(st.map (·.1)).Nodup) (h4:((st.map (·.1)).map m).Nodup) (h5:((st'.map (·.1)).map m).Nodup)
  (h6:∀e∈st',e.1<200000→m e.1<200000) (h:aU P R is vs keep rows k (σ.afterS d m st v st')):aU P R (⟨some d,none,.calls f args⟩::is) vs keep rows k σ:=by
 simp only[aU,aX,bO]
 refine⟨hc,?_⟩
 cases hb:lW (f.sv σ)with
 | none=>rw[hb]at ha;cases ha
 | some t=>
  obtain⟨g',first⟩:=t
  rw[hb]at ha
  simp only[Option.map_some,Option.some.injEq,Prod.mk.injEq]at ha
  obtain⟨rfl,rfl⟩:=ha
  have hn:cA (f.sv σ)=none:=by
   unfold lW at hb
   split at hb
   ·rename_i h;rw[h];rfl
   ·cases hb
  rw[hn]
  exact⟨m,as,st,st',v,h1,fun r row hm=>h2 _ hm,h3,h4,h5,fun r row hm=>h6 _ hm,hF,h⟩
theorem D1 {f:Opd} {args:List Opd} {t:Nat} {b:Bool}:aU P R (⟨some d,some (t,b),.calls f args⟩::is) vs keep rows k σ=((bC σ.fr t).gok∧((bC σ.fr t).gv b=true→aU P R (⟨some d,none,.calls f args⟩::is) vs keep rows k σ)∧((bC σ.fr t).gv b=false→aU P R is vs keep rows k (σ.put d (.whn false .un)))):=by
 simp only[aU,aX,sX]
theorem aP {f:Opd} {args:List Opd} (m:Nat→Nat) {as:List AV} {st st':List (Nat×Row)} {v:AV} {g:FuncId} {avs:List AV} (hc:f.cd σ=true∧e8 σ args=true) (ha:(cA (f.sv σ)).map (fun t=>(t.1,eD σ args++t.2))=some (g,avs))
  (hF:j4 P g as st v st') (h1:AV.rns m as=avs) (h2:∀e∈st,(m e.1,e.2.rn m)∈σ.st) (h3:(st.map (·.1)).Nodup) (h4:((st.map (·.1)).map m).Nodup) (h5:((st'.map (·.1)).map m).Nodup)
  (h6:∀e∈st',e.1<200000→m e.1<200000) (h:aU P R is vs keep rows k (σ.afterS d m st v st')):aU P R (⟨some d,none,.calls f args⟩::is) vs keep rows k σ:=by
 simp only[aU,aX,bO]
 refine⟨hc,?_⟩
 cases hcal:cA (f.sv σ)with
 | none=>rw[hcal]at ha;cases ha
 | some t=>
  obtain⟨g',caps⟩:=t
  rw[hcal]at ha
  simp only[Option.map_some,Option.some.injEq,Prod.mk.injEq]at ha
  obtain⟨rfl,rfl⟩:=ha
  exact .inl ⟨m,as,st,st',v,h1,fun r row hm=>h2 _ hm,h3,h4,h5,fun r row hm=>h6 _ hm,hF,h⟩
theorem EN {f:Opd} {args:List Opd} {v:AV} {g:FuncId} {avs:List AV} (hc:f.cd σ=true∧e8 σ args=true) (ha:(cA (f.sv σ)).map (fun t=>(t.1,eD σ args++t.2))=some (g,avs))
  (hF:J2 P g avs σ.st v) (h:aU P R is vs keep rows k (σ.put d v)):aU P R (⟨some d,none,.calls f args⟩::is) vs keep rows k σ:=by
 simp only[aU,aX,bO]
 refine⟨hc,?_⟩
 cases hcal:cA (f.sv σ)with
 | none=>rw[hcal]at ha;cases ha
 | some t=>
  obtain⟨g',caps⟩:=t
  rw[hcal]at ha
  simp only[Option.map_some,Option.some.injEq,Prod.mk.injEq]at ha
  obtain⟨rfl,rfl⟩:=ha
  exact .inr ⟨v,hF,h⟩
theorem aC {f:Opd} {args:List Opd} {g:FuncId} {ps:List PV} {pure:Bool} {v:AV} {rs:List (Nat×List PV)} (hc:f.cd σ=true∧e8 σ args=true) (ha:cB σ f args=some (g,ps,pure))
  (hf:Fn P g ps v rs) (hp:pure=true∨(v.flat=true∧d9 rs)) (hr:j7 v rs) (h:aU P R is vs keep rows k (σ.after d v rs)):aU P R (⟨some d,none,.call f args⟩::is) vs keep rows k σ:=by
 simp only[aU,aX,bO]
 refine⟨hc,?_⟩
 rw[ha]
 exact⟨v,rs,hf,hp,hr,.inl h⟩
theorem aA {f:Opd} {args:List Opd} {g:FuncId} {ps:List PV} {v:AV} {rs:List (Nat×List PV)} (hc:f.cd σ=true∧e8 σ args=true) (ha:(cB σ f args).map (fun t=>(t.1,t.2.1))=some (g,ps))
  (hf:Fn P g ps v rs) (hp:v.flat=true∧d9 rs) (hr:j7 v rs) (h:aU P R is vs keep rows k (σ.after d v rs)):aU P R (⟨some d,none,.call f args⟩::is) vs keep rows k σ:=by
 cases hca:cB σ f args with
 | none=>rw[hca]at ha;cases ha
 | some t=>
  obtain⟨g',ps',pure⟩:=t
  rw[hca]at ha
  simp only[Option.map_some,Option.some.injEq,Prod.mk.injEq]at ha
  obtain⟨rfl,rfl⟩:=ha
  exact aC hc hca hf (.inr hp) hr h
theorem aF {f:Opd} {args:List Opd} {g:FuncId} {ps:List PV} {p:PV} {t:Nat} {b:Bool} (hg:(bC σ.fr t).gok) (hc:(bC σ.fr t).gv b=true→f.cd σ=true∧e8 σ args=true) (ha:(cB σ f args).map (fun t=>(t.1,t.2.1))=some (g,ps))
  (hf:(bC σ.fr t).gv b=true→Fn P g ps (.pv p) []) (hp:p.flat=true) (h:aU P R is vs keep rows k (σ.put d (.whn ((bC σ.fr t).gv b) (.pv p)))):aU P R (⟨some d,some (t,b),.call f args⟩::is) vs keep rows k σ:=by
 simp only[aU,aX,sX]
 refine⟨hg,hc,?_⟩
 cases hca:cB σ f args with
 | none=>rw[hca]at ha;cases ha
 | some t=>
  obtain⟨g',ps',pure⟩:=t
  rw[hca]at ha
  simp only[Option.map_some,Option.some.injEq,Prod.mk.injEq]at ha
  obtain⟨rfl,rfl⟩:=ha
  exact⟨p,fun hb=>⟨hf hb,.inr hp⟩,h⟩
theorem FH (st:List (Nat×Row)) (k:Nat) (p:PV):cV st (k+1) (.pv p)=some p:=rfl
theorem KQ (st:List (Nat×Row)) (k:Nat):cV st (k+1) .e0=some (.lst []):=rfl
theorem IS (st:List (Nat×Row)) (k:Nat) (cs:List AV):cV st (k+1) (.agg cs)=match dK (cV st k) cs with
 | some ps=>some (.agg ps)
 | none=>none:=rfl
theorem IP (st:List (Nat×Row)) (k:Nat) (cs:List AV):cV st (k+1) (.tup cs)=match dK (cV st k) cs with
 | some ps=>some (.tup ps)
 | none=>none:=rfl
theorem KP (st:List (Nat×Row)) (k:Nat) (f:FuncId) (cs:List AV):cV st (k+1) (.fn f cs)=match dK (cV st k) cs with
 | some ps=>some (.fn f ps)
 | none=>none:=rfl
theorem IQ (st:List (Nat×Row)) (k r off n:Nat):cV st (k+1) (.row r off n)=match aL st r with
 | some (.sl _ xs)=>some (.lst ((xs.drop off).take n))
 | _=>none:=rfl
theorem IR (st:List (Nat×Row)) (k r:Nat):cV st (k+1) (.ptr r 0)=match aL st r with
 | some (.box cs)=>(match dK (cV st k) cs with
  | some ps=>some (.pt ps)
  | none=>none)
 | _=>none:=rfl
theorem Gu (st:List (Nat×Row)) (k:Nat) (cs:List PV):cV st (k+1) (.cptr cs 0)=some (.pt cs):=rfl
theorem pQ (st:List (Nat×Row)) (k:Nat):∀ps:List PV,dK (cV st (k+1)) (ps.map .pv)=some ps
 | []=>rfl
 | p::ps=>by simp only[List.map_cons,dK,FH,pQ st k ps]
theorem EL {x:Opd} {neg:Bool} {n:Nat} (hc:x.cd σ=true) (hn:B1 (x.sv σ)=some n) (h:∀b:Bool,(b=true→n=0)→aU P R is vs keep rows k (σ.put d (aY (if neg then !b else b)))):
  aU P R (⟨some d,none,.isnil x neg⟩::is) vs keep rows k σ:=by
 simp only[aU,aX,bO]
 refine⟨hc,?_⟩
 rw[hn]
 exact h
section
variable {N:List Nat} {L:List GI} {U Rw:List Nat}
theorem I6:mK P R N [] keep rows k σ=eE P R k .normal (σ.norm keep rows):=rfl
theorem Nw {q:Q}:mK P R N (⟨d,none,.q q,U,Rw⟩::L) keep rows k σ=(q.pre (σ.norm U Rw)∧mK P R N L keep rows k (σ.add d (fun n=>iS N n&&(!iS Rw n && !(d==n))) ⟨q.val (σ.norm U Rw),none⟩)):=rfl
theorem K1 {q:Q} {t:Nat} {b:Bool}:mK P R N (⟨d,some (t,b),.q q,U,Rw⟩::L) keep rows k σ=((bC (σ.norm U Rw).fr t).gok∧((bC (σ.norm U Rw).fr t).gv b=true→q.pre (σ.norm U Rw))∧
  mK P R N L keep rows k (σ.add d (fun n=>iS N n&&(!iS Rw n && !(d==n))) ⟨.whn ((bC (σ.norm U Rw).fr t).gv b) (q.val (σ.norm U Rw)),none⟩)):=rfl
theorem EQ {z:List AV}:mK P R N (⟨d,none,.alloc z,U,Rw⟩::L) keep rows k σ=mK P R N L keep rows k (σ.add d (fun n=>iS N n&&(!iS Rw n && !(d==n))) ⟨.ptr d 0,some (d,.box (AV.clips (only d) z))⟩):=rfl
theorem I8 {x:Opd}:mK P R N (⟨d,none,.box x,U,Rw⟩::L) keep rows k σ=(x.cd (σ.norm U Rw)=true∧Av (x.sv (σ.norm U Rw))=true∧
  mK P R N L keep rows k (σ.add d (fun n=>iS N n&&(!iS Rw n && !(d==n))) ⟨.ptr d 0,some (d,.box (AV.clips (only d) (x.sv (σ.norm U Rw)).cells))⟩)):=rfl
theorem GM {xs:List Opd} {s:Nat}:mK P R N (⟨d,none,.lits xs s,U,Rw⟩::L) keep rows k σ=((e8 (σ.norm U Rw) xs=true∧iY (eD (σ.norm U Rw) xs)=true∧oX s (eD (σ.norm U Rw) xs)∧xs.length*s≤16777216)∧
  mK P R N L keep rows k (σ.add d (fun n=>iS N n&&(!iS Rw n && !(d==n))) ⟨oP (eD (σ.norm U Rw) xs),none⟩)):=rfl
theorem I7 {l c:Opd} {s bytes:Nat} {z:PV}:mK P R N (⟨d,none,.mks l c s bytes z,U,Rw⟩::L) keep rows k σ=((l.cd (σ.norm U Rw)=true∧c.cd (σ.norm U Rw)=true∧eO (l.sv (σ.norm U Rw))∧eO (c.sv (σ.norm U Rw))∧0≤cQ (l.sv (σ.norm U Rw))∧cQ (l.sv (σ.norm U Rw))≤cQ (c.sv (σ.norm U Rw))∧(bytes:Int)*cQ (c.sv (σ.norm U Rw))≤281474976710656∧cQ (c.sv (σ.norm U Rw))≤9223372036854775807)∧
  mK P R N L keep rows k (σ.add d (fun n=>iS N n&&(!iS Rw n && !(d==n))) ⟨.row d 0 (cQ (l.sv (σ.norm U Rw))).toNat,some (d,.sl s (List.replicate (cQ (l.sv (σ.norm U Rw))).toNat z))⟩)):=rfl
theorem cC {f:Opd} {args:List Opd} {g:FuncId} {ps:List PV} {pure:Bool} {v:AV} {rs:List (Nat×List PV)} (hc:f.cd (σ.norm U Rw)=true∧e8 (σ.norm U Rw) args=true) (ha:cB (σ.norm U Rw) f args=some (g,ps,pure))
  (hf:Fn P g ps v rs) (hp:pure=true∨(v.flat=true∧d9 rs)) (hr:j7 v rs) (h:mK P R N L keep rows k (σ.add d (fun n=>iS N n&&(!iS Rw n && !((1000+d)==n))) (iM d v rs))):
  mK P R N (⟨d,none,.call f args,U,Rw⟩::L) keep rows k σ:=by
 refine⟨hc,?_⟩
 rw[ha]
 exact⟨v,rs,hf,hp,hr,h⟩
theorem jJ {f:Opd} {args:List Opd} {g:FuncId} {ps:List PV} {v:AV} {rs:List (Nat×List PV)} (hc:f.cd (σ.norm U Rw)=true∧e8 (σ.norm U Rw) args=true) (ha:(cB (σ.norm U Rw) f args).map (fun t=>(t.1,t.2.1))=some (g,ps))
  (hf:Fn P g ps v rs) (hp:v.flat=true∧d9 rs) (hr:j7 v rs) (h:mK P R N L keep rows k (σ.add d (fun n=>iS N n&&(!iS Rw n && !((1000+d)==n))) (iM d v rs))):
  mK P R N (⟨d,none,.call f args,U,Rw⟩::L) keep rows k σ:=by
 cases hca:cB (σ.norm U Rw) f args with
 | none=>rw[hca]at ha;cases ha
 | some t=>
  obtain⟨g',ps',pure⟩:=t
  rw[hca]at ha
  simp only[Option.map_some,Option.some.injEq,Prod.mk.injEq]at ha
  obtain⟨rfl,rfl⟩:=ha
  exact cC hc hca hf (.inr hp) hr h
end
theorem Oz {f:FuncId} {fn:Func} {c:Code} {m:MC} {owns:List Nat} {rd:List (Nat×RD)} {args:List PV} {v:AV} {rs:List (Nat×List PV)} {rvs:List RV} (ids:List Bool)
  (hm:P.follows .mixedOrders=true) (hf:P.funcs[f]?=some fn) (hname:(fn.name == "runtime.NumGoroutine")=false) (hb:fn.body=some c) (hc:bX P owns fn.ntmps rd c=some m)
  (hr:kD P fn.results.toList=some rvs) (hn:args.length≤fn.ntmps) (hsm:fn.ntmps≤100000) (hv:run P (uL rvs ids v rs) m [] ⟨entry 0 args,[]⟩):Fn P f args v rs:=by
 refine QS ids hm hf hname hb hc hr hn hsm ?_
 unfold run at hv
 refine Eq.mp ?_ hv
 congr 1
theorem Ge {f:FuncId} {fn:Func} {c:Code} {m:MC} {owns:List Nat} {rd:List (Nat×RD)} {args:List AV} {st:List (Nat×Row)} {v:AV} {st':List (Nat×Row)} {rvs:List RV}
  (hm:P.follows .mixedOrders=true) (hf:P.funcs[f]?=some fn) (hname:(fn.name == "runtime.NumGoroutine")=false) (hb:fn.body=some c) (hc:bX P owns fn.ntmps rd c=some m)
  (hr:kD P fn.results.toList=some rvs) (hn:args.length≤fn.ntmps) (hsm:fn.ntmps≤100000) (hk:(st'.map (·.1)).Nodup) (hv:run P (CJ rvs v st') m [] ⟨fY 0 args,st⟩):j4 P f args st v st':=by
 refine OA hm hf hname hb hc hr hn hsm hk ?_
 unfold run at hv
 refine Eq.mp ?_ hv
 congr 1
theorem LJ (a:Bool):(bif a then a else true)=true:=by cases a<;>rfl
theorem LK (a:Bool):(bif a then true else !a)=true:=by cases a<;>rfl
theorem QO (a:Bool):(a==true)=a:=by cases a<;>rfl
theorem QP (a:Bool):(a==false) = !a:=by cases a<;>rfl
theorem Le {k:IntKind} {n:Int}:(Value.int k n).oneCell'=true:=rfl
theorem Jc {b:Bool}:(Value.bool b).oneCell'=true:=rfl
theorem EU {s:ByteArray}:(Value.string s).oneCell'=true:=rfl
end
attribute [irreducible] aU run eE mK
end Go.Vc

namespace Go.Vc
open Go.RowKit
attribute [go_sem] GD B2 GJ GH ED B8 t7 Fl uK ON Nc KW Fo Fp CH xT j9 MU Kd MT Kc CS IY x8 GL GK I3 GF GG B7 I2 B6 Fw Ig C5 B9 Fz Kz Kr Kq kR HL Int.toNat_natCast Option.getD_some List.take_length List.getD_nil Int.natCast_nonneg List.length_map KV I6 Nw K1 EQ I8 GM I7 iS St.add nV St.strip s5 iM I1 GC Gy Gx GA Gz BV BU B0 BZ vW x9 CN Ed fY AV.rn AV.rns Row.rn pH j0 pL qR St.afterS MZ x7 m9 BM CJ List.any_cons List.any_nil GB FS pF yB gA iI cG aW rQ nP St.frz1 AM rR uQ yH AV.frz AV.frzs Row.frz AL uS false_implies true_implies LJ LK QO QP imp_self Bool.cond_true_left Bool.cond_false_right AV.pv.injEq PV.sc.injEq Value.bool.injEq Value.int.injEq Value.string.injEq Bool.or_not_self Bool.not_or_self Bool.not_eq_true' Bool.not_eq_false' Bool.or_eq_true Bool.and_eq_true Bool.or_eq_false_iff decide_eq_false_iff_not St.virts St.virt1 St.nil1 dP dL Ke Gg Q6 QX Le Jc EU DZ EA IT KS KX KU Gw IU KT yZ G6 r9 At Ju uC AD Lx wO Cz IX Nv KZ EO I4 GE EK IW IZ KY I5 Opd.cd Opd.sv Opd.ev e8 eD bC gB kF iH iG cS eF aL aQ eG St.put St.norm St.newRow AV.clip AV.clips Row.clip only AV.un1 AV.cd Av AV.cells PV.cells entry Q.pre Q.val Q.cd gH HJ J8 OE OF CI HM Ko J0 J7 HQ Kw BL Kg x3 yA uP AV.isE0 oP cH Nb Km bnd eO sC sD oW xU dQ HK rJ LZ D1 lW Ih Np Fx lay J6 JZ Nf Kn M1 H1 i6 lC Nr KB HR HS KA Gk BG dZ aY iY oX AV.width AV.allOne AV.one PV.one Kb Ka vU lV mL flat mJ tD v8 mF Ca lD HZ rS cQ AV.gok AV.gv AV.isB AV.gvB s7 uL C7 rT sI H3 nY iD FH KQ IS IP KP IQ IR Gu dK sH qP AV.ren AV.rens eX St.after j7 AV.isPv cA cB B1 n6 AV.pure List.map_cons List.map_nil List.length_cons List.length_nil List.append_nil List.cons_append List.nil_append List.getD_cons_zero List.getD_cons_succ List.take_succ_cons List.take_zero List.drop_zero List.drop_succ_cons List.set_cons_zero List.set_cons_succ List.contains_cons List.contains_nil List.contains_eq_mem List.mem_cons List.not_mem_nil List.idxOf?_nil List.idxOf?_cons Option.map_none Option.map_some Nat.zero_add Nat.add_zero Nat.mul_zero Nat.zero_mul Nat.mul_one Nat.one_mul Nat.le_refl Nat.zero_le Bool.or_false Bool.false_or Bool.or_true Bool.true_or Bool.and_true Bool.true_and Bool.and_false Bool.false_and Bool.not_true Bool.not_false or_false false_or or_true true_or beq_self_eq_true decide_true decide_false decide_eq_true_eq Bool.decide_eq_true if_true if_false ite_true ite_false dite_true dite_false true_and and_true and_false false_and implies_true forall_const Bool.false_eq_true Bool.true_eq_false not_true not_false_eq_true Nat.lt_irrefl cond_true cond_false List.nodup_nil eq_self_iff_true exists_eq_left' Option.some.injEq exists_eq_left exists_and_left Nat.reduceEqDiff Nat.reduceBEq Nat.reduceAdd Nat.reduceMul Nat.reduceSub Nat.reduceLeDiff Nat.reduceLT reduceIte reduceCtorEq Int.reduceToNat Int.reduceLE Int.reduceLT Int.reduceNeg Bool.not_not and_self Bool.and_eq_false_iff Int.cast_ofNat_Int Int.reduceAdd Int.reduceSub Int.reduceMul Int.reduceEq Int.reduceNe
def mi (d n:Nat):Inst:=⟨some d,none,.q (.mv (.t n))⟩
def qi (d:Nat) (x:Q):Inst:=⟨some d,none,.q x⟩
def gi (d g:Nat) (b:Bool) (x:Q):Inst:=⟨some d,some (g,b),.q x⟩
def ic (n:Int):Opd:=.c (.int .i64 n)
def fI (d n k:Nat):Inst:=qi d (.fa (.t n) k)
def lI (d n k:Nat):Inst:=qi d (.ld (.t n) k true)
def lJ (d n k:Nat):Inst:=qi d (.ld (.t n) k false)
def xI (d n k:Nat):Inst:=qi d (.ext (.t n) k)
def nI (d n:Nat) (b:Bool):Inst:=qi d (.len (.t n) b)
def hI (d n:Nat):Inst:=qi d (.nch (.t n))
def kI (d:Nat) (n:Int):Inst:=qi d (.mv (ic n))
def bI (d:Nat) (b:Bool):Inst:=qi d (.mv (.c (.bool b)))
def oI (d:Nat) (o:BinOp) (n k:Nat):Inst:=qi d (.bin o (.t n) (.t k))
def oJ (d:Nat) (o:BinOp) (n:Nat) (k:Int):Inst:=qi d (.bin o (.t n) (ic k))
def cI (d f:Nat) (l:List Opd):Inst:=⟨some d,none,.call (.f f) l⟩
def dI (d f:Nat) (l:List Opd):Inst:=⟨some d,none,.calls (.f f) l⟩
def vI (d n:Nat):Inst:=⟨some d,none,.box (.t n)⟩
def aI (d:Nat) (l:List AV):Inst:=⟨some d,none,.alloc l⟩
def gT (d g:Nat) (x:Q):Inst:=gi d g true x
def gF (d g:Nat) (x:Q):Inst:=gi d g false x
attribute [go_sem] mi qi gi ic fI lI lJ xI nI hI kI bI oI oJ cI dI vI aI gT gF
end Go.Vc

namespace Go.Vc
open Go.RowKit
inductive Sh where
 | int (k:IntKind)
 | bool
 | str
 | lst (agg:Bool) (cs:List Sh)
 | tr (cs:List Sh)
 deriving Inhabited
inductive OkTr (ok:List PV→Prop):PV→Prop
 | mk (xs:List PV) (q:Nat→List PV) (r:Nat→PV) (hl:xs.length≤maxLen) (hx:∀i,i<xs.length→xs[i]?=some (.agg (q i++[r i]))∧ok (q i)) (hr:∀i,i<xs.length→OkTr ok (r i)):OkTr ok (.lst xs)
mutual
def nR:Sh→PV→Prop
 | .int k,p=>∃n,p=.sc (.int k n)∧(Lit.int k n).wf=true
 | .bool,p=>∃b,p=.sc (.bool b)
 | .str,p=>∃s:ByteArray,p=.sc (.string s)∧s.size≤maxLen
 | .lst agg cs,p=>∃xs,p=.lst xs∧xs.length≤maxLen∧∀x∈xs,(agg=true→∃qs,x=.agg qs∧bH cs qs)∧(agg=false→bH cs [x])
 | .tr cs,p=>OkTr (fun ps=>bH cs ps) p
def bH:List Sh→List PV→Prop
 | [],ps=>ps=[]
 | s::ss,ps=>∃p r,ps=p::r∧nR s p∧bH ss r
end
theorem bH.len:∀{ss:List Sh} {ps:List PV},bH ss ps→ps.length=ss.length
 | [],_,h=>by simp only[bH]at h;rw[h];rfl
 | s::ss,_,h=>by
  simp only[bH]at h
  obtain⟨p,r,rfl,_,h⟩:=h
  simp[bH.len h]
theorem bH.append:∀{ss ts:List Sh} {ps qs:List PV},bH ss ps→bH ts qs→bH (ss++ts) (ps++qs)
 | [],_,_,_,h,h'=>by simp only[bH]at h;subst h;exact h'
 | s::ss,_,_,_,h,h'=>by
  simp only[bH]at h
  obtain⟨p,r,rfl,h1,h2⟩:=h
  simp only[List.cons_append,bH]
  exact⟨p,_,rfl,h1,bH.append h2 h'⟩
theorem aE.app {w:World} {F:Nat→Prop}:∀{ps qs:List PV} {cs ds:List Value},aE w F ps cs→aE w F qs ds→aE w F (ps++qs) (cs++ds)
 | [],_,_,_,h,h'=>by simp only[aE]at h;subst h;exact h'
 | p::ps,_,_,_,h,h'=>by
  simp only[aE]at h
  obtain⟨v,r,rfl,h1,h2⟩:=h
  simp only[List.cons_append,aE]
  exact⟨v,_,rfl,h1,aE.app h2 h'⟩
def gC (P:Program) (g:TypeId→Option (List Sh)):Nat→List Field→Option (List Sh)
 | _,[]=>some []
 | off,f::fs=>match g f.type with
  | some cs=>if f.offset=off∧cs.length=P.cellsOf f.type then(match gC P g (off+cs.length) fs with
   | some ds=>some (cs++ds)
   | none=>none)else none
  | none=>none
def MS (P:Program) (t e:TypeId):Option (List Field×Field):=match P.underlying e with
 | some (.struct fs)=>match fs.toList.getLast? with
  | some l=>if l.type=t then some (fs.toList.dropLast,l)else none
  | none=>none
 | _=>none
def sY (P:Program):Nat→TypeId→Option (List Sh)
 | 0,_=>none
 | n+1,t=>match P.underlying t with
  | some .bool=>some [.bool]
  | some (.int k)=>some [.int k]
  | some .string=>some [.str]
  | some (.slice e)=>match MS P t e with
   | some (ini,l)=>match gC P (sY P n) 0 ini with
    | some cs=>if cs.length+1=P.cellsOf e∧l.offset=cs.length∧P.cellsOf t=1 then some [.tr cs]else none
    | none=>none
   | none=>match sY P n e with
   | some cs=>if cs.length=P.cellsOf e∧0<cs.length∧(bG P e=true∨cs.length=1)then some [.lst (bG P e) cs]else none
   | none=>none
  | some (.struct fs)=>match gC P (sY P n) 0 fs.toList with
   | some cs=>if cs.length=P.cellsOf t then some cs else none
   | none=>none
  | _=>none
section
variable {H:Type} {enc:TypeId×Value→H} {P:Program} {w:World} {base:Nat} {spare:Nat→Bool} {held:Bool}
theorem DR {a:Addr} {n:Nat} {cs:List Value} (h:w.cells? base a n=some cs):cs.length=n∧∀i,i<n→w.cell? (a.add i)=cs[i]?:=by
 unfold World.cells? at h
 split at h
 ·exact⟨by simpa using mapM_some_length h,fun i hi=>mapM_some_get h i i (by simp[hi])⟩
 ·cases h
theorem vQ {F:Nat→Prop} {b o:Nat}:∀{ps:List PV} {cs:List Value} {k:Nat},aE w F ps cs→(∀i,i<cs.length→w.cell? ⟨b,o+k+i,none⟩=cs[i]?)→aN w F ps b (o+k)
 | [],_,_,_,_=>by simp only[aN]
 | p::ps,_,k,h,hc=>by
  simp only[aE]at h
  obtain⟨v,r,rfl,h1,h2⟩:=h
  simp only[aN]
  refine⟨⟨v,by simpa using hc 0 (by simp),h1⟩,?_⟩
  have:=vQ (k:=k+1) (o:=o) h2 (fun i hi=>by
   have:=hc (i+1) (by simpa using hi)
   rw[List.getElem?_cons_succ]at this
   rw[←this]
   congr 2
   omega)
  rwa [Nat.add_assoc]
theorem BA {s:Sh} {p:PV} (h:bH [s] [p]):nR s p:=by
 simp only[bH]at h
 obtain⟨q,r,e,h1,h2⟩:=h
 injection e with e1 e2
 subst e1
 exact h1
theorem LT {s:Sh} {p:PV} (h:nR s p):∀cs,p≠.agg cs:=by
 intro cs e
 subst e
 cases s with
 | tr cs=>simp only[nR]at h;cases h
 | _=>simp[nR]at h
theorem D7 {F:Nat→Prop} {p:PV} {xs:List PV} {b o:Nat} (hn:∀cs,p≠.agg cs) (h1:∃v,w.cell? ⟨b,o,none⟩=some v∧aG w F p v) (h2:aJ w F xs b (o+1)):aJ w F (p::xs) b o:=by
 cases p with
 | agg cs=>exact absurd rfl (hn cs)
 | _=>simp only[aJ];exact⟨h1,h2⟩
theorem wD {f:Nat} (hsub:∀(ft:TypeId) (c1:List Sh),sY P f ft=some c1→∀(n:Nat) (cs:List Value) (x:DataW H×List MemPlace),DataW.trod enc P w base spare held n ft cs=some x→∃ps,bH c1 ps∧aE w (fun _=>False) ps cs)
  {fs:Array Field} {cs:List Value} {xs:List (DataW H×List MemPlace)} {m:Nat} (hxl:xs.length=fs.size)
  (hf:∀(i:Nat) (fl:Field),fs[i]?=some fl→DataW.trod enc P w base spare held m fl.type ((cs.drop fl.offset).take (P.cellsOf fl.type))=xs[i]?):
  ∀(r:List Field) (i off:Nat) (ds:List Sh),(∃tl,fs.toList.drop i=r++tl)→gC P (sY P f) off r=some ds→off+ds.length≤cs.length→
   ∃ps,bH ds ps∧aE w (fun _=>False) ps ((cs.drop off).take ds.length)
 | [],i,off,ds,_,hd,hlen=>by
  simp only[gC,Option.some.injEq]at hd
  subst hd
  exact⟨[],by simp[bH],by simp[aE]⟩
 | fl::r,i,off,ds,hdrop,hd,hlen=>by
  obtain⟨tl,hdrop⟩:=hdrop
  simp only[gC]at hd
  split at hd
  ·rename_i c1 hc1
   split at hd
   ·rename_i ho
    split at hd
    ·rename_i d2 hd2
     injection hd with hd;subst hd
     obtain⟨ho1,ho2⟩:=ho
     rw[List.length_append]at hlen
     have hfi:fs[i]?=some fl:=by
      have:fs.toList[i]?=some fl:=by
       have:=congrArg List.head? hdrop
       rw[List.head?_drop]at this
       simpa using this
      simpa using this
     have hilt:i<fs.size:=by
      rw[Array.getElem?_eq_some_iff]at hfi
      exact hfi.1
     have h1:=hf i fl hfi
     rw[List.getElem?_eq_getElem (show i<xs.length by omega),ho1]at h1
     obtain⟨ps,p1,p2⟩:=hsub fl.type c1 hc1 _ _ _ h1
     have hdrop':fs.toList.drop (i+1)=r++tl:=by
      rw[←List.tail_drop,hdrop];rfl
     obtain⟨qs,q1,q2⟩:=wD hsub hxl hf r (i+1) (off+c1.length) d2 ⟨tl,hdrop'⟩ hd2 (by omega)
     refine⟨ps++qs,p1.append q1,?_⟩
     have:(cs.drop off).take (c1++d2).length=(cs.drop off).take (P.cellsOf fl.type)++(cs.drop (off+c1.length)).take d2.length:=by
      rw[List.length_append,List.take_add,List.drop_drop,ho2]
     rw[this]
     exact aE.app p2 q2
    ·cases hd
   ·cases hd
  ·cases hd
theorem KK {f:Nat} (hsub:∀(ft:TypeId) (c1:List Sh),sY P f ft=some c1→∀(n:Nat) (cs:List Value) (x:DataW H×List MemPlace),DataW.trod enc P w base spare held n ft cs=some x→∃ps,bH c1 ps∧aE w (fun _=>False) ps cs)
  {t e:TypeId} {ini:List Field} {l:Field} {css:List Sh} (ht:P.underlying t=some (.slice e)) (htr:MS P t e=some (ini,l)) (hcs:gC P (sY P f) 0 ini=some css)
  (hce:css.length+1=P.cellsOf e) (hlo:l.offset=css.length) (hct:P.cellsOf t=1):
  ∀(n:Nat) (cs:List Value) (x:DataW H×List MemPlace),DataW.trod enc P w base spare held n t cs=some x→∃p,OkTr (fun ps=>bH css ps) p∧aE w (fun _=>False) [p] cs:=by
 unfold MS at htr
 split at htr
 rotate_left
 ·cases htr
 rename_i fs he
 split at htr
 rotate_left
 ·cases htr
 rename_i l' hl'
 split at htr
 rotate_left
 ·cases htr
 rename_i hlt
 injection htr with htr
 injection htr with h1 h2
 subst h1;subst h2
 have hfs:fs.toList=fs.toList.dropLast++[l']:=by
  obtain⟨ys,hys⟩:=List.getLast?_eq_some_iff.1 hl'
  rw[hys,List.dropLast_concat]
 intro n
 induction n using Nat.strongRecOn with
 | ind n ih=>
  intro cs x hx
  have nil:∀(p:Option Addr) (cap:Nat),∃q,OkTr (fun ps=>bH css ps) q∧aE w (fun _=>False) [q] [.slice p 0 cap]:=fun p cap=>
   ⟨.lst [],.mk [] (fun _=>[]) (fun _=>.lst []) (Nat.zero_le _) (fun i h=>absurd h (by simp)) (fun i h=>absurd h (by simp)),by
    simp only[aE,aG]
    exact⟨_,_,rfl,⟨p,0,cap,rfl,rfl,Nat.zero_le _,fun h=>absurd h (by omega)⟩,rfl⟩⟩
  rcases DataW.trod_slice ht hx with⟨rfl,_⟩|⟨a,len,cap,elems,rest,m,rfl,rfl,_,hb,hl,hm,hlen,hel,_,_⟩
  ·exact nil none 0
  by_cases h0:len=0
  ·subst h0
   exact nil (some a) cap
  have one:∀i,i<len→∃(qs:List PV) (p:PV) (cs':List Value),bH css qs∧OkTr (fun ps=>bH css ps) p∧aE w (fun _=>False) (qs++[p]) cs'∧cs'.length=css.length+1∧∀k,k<css.length+1→w.cell? ((a.add (i*P.cellsOf e)).add k)=cs'[k]?:=by
   intro i hi
   have:=hel i hi
   rw[List.getElem?_eq_getElem (show i<elems.length by omega)]at this
   simp only[Option.bind_eq_some_iff]at this
   obtain⟨cs',h1,h2⟩:=this
   obtain⟨h5,h6⟩:=DR h1
   obtain⟨xs,m2,rfl,_,hl2,hxl,hf⟩:=DataW.trod_struct he h2
   obtain⟨qs,q1,q2⟩:=wD hsub hxl hf fs.toList.dropLast 0 0 css ⟨[l'],by rw[List.drop_zero];exact hfs⟩ hcs (by omega)
   have hn:fs.toList.length=fs.toList.dropLast.length+1:=by have h9:=congrArg List.length hfs;rwa [List.length_append,List.length_singleton]at h9
   have hfl:fs[fs.toList.dropLast.length]?=some l':=by
    have:fs.toList[fs.toList.dropLast.length]?=some l':=by
     rw[hfs]
     simp
    simpa using this
   have h7:=hf _ _ hfl
   rw[List.getElem?_eq_getElem (show fs.toList.dropLast.length<xs.length by simp at hn;simp;omega),hlt,hct,hlo]at h7
   obtain⟨p,p1,p2⟩:=ih m2 (by omega) _ _ h7
   refine⟨qs,p,cs',q1,p1,?_,by omega,fun k hk=>h6 k (by omega)⟩
   have:cs'=(cs'.drop 0).take css.length++(cs'.drop css.length).take 1:=by
    rw[List.drop_zero,List.take_of_length_le (l:=cs'.drop css.length) (by rw[List.length_drop];omega),List.take_append_drop]
   rw[this]
   exact aE.app q2 p2
  obtain⟨b,o,spot⟩:=a
  have hs:spot=none:=by
   obtain⟨qs,p,cs',h1,_,h2,h3,h4⟩:=one 0 (by omega)
   have h5:=h4 0 (by omega)
   rw[List.getElem?_eq_getElem (show 0<cs'.length by omega)]at h5
   simpa[Addr.add]using World.cell?_spot h5
  subst hs
  have addr:∀i k:Nat,((⟨b,o,none⟩:Addr).add i).add k=⟨b,o+i+k,none⟩:=by
   intro i k
   simp only[Addr.add]
   by_cases h1:i=0<;>by_cases h2:k=0<;>simp[h1,h2]
  have hbl:b<w.heap.size:=by
   obtain⟨qs,p,cs',h1,_,h2,h3,h4⟩:=one 0 (by omega)
   have h5:=h4 0 (by omega)
   rw[List.getElem?_eq_getElem (show 0<cs'.length by omega),addr]at h5
   exact oA h5
  have build:∀d,d≤len→∃(xs:List PV) (q:Nat→List PV) (r:Nat→PV),xs.length=d∧aJ w (fun _=>False) xs b (o+(len-d)*P.cellsOf e)∧(∀i,i<d→xs[i]?=some (.agg (q i++[r i]))∧bH css (q i))∧∀i,i<d→OkTr (fun ps=>bH css ps) (r i):=by
   intro d
   induction d with
   | zero=>intro _;exact⟨[],fun _=>[],fun _=>.lst [],rfl,by simp only[aJ],fun i h=>absurd h (by omega),fun i h=>absurd h (by omega)⟩
   | succ d ih2=>
    intro hd
    obtain⟨xs,q,r,h1,h2,h3,h4⟩:=ih2 (by omega)
    obtain⟨qs,p,cs',k1,k2,k3,k4,k5⟩:=one (len-(d+1)) (by omega)
    have hql:=bH.len k1
    have hpc:aN w (fun _=>False) (qs++[p]) b (o+(len-(d+1))*P.cellsOf e):=vQ k3 (fun i hi=>by
     have:=k5 i (by omega)
     rw[addr]at this
     exact this)
    have hnext:o+(len-(d+1))*P.cellsOf e+(qs++[p]).length=o+(len-d)*P.cellsOf e:=by
     rw[List.length_append,List.length_singleton,hql,hce,show len-d=(len-(d+1))+1 by omega,Nat.add_mul]
     omega
    refine⟨.agg (qs++[p])::xs,fun i=>match i with|0=>qs|i+1=>q i,fun i=>match i with|0=>p|i+1=>r i,by simp[h1],?_,?_,?_⟩
    ·simp only[aJ]
     exact⟨hpc,by rw[hnext];exact h2⟩
    ·intro i hi
     cases i with
     | zero=>exact⟨rfl,k1⟩
     | succ i=>exact⟨by simpa using(h3 i (by omega)).1,(h3 i (by omega)).2⟩
    ·intro i hi
     cases i with
     | zero=>exact k2
     | succ i=>exact h4 i (by omega)
  obtain⟨xs,q,r,h1,h2,h3,h4⟩:=build len (Nat.le_refl _)
  rw[Nat.sub_self,Nat.zero_mul,Nat.add_zero]at h2
  refine⟨.lst xs,.mk xs q r (by omega) (fun i hi=>h3 i (by omega)) (fun i hi=>h4 i (by omega)),?_⟩
  simp only[aE,aG]
  exact⟨_,_,rfl,⟨_,len,cap,rfl,h1.symm,hl,fun _=>⟨b,o,rfl,hbl,fun h=>h,h2⟩⟩,rfl⟩
theorem tF:∀(f:Nat) (t:TypeId) (ss:List Sh),sY P f t=some ss→∀(n:Nat) (cs:List Value) (x:DataW H×List MemPlace),DataW.trod enc P w base spare held n t cs=some x→
  ∃ps,bH ss ps∧aE w (fun _=>False) ps cs
 | 0,_,_,h=>by simp[sY]at h
 | f+1,t,ss,h=>by
  intro n cs x hx
  unfold sY at h
  split at h
  ·rename_i ht
   injection h with h;subst h
   obtain⟨b,rfl,_⟩:=DataW.trod_bool ht hx
   exact⟨[.sc (.bool b)],by simp[bH,nR],by simp[aE,aG]⟩
  ·rename_i k ht
   injection h with h;subst h
   obtain⟨m,rfl,_,hw⟩:=DataW.trod_int ht hx
   exact⟨[.sc (.int k m)],by simp[bH,nR,hw],by simp[aE,aG]⟩
  ·rename_i ht
   injection h with h;subst h
   obtain⟨s,rfl,_,hw⟩:=DataW.trod_string ht hx
   exact⟨[.sc (.string s)],by simp[bH,nR,hw],by simp[aE,aG]⟩
  ·rename_i e ht
   split at h
   ·rename_i ini l htr
    split at h
    ·rename_i css hcs
     split at h
     ·rename_i hc
      injection h with h;subst h
      obtain⟨p,p1,p2⟩:=KK (tF f) ht htr hcs hc.1 hc.2.1 hc.2.2 n cs x hx
      exact⟨[p],by simp only[bH,nR];exact⟨_,_,rfl,p1,rfl⟩,p2⟩
     ·cases h
    ·cases h
   ·split at h
    ·rename_i es hes
     split at h
     ·rename_i hc
      injection h with h;subst h
      obtain⟨hc1,hc2,hc3⟩:=hc
      rcases DataW.trod_slice ht hx with⟨rfl,_⟩|⟨a,len,cap,elems,rest,m,rfl,rfl,_,hb,hl,hm,hlen,hel,_,_⟩
      ·refine⟨[.lst []],by simp[bH,nR],?_⟩
       simp only[aE,aG]
       exact⟨_,_,rfl,⟨none,0,0,rfl,rfl,Nat.le_refl _,fun h=>absurd h (by omega)⟩,rfl⟩
      ·by_cases h0:len=0
       ·subst h0
        refine⟨[.lst []],by simp[bH,nR],?_⟩
        simp only[aE,aG]
        exact⟨_,_,rfl,⟨some a,0,cap,rfl,rfl,Nat.zero_le _,fun h=>absurd h (by omega)⟩,rfl⟩
       ·have one:∀i,i<len→∃qs cs',bH es qs∧aE w (fun _=>False) qs cs'∧cs'.length=es.length∧∀k,k<es.length→w.cell? ((a.add (i*P.cellsOf e)).add k)=cs'[k]?:=by
         intro i hi
         have:=hel i hi
         rw[List.getElem?_eq_getElem (show i<elems.length by omega)]at this
         simp only[Option.bind_eq_some_iff]at this
         obtain⟨cs',h1,h2⟩:=this
         obtain⟨qs,h3,h4⟩:=tF f e es hes _ _ _ h2
         obtain⟨h5,h6⟩:=DR h1
         exact⟨qs,cs',h3,h4,by omega,fun k hk=>h6 k (by omega)⟩
        obtain⟨b,o,spot⟩:=a
        have hs:spot=none:=by
         obtain⟨qs,cs',h1,h2,h3,h4⟩:=one 0 (by omega)
         have h5:=h4 0 hc2
         rw[List.getElem?_eq_getElem (show 0<cs'.length by omega)]at h5
         simpa[Addr.add]using World.cell?_spot h5
        subst hs
        have addr:∀i k:Nat,((⟨b,o,none⟩:Addr).add i).add k=⟨b,o+i+k,none⟩:=by
         intro i k
         simp only[Addr.add]
         by_cases h1:i=0<;>by_cases h2:k=0<;>simp[h1,h2]
        have hbl:b<w.heap.size:=by
         obtain⟨qs,cs',h1,h2,h3,h4⟩:=one 0 (by omega)
         have h5:=h4 0 hc2
         rw[List.getElem?_eq_getElem (show 0<cs'.length by omega),addr]at h5
         exact oA h5
        have build:∀d,d≤len→∃xs:List PV,xs.length=d∧aJ w (fun _=>False) xs b (o+(len-d)*P.cellsOf e)∧∀x∈xs,(bG P e=true→∃qs,x=.agg qs∧bH es qs)∧(bG P e=false→bH es [x]):=by
         intro d
         induction d with
         | zero=>intro _;exact⟨[],rfl,by simp only[aJ],fun x hx=>by cases hx⟩
         | succ d ih=>
          intro hd
          obtain⟨xs,h1,h2,h3⟩:=ih (by omega)
          obtain⟨qs,cs',k1,k2,k3,k4⟩:=one (len-(d+1)) (by omega)
          have hql:=bH.len k1
          have hpc:aN w (fun _=>False) qs b (o+(len-(d+1))*P.cellsOf e):=vQ k2 (fun i hi=>by
           have:=k4 i (by omega)
           rw[addr]at this
           exact this)
          have hnext:o+(len-(d+1))*P.cellsOf e+es.length=o+(len-d)*P.cellsOf e:=by
           rw[hc1,show len-d=(len-(d+1))+1 by omega,Nat.add_mul]
           omega
          cases ha:bG P e with
          | true=>
           refine⟨.agg qs::xs,by simp[h1],?_,?_⟩
           ·simp only[aJ]
            exact⟨hpc,by rw[hql,hnext];exact h2⟩
           ·intro x hx
            rcases List.mem_cons.1 hx with rfl|hx
            ·exact⟨fun _=>⟨qs,rfl,k1⟩,fun h=>(by cases h)⟩
            ·have:=h3 x hx;rw[ha]at this;exact this
          | false=>
           have he1:es.length=1:=by rcases hc3 with h|h;rw[ha]at h;cases h;exact h
           obtain⟨q,rfl⟩:=List.length_eq_one_iff.1 (hql.trans he1)
           obtain⟨s,rfl⟩:=List.length_eq_one_iff.1 he1
           have hnext':o+(len-(d+1))*P.cellsOf e+1=o+(len-d)*P.cellsOf e:=hnext
           refine⟨q::xs,by simp[h1],?_,?_⟩
           ·simp only[aN]at hpc
            exact D7 (LT (BA k1)) hpc.1 (by rw[hnext'];exact h2)
           ·intro x hx
            rcases List.mem_cons.1 hx with rfl|hx
            ·exact⟨fun h=>(by cases h),fun _=>k1⟩
            ·have:=h3 x hx;rw[ha]at this;exact this
        obtain⟨xs,h1,h2,h3⟩:=build len (Nat.le_refl _)
        rw[Nat.sub_self,Nat.zero_mul,Nat.add_zero]at h2
        refine⟨[.lst xs],?_,?_⟩
        ·simp only[bH,nR]
         exact⟨_,_,rfl,⟨xs,rfl,by omega,h3⟩,rfl⟩
        ·simp only[aE,aG]
         exact⟨_,_,rfl,⟨_,len,cap,rfl,h1.symm,hl,fun _=>⟨b,o,rfl,hbl,fun h=>h,h2⟩⟩,rfl⟩
     ·cases h
    ·cases h
  ·rename_i fs ht
   split at h
   ·rename_i es hes
    split at h
    ·rename_i hc
     injection h with h;subst h
     obtain⟨xs,m,rfl,_,hl,hxl,hf⟩:=DataW.trod_struct ht hx
     have go:∀(r:List Field) (i off:Nat) (ds:List Sh),fs.toList.drop i=r→gC P (sY P f) off r=some ds→cs.length=off+ds.length→
       ∃ps,bH ds ps∧aE w (fun _=>False) ps (cs.drop off):=by
      intro r
      induction r with
      | nil=>
       intro i off ds _ hd hlen
       simp only[gC,Option.some.injEq]at hd
       subst hd
       refine⟨[],by simp[bH],?_⟩
       rw[List.drop_eq_nil_of_le (by simpa using Nat.le_of_eq hlen)]
       simp[aE]
      | cons fl r ih=>
       intro i off ds hdrop hd hlen
       simp only[gC]at hd
       split at hd
       ·rename_i c1 hc1
        split at hd
        ·rename_i ho
         split at hd
         ·rename_i d2 hd2
          injection hd with hd;subst hd
          obtain⟨ho1,ho2⟩:=ho
          rw[List.length_append]at hlen
          have hfi:fs[i]?=some fl:=by
           have:fs.toList[i]?=some fl:=by
            have:=congrArg List.head? hdrop
            rw[List.head?_drop]at this
            simpa using this
           simpa using this
          have hilt:i<fs.size:=by
           rw[Array.getElem?_eq_some_iff]at hfi
           exact hfi.1
          have h1:=hf i fl hfi
          rw[List.getElem?_eq_getElem (show i<xs.length by omega),ho1]at h1
          obtain⟨ps,p1,p2⟩:=tF f fl.type c1 hc1 _ _ _ h1
          have hdrop':fs.toList.drop (i+1)=r:=by
           rw[←List.tail_drop,hdrop];rfl
          obtain⟨qs,q1,q2⟩:=ih (i+1) (off+c1.length) d2 hdrop' hd2 (by omega)
          refine⟨ps++qs,p1.append q1,?_⟩
          have:cs.drop off=(cs.drop off).take (P.cellsOf fl.type)++cs.drop (off+c1.length):=by
           rw[ho2,←List.drop_drop,List.take_append_drop]
          rw[this]
          exact aE.app p2 q2
         ·cases hd
        ·cases hd
       ·cases hd
     have:=go fs.toList 0 0 es rfl hes (by omega)
     simpa using this
    ·cases h
   ·cases h
  ·cases h
end
end Go.Vc

namespace Go.Vc
open Go.RowKit Go.ChangeShapes Go.WideShapes Go.ChangeAt
def HX (P:Program) (t:TypeId):Option (Bool×List Sh):=match P.underlying t with
 | some (.struct _)=>match sY P 12 t with
  | some ss=>some (true,ss)
  | none=>none
 | some .bool|some (.int _)|some .string|some (.slice _)=>match sY P 12 t with
  | some ss=>some (false,ss)
  | none=>none
 | _=>none
def yD (P:Program):List TypeId→Option (List (Bool×List Sh))
 | []=>some []
 | t::ts=>match HX P t,yD P ts with
  | some a,some shs=>some (a::shs)
  | _,_=>none
def C8:Bool×List Sh→PV→Prop
 | (true,ss),p=>∃qs,p=.agg qs∧bH ss qs
 | (false,ss),p=>bH ss [p]
def yL:List (Bool×List Sh)→List PV→Prop
 | [],ps=>ps=[]
 | a::shs,ps=>∃p r,ps=p::r∧C8 a p∧yL shs r
section
variable {H:Type} {enc:TypeId×Value→H} {P:Program} {w:World} {base:Nat} {spare:Nat→Bool} {held:Bool} {r:Reach} {b0:Nat}
theorem xS {t:TypeId} {ss:List Sh} {v:Value} {d:DataW H} {p:List MemPlace} (hv:v.cells.toList=[v]) (ht:sY P 12 t=some ss) (h:DataW.Trod enc P w base spare held t v d p):
  ∃q,C8 (false,ss) q∧aG w (fun _=>False) q v:=by
 obtain⟨n,hn⟩:=h
 obtain⟨ps,h1,h2⟩:=tF 12 t ss ht _ _ _ hn
 rw[hv]at h2
 have hl:=aE.length h2
 obtain⟨q,rfl⟩:=List.length_eq_one_iff.1 (show ps.length=1 from hl.symm)
 refine⟨q,h1,?_⟩
 simp only[aE]at h2
 obtain⟨v',r',e,h3,_⟩:=h2
 injection e with e1 e2
 subst e1
 exact h3
theorem Ou {t:TypeId} {a:Bool×List Sh} {v:Value} {d:DataW H} {p:List MemPlace} (ht:HX P t=some a) (hv:Value.okWide P w r b0 t v) (h:DataW.Trod enc P w base spare held t v d p):
  ∃q,C8 a q∧aG w (fun _=>False) q v:=by
 unfold HX at ht
 split at ht
 ·rename_i fs hu
  split at ht
  ·rename_i ss hs
   injection ht with ht;subst ht
   obtain⟨cs,rfl,_⟩:=okWide_struct hu hv
   obtain⟨n,hn⟩:=h
   obtain⟨ps,h1,h2⟩:=tF 12 t ss hs _ _ _ hn
   exact⟨.agg ps,⟨ps,rfl,h1⟩,by simp only[aG];exact⟨cs.toList,rfl,h2⟩⟩
  ·cases ht
 ·rename_i hu
  split at ht
  ·rename_i ss hs
   injection ht with ht;subst ht
   obtain⟨b,rfl⟩:=okWide_bool hu hv
   exact xS rfl hs h
  ·cases ht
 ·rename_i k hu
  split at ht
  ·rename_i ss hs
   injection ht with ht;subst ht
   obtain⟨b,rfl⟩:=okWide_int hu hv
   exact xS rfl hs h
  ·cases ht
 ·rename_i hu
  split at ht
  ·rename_i ss hs
   injection ht with ht;subst ht
   obtain⟨b,rfl⟩:=okWide_string hu hv
   exact xS rfl hs h
  ·cases ht
 ·rename_i e hu
  split at ht
  ·rename_i ss hs
   injection ht with ht;subst ht
   obtain⟨_,_,_,rfl⟩:=okWide_slice hu hv
   exact xS rfl hs h
  ·cases ht
 ·cases ht
theorem Gc:∀{ts:List TypeId} {shs:List (Bool×List Sh)} {vs:List Value} {ds:List (DataW H)} {ps:List MemPlace},yD P ts=some shs→DataW.TrodAll enc P w base spare held ts vs ds ps→
  (∀(j:Nat) t v,ts[j]?=some t→vs[j]?=some v→Value.okWide P w r b0 t v)→ds.length=ts.length∧∃qs,yL shs qs∧aE w (fun _=>False) qs vs
 | [],shs,vs,ds,ps,ht,h,_=>by
  simp only[yD,Option.some.injEq]at ht
  subst ht
  obtain⟨rfl,rfl,_⟩:=trodAll_nil h
  exact⟨rfl,[],rfl,by simp only[aE]⟩
 | t::ts,shs,vs,ds,ps,ht,h,hv=>by
  simp only[yD]at ht
  split at ht
  ·rename_i a as' h1 h2
   injection ht with ht;subst ht
   obtain⟨v,vs',d,ds',p,q,rfl,rfl,rfl,h3,h4⟩:=trodAll_cons h
   obtain⟨x,h5,h6⟩:=Ou h1 (hv 0 t v rfl rfl) h3
   obtain⟨hl,xs,h7,h8⟩:=Gc h2 h4 (fun j t' v' hj hj'=>hv (j+1) t' v' (by simpa using hj) (by simpa using hj'))
   exact⟨by simp[hl],x::xs,⟨x,xs,rfl,h5,h7⟩,by simp only[aE];exact⟨v,vs',rfl,h6,h8⟩⟩
  ·cases ht
theorem r6 (hl:laidOutB P=true) {W W':World} (hb:Below W.heap.size W W'):∀{ts:List TypeId} {vs:List Value} {ds:List (DataW H)} {ps:List MemPlace},
  (∀t∈ts,P.readableRec t=true∧t<P.types.size)→DataW.TrodAll enc P W 0 (fun _=>true) true ts vs ds ps→
  DataW.TrodAll enc P W' 0 (fun b=>decide (b<W.heap.size)) true ts vs ds ps
 | [],_,_,_,_,h=>by
  obtain⟨rfl,rfl,rfl⟩:=trodAll_nil h
  exact trodAll_mk0
 | t::ts,_,_,_,hr,h=>by
  obtain⟨v,vs',d,ds',p,q,rfl,rfl,rfl,h3,h4⟩:=trodAll_cons h
  have lt:∀x∈p,x.block<W.heap.size:=by obtain⟨m,hm⟩:=h3;exact DataW.trod_lt m _ _ _ hm
  exact trodAll_cons_mk (RowKit.Below.trod hl (hr t (by simp)).1 (hr t (by simp)).2 h3 hb.toGo lt) (r6 hl hb (fun t' ht'=>hr t' (by simp[ht'])) h4)
end
end Go.Vc

namespace Go.Vc
open Go.RowKit
theorem Res.row_pv {w:World} {F:Nat→Prop} {y:Cx} {v:AV} {s:Nat} {xs:List PV} {cv cr:Value} (hF:∀b,F b→b<w.heap.size) (h:Res w F y v [(s,xs)] cv) (hr:aB y (.row 0 0 xs.length) cr):
  aG y.w F (.lst xs) cr:=by
 have hrow:=h.rows 0 s xs rfl
 have hfr:=h.fresh 0 (by simp)
 simp only[Row.rel]at hrow
 simp only[aB]at hr
 simp only[aG]
 rcases hr with⟨h0,_,a,rfl⟩|⟨c,hok,rfl,h2,h3,h4⟩
 ·exact⟨a,0,0,rfl,h0.symm,Nat.le_refl _,fun hn=>absurd hn (by omega)⟩
 ·refine⟨_,xs.length,c,rfl,rfl,h2,fun hn=>?_⟩
  rcases hrow with⟨h5,_⟩|⟨hs,_,_,_,⟨arr,et,hh,_⟩,hE⟩
  ·rw[h5]at hok;cases hok
  ·refine⟨_,_,rfl,(Array.getElem?_eq_some_iff.1 hh).1,fun hb=>?_,?_⟩
   ·have:=hF _ hb
    have:=hfr hok
    omega
   ·have:=aJ.kept (x:=y) (y:=⟨y.w,F,y.ρ⟩) ⟨Nat.le_refl _,fun _ _ _=>rfl,fun b _ hb=>(h.F b).2 (.inl hb)⟩ xs (fun hc=>hc) hE
    simpa using this
theorem Res.pvs {w:World} {F:Nat→Prop} {y:Cx} {v:AV} {rs:List (Nat×List PV)} {cv:Value} (h:Res w F y v rs cv):∀(ps:List PV) {vs:List Value},aD y (ps.map .pv) vs→aE y.w F ps vs
 | [],_,hv=>by simpa only[List.map_nil,aD,aE]using hv
 | p::ps,_,hv=>by
  simp only[List.map_cons,aD,aB]at hv
  obtain⟨u,r,e,h1,h2⟩:=hv
  simp only[aE]
  exact⟨u,r,e,aG.kept (x:=y) (y:=⟨y.w,F,y.ρ⟩) ⟨Nat.le_refl _,fun _ _ _=>rfl,fun b _ hb=>(h.F b).2 (.inl hb)⟩ p h1,h.pvs ps h2⟩
theorem Fn.map {P:Program} {f:FuncId} {args:List PV} {v v':AV} {rs:List (Nat×List PV)} (h:Fn P f args v rs)
  (hm:∀(w:World) (F:Nat→Prop) (y:Cx) (cv:Value),(∀b,F b→b<w.heap.size)→Res w F y v rs cv→aB ⟨y.w,F,y.ρ⟩ v' cv):Fn P f args v' []:=by
 refine⟨h.1,fun w F vs hF htb hvs=>?_⟩
 refine Calls.mono (h.2 w F vs hF htb hvs) ?_
 rintro en w' ⟨cv,y,he,hw,hr⟩
 exact⟨cv,⟨y.w,F,y.ρ⟩,he,hw,⟨hr.below,hm w F y cv hF hr,fun i s xs hi=>by simp at hi,fun i j hi=>by simp at hi,fun i hi=>by simp at hi,fun b=>by simp⟩⟩
theorem Fn.row {P:Program} {f:FuncId} {args:List PV} {s n:Nat} {xs:List PV} (h:Fn P f args (.row 0 0 n) [(s,xs)]) (hn:n=xs.length):Fn P f args (.pv (.lst xs)) []:=by
 subst hn
 refine h.map fun w F y cv hF hr=>?_
 simp only[aB]
 exact hr.row_pv hF hr.val
theorem Fn.rowTup {P:Program} {f:FuncId} {args:List PV} {s n:Nat} {xs ps:List PV} {vs:List AV} (h:Fn P f args (.tup (.row 0 0 n::vs)) [(s,xs)]) (hn:n=xs.length) (hv:vs=ps.map .pv):Fn P f args (.pv (.tup (.lst xs::ps))) []:=by
 subst hn;subst hv
 refine h.map fun w F y cv hF hr=>?_
 have:=hr.val
 simp only[aB,aD]at this
 obtain⟨ws,rfl,c,r,rfl,h1,h2⟩:=this
 simp only[aB,aG,aE]
 exact⟨_,rfl,c,r,rfl,hr.row_pv hF (by simp only[aB];exact h1),hr.pvs ps h2⟩
end Go.Vc

namespace Go.Vc
set_option linter.unusedSimpArgs false
abbrev pS (s:ByteArray):PV:=.sc (.string s)
abbrev pI (n:Int):PV:=.sc (.int .i64 n)
abbrev pU (n:Int):PV:=.sc (.int .u64 n)
abbrev pB (b:Bool):PV:=.sc (.bool b)
theorem AT {α:Type} [Inhabited α] {l:List α} {i:Nat} (h:i<l.length):l.take (i+1)=l.take i++[l[i]]:=by
 rw[List.take_add_one,List.getElem?_eq_getElem h];rfl
theorem aM {α:Type} [Inhabited α] {l:List α} {i:Nat} (h:i<l.length):l.getD i default=l[i]:=by simp[List.getD_eq_getElem?_getD,h]
theorem aK {α:Type} {f:α→PV} {l:List α} {i:Nat} (h:i<l.length):(l.map f).getD i default=f l[i]:=by simp[List.getD_eq_getElem?_getD,h]
theorem bF {α β:Type} (f:α→β) (l:List α):List.take l.length (l.map f)=l.map f:=List.take_of_length_le (by simp)
theorem kZ {α:Type} {f:α→PV} {s:Nat} (h:∀a,(f a).cells.length=s∧∀c∈(f a).cells,c.one=true) (l:List α):cY s (l.map f):=fun p hp=>by
 obtain⟨a,_,rfl⟩:=List.mem_map.1 hp
 exact h a
abbrev us (l:List Int):PV:=.lst (l.map pU)
theorem Ov {α:Type} {q:α→Bool} {l:List α} (h:∀j (hj:j<l.length),q l[j]=false):l.any q=false:=by
 rw[List.any_eq_false]
 intro x hx
 obtain⟨j,hj,rfl⟩:=List.mem_iff_getElem.1 hx
 simp[h j hj]
def gZ {α:Type} (q:α→Bool) (l:List α):Int:=if l.any q then(l.findIdx q:Int)else -1
theorem Jz {α:Type} {q:α→Bool} {l:List α} {i:Nat} (h:i<l.length) (h1:q l[i]=true) (h2:∀j (hj:j<l.length),j<i→q l[j]=false):gZ q l=i:=by
 have h3:l.any q=true:=List.any_eq_true.2 ⟨_,List.getElem_mem h,h1⟩
 have h4:l.findIdx q=i:=(List.findIdx_eq h).2 ⟨h1,fun j hji=>h2 j (by omega) hji⟩
 simp[gZ,h3,h4]
theorem Lz {α:Type} {q:α→Bool} {l:List α} (h:∀j (hj:j<l.length),q l[j]=false):gZ q l = -1:=by simp[gZ,Ov h]
theorem eY {α:Type} (q:α→Bool) (l:List α):(gZ q l = -1∧∀x∈l,q x=false)∨∃n,∃h:n<l.length,gZ q l=n∧q l[n]=true∧∀j (hj:j<l.length),j<n→q l[j]=false:=by
 cases ha:l.any q with
 | false=>
  rw[List.any_eq_false]at ha
  exact .inl ⟨by simp[gZ];simpa using ha,fun x hx=>by simpa using ha x hx⟩
 | true=>
  obtain⟨x,hx,hq⟩:=List.any_eq_true.1 ha
  have hlt:l.findIdx q<l.length:=List.findIdx_lt_length_of_exists ⟨x,hx,hq⟩
  refine .inr ⟨_,hlt,by simp[gZ,ha],List.findIdx_getElem (w:=hlt),fun j hj hjn=>?_⟩
  have:=List.not_of_lt_findIdx hjn
  simpa using this
theorem nK:∀x:List UInt8,Op.bytesLess x x=false
 | []=>rfl
 | a::x=>by simp[Op.bytesLess,nK x]
theorem DS:∀{x y:List UInt8},Op.bytesLess x y=true→Op.bytesLess y x=false
 | _,[],h=>by simp[Op.bytesLess]at h
 | [],_::_,_=>rfl
 | a::x,b::y,h=>by
  simp only[Op.bytesLess,Bool.or_eq_true,decide_eq_true_eq,Bool.and_eq_true,beq_iff_eq]at h
  simp only[Op.bytesLess,Bool.or_eq_false_iff,decide_eq_false_iff_not,Bool.and_eq_false_iff]
  rcases h with h|⟨h1,h2⟩
  ·refine⟨fun h'=>?_,.inl ?_⟩
   ·have g1:a.toNat<b.toNat:=h
    have g2:b.toNat<a.toNat:=h'
    omega
   ·rw[beq_eq_false_iff_ne]
    intro e;subst e
    have g1:b.toNat<b.toNat:=h
    omega
  ·subst h1
   refine⟨fun h'=>?_,.inr (DS h2)⟩
   have g1:a.toNat<a.toNat:=h'
   omega
theorem zG:∀{x y:List UInt8},Op.bytesLess x y=false→x≠y→Op.bytesLess y x=true
 | [],[],_,h=>absurd rfl h
 | _::_,[],_,_=>rfl
 | [],_::_,h,_=>by simp[Op.bytesLess]at h
 | a::x,b::y,h,hn=>by
  simp only[Op.bytesLess,Bool.or_eq_false_iff,decide_eq_false_iff_not,Bool.and_eq_false_iff]at h
  simp only[Op.bytesLess,Bool.or_eq_true,decide_eq_true_eq,Bool.and_eq_true,beq_iff_eq]
  by_cases hba:b<a
  ·exact .inl hba
  ·right
   have hab:a=b:=by
    apply UInt8.toNat_inj.1
    have g1:¬a.toNat<b.toNat:=h.1
    have g2:¬b.toNat<a.toNat:=hba
    omega
   subst hab
   refine⟨rfl,?_⟩
   rcases h.2 with h2|h2
   ·simp at h2
   ·exact zG h2 (fun e=>hn (by rw[e]))
theorem zE:∀{x y z:List UInt8},Op.bytesLess x y=true→Op.bytesLess y z=true→Op.bytesLess x z=true
 | _,[],_,h,_=>by simp[Op.bytesLess]at h
 | _,_::_,[],_,h=>by simp[Op.bytesLess]at h
 | [],_::_,_::_,_,_=>rfl
 | a::x,b::y,c::z,h,k=>by
  simp only[Op.bytesLess,Bool.or_eq_true,decide_eq_true_eq,Bool.and_eq_true,beq_iff_eq]at h k ⊢
  rcases h with h|⟨h1,h2⟩<;>rcases k with k|⟨k1,k2⟩
  ·left
   have g1:a.toNat<b.toNat:=h
   have g2:b.toNat<c.toNat:=k
   exact(show a.toNat<c.toNat by omega)
  ·subst k1;exact .inl h
  ·subst h1;exact .inl k
  ·subst h1;subst k1;exact .inr ⟨rfl,zE h2 k2⟩
end Go.Vc

namespace Go.Vc
open Go.RowKit
set_option linter.unusedSimpArgs false
set_option linter.unusedVariables false
theorem u9:∀{l:List (Nat×Row)} {k:Nat} {e:Nat×Row},e∈l→e.1≠k→e∈aQ l k
 | [],_,_,h,_=>by cases h
 | (k',v)::l,k,e,h,hk=>by
  simp only[aQ]
  rcases List.mem_cons.1 h with h|h
  ·subst h
   rw[if_neg hk];simp
  ·have:=u9 h hk
   split
   ·exact this
   ·exact List.mem_cons_of_mem _ this
theorem aO.reset {x:Cx} {v:AV} (hv:∀cv,aB x .e0 cv→aB x v cv):∀{cs:List AV} {j b o:Nat},cs.getD j .un=.e0→aO x cs b o→aO x (cs.set j v) b o
 | [],j,b,o,h,_=>by simp at h
 | c::cs,0,b,o,h,hc=>by
  simp only[List.getD_cons_zero]at h
  subst h
  simp only[aO,List.set_cons_zero]at hc ⊢
  obtain⟨⟨u,h1,h2⟩,h3⟩:=hc
  exact⟨⟨u,h1,hv u h2⟩,h3⟩
 | c::cs,j+1,b,o,h,hc=>by
  simp only[List.getD_cons_succ]at h
  simp only[aO,List.set_cons_succ]at hc ⊢
  exact⟨hc.1,aO.reset hv h hc.2⟩
theorem SRel.recell {e:Env} {σ:St} {x:Cx} {a:Act} (h:SRel e σ x a) {b:Nat} {cs cs':List AV} (hm:(b,.box cs)∈σ.st) (hl:cs'.length=cs.length) (hc:∀bl o,aO x cs bl o→aO x cs' bl o):
  SRel e ⟨σ.fr,(b,.box cs')::aQ σ.st b⟩ x a:=by
 have old:∀q u,(q,u)∈(b,Row.box cs')::aQ σ.st b→∃u',(q,u')∈σ.st∧((q=b∧u=.box cs'∧u'=.box cs)∨u=u'):=fun q u hq=>by
  rcases List.mem_cons.1 hq with hq|hq
  ·injection hq with h1 h2;subst h1;subst h2
   exact⟨_,hm,.inl ⟨rfl,rfl,rfl⟩⟩
  ·exact⟨u,(bE hq).1,.inr rfl⟩
 have own:∀bb,d6 ((b,Row.box cs')::aQ σ.st b) x.ρ bb↔d6 σ.st x.ρ bb:=fun bb=>by
  constructor
  ·rintro⟨q,u,h1,h2⟩
   obtain⟨u',h3,_⟩:=old q u h1
   exact⟨q,u',h3,h2⟩
  ·rintro⟨q,u,h1,h2⟩
   by_cases hq:q=b
   ·subst hq;exact⟨q,_,List.mem_cons_self ..,h2⟩
   ·exact⟨q,u,List.mem_cons_of_mem _ (u9 h1 hq),h2⟩
 exact { h with
  st:=fun q u hq=>by
   obtain⟨u',h1,h2⟩:=old q u hq
   rcases h2 with⟨rfl,rfl,rfl⟩|rfl
   ·have:=h.st q _ h1
    simp only[Row.rel,hl]at this ⊢
    exact⟨this.1,this.2.1,hc _ _ this.2.2⟩
   ·exact h.st q u h1
  keys:=by
   simp only[List.map_cons,List.nodup_cons]
   refine⟨fun hk=>?_,fC h.keys⟩
   obtain⟨⟨q,u⟩,h1,h2⟩:=List.mem_map.1 hk
   exact(bE h1).2 h2
  inj:=fun q u q' u' hq hq'=>by
   obtain⟨u1,h1,_⟩:=old q u hq
   obtain⟨u2,h2,_⟩:=old q' u' hq'
   exact h.inj q u1 q' u2 h1 h2
  F:=fun bb=>(h.F bb).trans (or_congr Iff.rfl (own bb).symm)
  own:=fun q u hq=>by
   obtain⟨u1,h1,_⟩:=old q u hq
   exact h.own q u1 h1 }
def St.virtB (σ:St) (b j r s:Nat):St:=match aL σ.st r with
 | none=>if r<200000 then(match aL (σ.newRow r (.sl s [])).st b with
  | some (.box cs)=>(match cs.getD j .un with
   | .e0=>⟨(σ.newRow r (.sl s [])).fr,(b,.box (cs.set j (.row r 0 0)))::aQ (σ.newRow r (.sl s [])).st b⟩
   | _=>σ)
  | _=>σ)else σ
 | some _=>σ
theorem SRel.virtB {e:Env} {σ:St} {x:Cx} {a:Act} (h:SRel e σ x a) (b j r s:Nat):∃y,y.w=x.w∧SRel e (σ.virtB b j r s) y a:=by
 unfold St.virtB
 split
 ·split
  ·rename_i hr2
   have h3:=h.fresh (w':=x.w) (Below.refl _ _) r (.sl s []) ⟨0,0,0,s,false,0⟩ (fun hf=>by cases hf) (.inl ⟨rfl,rfl⟩) hr2
   split
   ·rename_i cs hb
    split
    ·rename_i hj
     refine⟨bA e σ x x.w r (.sl s []) ⟨0,0,0,s,false,0⟩,rfl,h3.recell (aH hb) (by simp) fun bl o hc=>aO.reset (fun cv h2=>?_) hj hc⟩
     simp only[aB]at h2
     unfold aB
     exact .inl ⟨rfl,fun hk=>by simp[bA,bT]at hk,h2⟩
    ·exact⟨x,rfl,h⟩
   ·exact⟨x,rfl,h⟩
  ·exact⟨x,rfl,h⟩
 ·exact⟨x,rfl,h⟩
def St.nilB (σ:St) (b j:Nat):St:=match aL σ.st b with
 | some (.box cs)=>(match cs.getD j .un with
  | .e0=>⟨σ.fr,(b,.box (cs.set j (.pv (.lst []))))::aQ σ.st b⟩
  | _=>σ)
 | _=>σ
theorem SRel.nilB {e:Env} {σ:St} {x:Cx} {a:Act} (h:SRel e σ x a) (b j:Nat):SRel e (σ.nilB b j) x a:=by
 unfold St.nilB
 split
 ·rename_i cs hb
  split
  ·rename_i hj
   refine h.recell (aH hb) (by simp) fun bl o hc=>aO.reset (fun cv h2=>?_) hj hc
   simp only[aB]at h2
   obtain⟨a,rfl⟩:=h2
   simp only[aB,aG]
   exact⟨a,0,0,rfl,rfl,Nat.le_refl _,fun hn=>absurd hn (by omega)⟩
  ·exact h
 ·exact h
def St.virtBs (σ:St):List (Nat×Nat×Nat×Nat)→St
 | []=>σ
 | (b,j,r,s)::l=>(if s=0 then σ.nilB b j else σ.virtB b j r s).virtBs l
theorem SRel.virtBs {e:Env} {a:Act}:∀(l:List (Nat×Nat×Nat×Nat)) {σ:St} {x:Cx},SRel e σ x a→∃y,y.w=x.w∧SRel e (σ.virtBs l) y a
 | [],_,x,h=>⟨x,rfl,h⟩
 | (b,j,r,s)::l,σ,x,h=>by
  unfold St.virtBs
  split
  ·exact SRel.virtBs l (h.nilB b j)
  ·obtain⟨y,h1,h2⟩:=h.virtB b j r s
   obtain⟨z,h3,h4⟩:=SRel.virtBs l h2
   exact⟨z,h3.trans h1,h4⟩
theorem eC.virts (σ:St) (vs:List (Nat×Nat×Nat)):eC σ (σ.virts vs):=fun _ _ _ h=>h.virts vs
theorem eC.virtBs (σ:St) (l:List (Nat×Nat×Nat×Nat)):eC σ (σ.virtBs l):=fun _ _ _ h=>h.virtBs l
theorem u7 {P:Program} {R:Exit→St→Prop} {k:List KI} {σ:St} {b:MC} {T:Type} (vs:T→List (Nat×Nat×Nat)) (bs:T→List (Nat×Nat×Nat×Nat)) (keep rows:List Nat) (I:T→St) (G:T→Prop) (μ:T→Nat) (t₀:T)
  (h0:((σ.virts (vs t₀)).virtBs (bs t₀)).norm keep rows=I t₀) (hG:G t₀)
  (h:∀t,G t→run P R b (.lp (fun σ'=>∃t',((σ'.virts (vs t')).virtBs (bs t')).norm keep rows=I t'∧G t'∧μ t'<μ t)::k) (I t)):run P R (.loop b) k σ:=
 u6 I (fun σ' t=>((σ'.virts (vs t)).virtBs (bs t)).norm keep rows=I t) (fun σ' t hw=>by rw[←hw];exact((eC.virts _ _).trans (eC.virtBs _ _)).trans (eC.norm _ _ _)) G μ t₀ h0 hG h
attribute [go_sem] St.virtBs St.virtB St.nilB
end Go.Vc

namespace Go.Vc
open Go.RowKit
set_option linter.unusedSimpArgs false
set_option linter.unusedVariables false
def tb {α:Type} (n:Nat) (f:Nat→α):List α:=(List.range n).map f
section
variable {e:Env} {σ:St} {x:Cx} {a:Act}
end
def GX (keep rows:List Nat) (σ τ:St):Prop:=∃υ,eC σ υ∧υ.norm keep rows=τ
theorem Gv {P:Program} {R:Exit→St→Prop} {k:List KI} {σ:St} {b:MC} {T:Type} (keep rows:List Nat) (I:T→St) (G:T→Prop) (μ:T→Nat) (t₀:T)
  (h0:GX keep rows σ (I t₀)) (hG:G t₀)
  (h:∀t,G t→run P R b (.lp (fun σ'=>∃t',GX keep rows σ' (I t')∧G t'∧μ t'<μ t)::k) (I t)):run P R (.loop b) k σ:=
 u6 I (fun σ' t=>GX keep rows σ' (I t)) (fun σ' t ⟨τ,h1,h2⟩=>by rw[←h2];exact h1.trans (eC.norm _ _ _)) G μ t₀ h0 hG h
theorem eC.refl' (σ:St):eC σ σ:=fun e x a h=>⟨x,rfl,h⟩
end Go.Vc

namespace Go.Vc
open Go.RowKit
set_option linter.unusedSimpArgs false
set_option linter.unusedVariables false
def g9 (a b q:Nat):Nat:=if q=a then b else if q=b then a else q
theorem qM (a b q:Nat):g9 a b (g9 a b q)=q:=by
 unfold g9
 by_cases h1:q=a
 ·rw[if_pos h1]
  by_cases h2:b=a
  ·rw[if_pos h2,h1,h2]
  ·rw[if_neg h2,if_pos rfl,h1]
 ·rw[if_neg h1]
  by_cases h2:q=b
  ·rw[if_pos h2,if_pos rfl,h2]
  ·rw[if_neg h2,if_neg h1,if_neg h2]
theorem FG {a b p q:Nat} (h:g9 a b p=g9 a b q):p=q:=by rw[←qM a b p,h,qM]
theorem FF {a b q:Nat} (h1:q≠a) (h2:q≠b):g9 a b q=q:=by unfold g9;rw[if_neg h1,if_neg h2]
def St.renA (m:Nat→Nat) (σ:St):St:=⟨σ.fr.map fun e=>(e.1,e.2.rn m),σ.st.map fun e=>(m e.1,e.2.rn m)⟩
theorem eC.ren {a b:Nat} (ha:a<200000) (hb:b<200000) (σ:St):eC σ (σ.renA (g9 a b)):=fun e x act h=>by
 have hpp:(x.pull (g9 a b)).pull (g9 a b)=x:=by
  obtain⟨w,F,ρ⟩:=x
  simp only[Cx.pull,qM]
 have hρ:∀r,(x.pull (g9 a b)).ρ (g9 a b r)=x.ρ r:=fun r=>by show x.ρ (g9 a b (g9 a b r))=_;rw[qM]
 have old:∀q row,(q,row)∈(σ.renA (g9 a b)).st→∃r u,(r,u)∈σ.st∧q=g9 a b r∧row=u.rn (g9 a b):=fun q row hm=>by
  obtain⟨⟨r,u⟩,h1,h2⟩:=List.mem_map.1 hm
  injection h2 with h3 h4
  exact⟨r,u,h1,h3.symm,h4.symm⟩
 have ownI:∀bl,d6 (σ.renA (g9 a b)).st (x.pull (g9 a b)).ρ bl↔d6 σ.st x.ρ bl:=fun bl=>by
  constructor
  ·rintro⟨q,row,hm,h1,h2⟩
   obtain⟨r,u,h3,rfl,rfl⟩:=old q row hm
   rw[hρ]at h1 h2
   exact⟨r,u,h3,h1,h2⟩
  ·rintro⟨r,u,hm,h1,h2⟩
   exact⟨g9 a b r,u.rn (g9 a b),List.mem_map.2 ⟨_,hm,rfl⟩,by rw[hρ];exact h1,by rw[hρ];exact h2⟩
 refine⟨x.pull (g9 a b),rfl,?_⟩
 exact {
  defers:=h.defers
  size:=h.size
  fr:=fun k v hm=>by
   obtain⟨⟨k',u⟩,h1,h2⟩:=List.mem_map.1 hm
   injection h2 with h3 h4
   subst h3;subst h4
   obtain⟨cv,h5,h6⟩:=h.fr _ _ h1
   exact⟨cv,h5,(kJ (x.pull (g9 a b)) (g9 a b) u).2 (by rw[hpp];exact h6)⟩
  st:=fun q row hm=>by
   obtain⟨r,u,h1,rfl,rfl⟩:=old q row hm
   rw[hρ]
   exact(yK (x.pull (g9 a b)) (g9 a b) (x.ρ r) u).2 (by rw[hpp];exact h.st r u h1)
  keys:=by
   show((σ.st.map fun e=>(g9 a b e.1,e.2.rn (g9 a b))).map (·.1)).Nodup
   rw[List.map_map]
   have:=h.keys
   rw[List.Nodup,List.pairwise_map]at this ⊢
   exact this.imp fun hab e=>hab (FG e)
  inj:=fun q row q' row' hm hm' hne h1 h2=>by
   obtain⟨r,u,h3,rfl,rfl⟩:=old q row hm
   obtain⟨r',u',h4,rfl,rfl⟩:=old q' row' hm'
   rw[hρ]at h1 h2 ⊢
   rw[hρ]
   exact h.inj r u r' u' h3 h4 (fun e=>hne (by rw[e])) h1 h2
  F:=fun bl=>by rw[ownI];exact h.F bl
  own:=fun q row hm h1=>by
   obtain⟨r,u,h3,rfl,rfl⟩:=old q row hm
   rw[hρ]at h1 ⊢
   exact h.own r u h3 h1
  f0:=h.f0
  below:=h.below
  fix:=fun r hr=>by
   show x.ρ (g9 a b r)=_
   rw[FF (by omega) (by omega)]
   exact h.fix r hr
  small:=h.small
  tabs:=h.tabs }
end Go.Vc

namespace Go.Vc
open Go.RowKit
set_option linter.unusedSimpArgs false
set_option linter.unusedVariables false
def Q2 (P:Program) (f:FuncId) (args:List AV) (st:List (Nat×Row)) (v:AV) (st':List (Nat×Row)):Prop:=
 Cc P f∧∀(x:Cx) (vs:List Value),(∀b,x.F b→b<x.w.heap.size)→o8 P x.w x.F→Lent x st→aD x args vs→
  ∀u,CallsD P f ⟨vs⟩ u x.w fun en u' w'=>u'=u∧∃cv y,en=.returned cv∧y.w=w'∧ResS x st y v st' cv
theorem OB {P:Program} {f:FuncId} {fn:Func} {c:Code} {m:MC} {owns:List Nat} {rd:List (Nat×RD)} {args:List AV} {st:List (Nat×Row)} {v:AV} {st':List (Nat×Row)} {rvs:List RV}
  (hm:P.follows .mixedOrders=true) (hf:P.funcs[f]?=some fn) (hname:(fn.name == "runtime.NumGoroutine")=false) (hb:fn.body=some c) (hc:bX P owns fn.ntmps rd c=some m)
  (hr:kD P fn.results.toList=some rvs) (hn:args.length≤fn.ntmps) (hsm:fn.ntmps≤100000) (hk:(st'.map (·.1)).Nodup) (hv:m.vc P (CJ rvs v st') ⟨fY 0 args,st⟩):Q2 P f args st v st':=by
 refine⟨fT hf hname hb,fun x vs hF htb hl hargs u=>callsD_of_wp hf hb ?_⟩
 let e:Env:=⟨P,x.w,fun b=>x.F b∧¬d6 st x.ρ b,fn.ntmps,d6 st x.ρ,x.ρ,[]⟩
 have:EP e P:=⟨rfl⟩
 have hlen:=kM hargs
 have hown:∀b,d6 st x.ρ b→x.F b:=fun b ⟨r,row,h1,h2,h3⟩=>h3▸hl.F r row h1 h2
 have hS:SRel e ⟨fY 0 args,st⟩ x { tmps:=(⟨vs⟩:Array Value)++Array.replicate (fn.ntmps-(⟨vs⟩:Array Value).size) undef,defers:=[] }:={
  defers:=rfl
  size:=by simp[e,hlen];omega
  fr:=fun k u hm=>by
   obtain⟨cv,j,h1,h2,h3⟩:=oD hargs hm
   refine⟨cv,?_,h3⟩
   have hj:j<vs.length:=(List.getElem?_eq_some_iff.1 h2).1
   have hkj:k=j:=by omega
   subst hkj
   rw[Array.getElem?_append_left (by simpa using hj)]
   simpa using h2
  st:=hl.st
  keys:=hl.keys
  inj:=hl.inj
  F:=fun b=>by
   show x.F b↔(x.F b∧¬d6 st x.ρ b)∨d6 st x.ρ b
   constructor
   ·intro hb
    by_cases ho:d6 st x.ρ b
    ·exact .inr ho
    ·exact .inl ⟨hb,ho⟩
   ·rintro(hb|hb)
    ·exact hb.1
    ·exact hown b hb
  own:=fun r row hm hok=>.inr ⟨r,row,hm,hok,rfl⟩
  f0:=fun b hb=>⟨hF b hb.1,hb.2⟩
  tabs:=htb.sub fun b h=>h.elim (fun h=>h.1) (fun h=>hown b h)
  below:=BelowL.refl _ _
  fix:=fun _ _=>rfl
  small:=hsm }
 refine wp_mono (MC.sound (e:=e) hm c m hc _ _ _ _ hS hv) fun ex a w' hq=>?_
 have fin:∀{σ:St} {y:Cx},SRel e σ y a→y.w=w'→BM rvs v st' σ→a.defers=[]∧∃cv,(results fn a.tmps).run P w'=.ok cv w'∧∃cv' z,Ending.returned cv=Ending.returned cv'∧z.w=w'∧ResS x st z v st' cv':=fun {σ y} hs hw hk'=>by
  unfold BM at hk'
  split at hk'
  ·rename_i us k1
   split at hk'
   ·rename_i vs' k2
    obtain⟨k3,k4⟩:=hk'
    obtain⟨cvs,g1,g2⟩:=l0 hs hr k1
    obtain⟨z,l1,l2⟩:=Ch hs (x0:=x) (st:=st) rfl rfl rfl rfl k2 hk k4 g1
    subst hw
    rw[k3]at l2
    exact⟨hs.defers,_,g2,_,z,rfl,l1,l2⟩
   ·exact hk'.elim
  ·exact hk'.elim
 cases ex with
 | normal=>obtain⟨σ,y,h1,h2,h3⟩:=hq;exact fin h1 h2 h3
 | ret=>obtain⟨σ,y,h1,h2,h3⟩:=hq;exact fin h1 h2 h3
 | exit id=>obtain⟨σ,y,h1,h2,h3⟩:=hq;exact h3.elim
 | _=>exact hq.elim
section
variable {P:Program} {e:Env} {σ:St} {x:Cx} {a:Act}
theorem SRel.renQ [EP e P] (h:SRel e σ x a) (p q:Nat):SRel { e.at σ x with ρ0:=(x.pull (g9 p q)).ρ } (σ.renA (g9 p q)) (x.pull (g9 p q)) a:=by
 have h':=h.at (P:=P)
 have hpp:(x.pull (g9 p q)).pull (g9 p q)=x:=by
  obtain⟨w,F,ρ⟩:=x
  simp only[Cx.pull,qM]
 have hρ:∀r,(x.pull (g9 p q)).ρ (g9 p q r)=x.ρ r:=fun r=>by show x.ρ (g9 p q (g9 p q r))=_;rw[qM]
 have old:∀k row,(k,row)∈(σ.renA (g9 p q)).st→∃r u,(r,u)∈σ.st∧k=g9 p q r∧row=u.rn (g9 p q):=fun k row hm=>by
  obtain⟨⟨r,u⟩,h1,h2⟩:=List.mem_map.1 hm
  injection h2 with h3 h4
  exact⟨r,u,h1,h3.symm,h4.symm⟩
 have ownI:∀bl,d6 (σ.renA (g9 p q)).st (x.pull (g9 p q)).ρ bl↔d6 σ.st x.ρ bl:=fun bl=>by
  constructor
  ·rintro⟨k,row,hm,h1,h2⟩
   obtain⟨r,u,h3,rfl,rfl⟩:=old k row hm
   rw[hρ]at h1 h2
   exact⟨r,u,h3,h1,h2⟩
  ·rintro⟨r,u,hm,h1,h2⟩
   exact⟨g9 p q r,u.rn (g9 p q),List.mem_map.2 ⟨_,hm,rfl⟩,by rw[hρ];exact h1,by rw[hρ];exact h2⟩
 exact {
  defers:=h'.defers
  size:=h'.size
  fr:=fun k v hm=>by
   obtain⟨⟨k',u⟩,h1,h2⟩:=List.mem_map.1 hm
   injection h2 with h3 h4
   subst h3;subst h4
   obtain⟨cv,h5,h6⟩:=h'.fr _ _ h1
   exact⟨cv,h5,(kJ (x.pull (g9 p q)) (g9 p q) u).2 (by rw[hpp];exact h6)⟩
  st:=fun k row hm=>by
   obtain⟨r,u,h1,rfl,rfl⟩:=old k row hm
   rw[hρ]
   exact(yK (x.pull (g9 p q)) (g9 p q) (x.ρ r) u).2 (by rw[hpp];exact h'.st r u h1)
  keys:=by
   show((σ.st.map fun e=>(g9 p q e.1,e.2.rn (g9 p q))).map (·.1)).Nodup
   rw[List.map_map]
   have:=h'.keys
   rw[List.Nodup,List.pairwise_map]at this ⊢
   exact this.imp fun hab e=>hab (FG e)
  inj:=fun k row k' row' hm hm' hne h1 h2=>by
   obtain⟨r,u,h3,rfl,rfl⟩:=old k row hm
   obtain⟨r',u',h4,rfl,rfl⟩:=old k' row' hm'
   rw[hρ]at h1 h2 ⊢
   rw[hρ]
   exact h'.inj r u r' u' h3 h4 (fun e=>hne (by rw[e])) h1 h2
  F:=fun bl=>by
   rw[ownI];exact h'.F bl
  own:=fun k row hm h1=>by
   obtain⟨r,u,h3,rfl,rfl⟩:=old k row hm
   rw[hρ]at h1 ⊢
   exact h'.own r u h3 h1
  f0:=h'.f0
  below:=h'.below
  fix:=fun _ _=>rfl
  small:=h'.small
  tabs:=h'.tabs }
theorem SRel.dfr (h:SRel e σ x a) (t:Nat) (cv:Value) (ds:List Deferred):SRel { e with D:=ds } ⟨kF σ.fr t,σ.st⟩ x { a.put (some t) cv with defers:=ds }:=
 {h with
  defers:=rfl
  size:=by simp only[Act.put,Array.size_setIfInBounds];exact h.size
  fr:=fun k v hm=>by
   obtain⟨h1,h2⟩:=fS hm
   obtain⟨cu,h3,h4⟩:=h.fr k v h1
   exact⟨cu,by simp only[Act.put];rw[Array.getElem?_setIfInBounds_ne (fun e=>h2 e.symm)];exact h3,h4⟩ }
theorem SRel.unput {d:Nat} {cv:Value} (h:SRel e σ x (a.put (some d) cv)):SRel e ⟨kF σ.fr d,σ.st⟩ x a:=
 {h with
  defers:=h.defers
  size:=by have:=h.size;simp only[Act.put,Array.size_setIfInBounds]at this;exact this
  fr:=fun k v hm=>by
   obtain⟨h1,h2⟩:=fS hm
   obtain⟨cu,h3,h4⟩:=h.fr k v h1
   simp only[Act.put]at h3
   rw[Array.getElem?_setIfInBounds_ne (fun e=>h2 e.symm)]at h3
   exact⟨cu,h3,h4⟩ }
end
abbrev hH:Nat→Nat:=fun q=>q
mutual
theorem AV.rn_id:∀v:AV,v.rn hH=v
 | .un=>rfl
 | .pv p=>rfl
 | .agg cs=>by simp only[AV.rn,AV.rns_id cs]
 | .tup cs=>by simp only[AV.rn,AV.rns_id cs]
 | .e0=>rfl
 | .lit cs=>by simp only[AV.rn,AV.rns_id cs]
 | .row r off n=>rfl
 | .ptr r off=>rfl
 | .rptr r i off=>rfl
 | .eptr xs i off=>rfl
 | .cptr cs off=>rfl
 | .ful xs=>rfl
 | .fn f cs=>by simp only[AV.rn,AV.rns_id cs]
 | .bnd f cs=>by simp only[AV.rn,AV.rns_id cs]
 | .mp r=>rfl
 | .it r=>rfl
 | .whn c v=>by simp only[AV.rn,AV.rn_id v]
theorem AV.rns_id:∀vs:List AV,AV.rns hH vs=vs
 | []=>rfl
 | v::vs=>by simp only[AV.rns,AV.rn_id v,AV.rns_id vs]
end
theorem Row.rn_id:∀r:Row,r.rn hH=r
 | .box cs=>by simp only[Row.rn,AV.rns_id]
 | .sl s xs=>rfl
 | .slf s xs=>rfl
 | .bxs cs=>by simp only[Row.rn,AV.rns_id]
 | .mp es=>rfl
 | .sit s pos=>rfl
 | .mit q n rem cur=>rfl
 | .mpd es clock=>rfl
 | .mpx ks vs=>by simp only[Row.rn,AV.rns_id]
 | .mid q n bs rem cur=>rfl
 | .gone=>rfl
def Ez (P:Program) (g:FuncId) (Q d:Nat) (rvs:List RV) (v:AV) (st':List (Nat×Row)) (σ:St):Prop:=
 ∃row row' vd,aL σ.st Q=some row∧Q2 P g [.ptr Q 0] [(Q,row)] vd [(Q,row')]∧BM rvs v st' ⟨kF (σ.afterS d hH [(Q,row)] vd [(Q,row')]).fr d,(σ.afterS d hH [(Q,row)] vd [(Q,row')]).st⟩
def R1 (P:Program) (g:FuncId) (Q d:Nat) (rvs:List RV) (v:AV) (st':List (Nat×Row)):Exit→St→Prop
 | .normal,σ=>Ez P g Q d rvs v st' σ
 | .ret,σ=>Ez P g Q d rvs v st' σ
 | _,_=>False
def LG (P:Program) (m1:MC) (g:FuncId) (tb tc Q d:Nat) (rvs:List RV) (v:AV) (st':List (Nat×Row)):Exit→St→Prop
 | .normal,σ=>∃rb,bC σ.fr tb=.ptr rb 0∧rb<200000∧m1.vc P (R1 P g Q d rvs v st') ⟨kF (σ.renA (g9 rb Q)).fr tc,(σ.renA (g9 rb Q)).st⟩
 | _,_=>False
def c0Of:Code→Code
 | .seq a _=>a
 | c=>c
def Rf:Code→Oper
 | .seq _ (.seq (.region _ ops _) _)=>ops.getD 0 default
 | _=>default
def R2:Code→Oper
 | .seq _ (.seq (.region _ ops _) _)=>ops.getD 1 default
 | _=>default
def Rj:Code→Nat
 | .seq _ (.seq (.region n _ _) _)=>n
 | _=>0
def c1Of:Code→Code
 | .seq _ (.seq _ c)=>c
 | c=>c
theorem CF {P:Program} {f g:FuncId} {fn:Func} {c0 c1:Code} {m0 m1:MC} {id:Nat} {mf df:Oper} {owns:List Nat} {rd rd1:List (Nat×RD)} {args:List AV} {st:List (Nat×Row)} {v:AV} {st':List (Nat×Row)} {rvs:List RV} {tb tc Q d:Nat}
  (hm:P.follows .mixedOrders=true) (hf:P.funcs[f]?=some fn) (hname:(fn.name == "runtime.NumGoroutine")=false) (hb:fn.body=some (.seq c0 (.seq (.region id #[mf,df] false) c1)))
  (hc0:bX P owns fn.ntmps rd c0=some m0) (hc1:bX P owns fn.ntmps rd1 c1=some m1)
  (hmf:mf.op=.makeFunc (.func g) #[] #[.tmp tb]) (hmd:mf.dst=some tc) (hmg:mf.guard=none) (hdf:df.op=.defer { callee:=.value (.tmp tc),args:=#[],argTypes:=#[] }) (hdd:df.dst=none) (hdg:df.guard=none)
  (htc:tc<fn.ntmps) (hd:d<fn.ntmps) (hQ:200000≤Q)
  (hr:kD P fn.results.toList=some rvs) (hn:args.length≤fn.ntmps) (hsm:fn.ntmps≤100000) (hk:(st'.map (·.1)).Nodup)
  (hst:∀r row,(r,row)∈st→200000≤r∧r≠Q) (hst':∀r row,(r,row)∈st'→200000≤r∧r≠Q)
  (hpv:∀w F ρ ρ' cv,aB ⟨w,F,ρ⟩ v cv→aB ⟨w,F,ρ'⟩ v cv) (hps:∀r row,(r,row)∈st'→∀w F ρ ρ' l,row.rel ⟨w,F,ρ⟩ l→row.rel ⟨w,F,ρ'⟩ l)
  (hv:m0.vc P (LG P m1 g tb tc Q d rvs v st') ⟨fY 0 args,st⟩):j4 P f args st v st':=by
 refine⟨fT hf hname hb,fun x vs hF htb hl hargs=>calls_of_wp_defers hf hb ?_⟩
 let e:Env:=⟨P,x.w,fun b=>x.F b∧¬d6 st x.ρ b,fn.ntmps,d6 st x.ρ,x.ρ,[]⟩
 have:EP e P:=⟨rfl⟩
 have hlen:=kM hargs
 have hown:∀b,d6 st x.ρ b→x.F b:=fun b ⟨r,row,h1,h2,h3⟩=>h3▸hl.F r row h1 h2
 have hS:SRel e ⟨fY 0 args,st⟩ x { tmps:=(⟨vs⟩:Array Value)++Array.replicate (fn.ntmps-(⟨vs⟩:Array Value).size) undef,defers:=[] }:={
  defers:=rfl
  size:=by simp[e,hlen];omega
  fr:=fun k u hm=>by
   obtain⟨cv,j,h1,h2,h3⟩:=oD hargs hm
   refine⟨cv,?_,h3⟩
   have hj:j<vs.length:=(List.getElem?_eq_some_iff.1 h2).1
   have hkj:k=j:=by omega
   subst hkj
   rw[Array.getElem?_append_left (by simpa using hj)]
   simpa using h2
  st:=hl.st
  keys:=hl.keys
  inj:=hl.inj
  F:=fun b=>by
   show x.F b↔(x.F b∧¬d6 st x.ρ b)∨d6 st x.ρ b
   constructor
   ·intro hb
    by_cases ho:d6 st x.ρ b
    ·exact .inr ho
    ·exact .inl ⟨hb,ho⟩
   ·rintro(hb|hb)
    ·exact hb.1
    ·exact hown b hb
  own:=fun r row hm hok=>.inr ⟨r,row,hm,hok,rfl⟩
  f0:=fun b hb=>⟨hF b hb.1,hb.2⟩
  tabs:=htb.sub fun b h=>h.elim (fun h=>h.1) (fun h=>hown b h)
  below:=BelowL.refl _ _
  fix:=fun _ _=>rfl
  small:=hsm }
 refine wp_seq ?_
 refine wp_mono (MC.sound (e:=e) hm c0 m0 hc0 _ _ _ _ hS hv) fun ex a1 w1 hq=>?_
 cases ex with
 | ret=>obtain⟨_,_,_,_,h3⟩:=hq;exact h3.elim
 | exit id=>obtain⟨_,_,_,_,h3⟩:=hq;exact h3.elim
 | normal=>
  obtain⟨σ1,x1,hS1,rfl,rb,hrb,hrl,hv1⟩:=hq
  show(Code.seq (.region id #[mf,df] false) c1).wp P _ a1 x1.w
  have hptr:=hS1.get tb
  rw[hrb]at hptr
  obtain⟨pv,hpvv⟩:∃pv,pv=a1.eval (.tmp tb):=⟨_,rfl⟩
  have hptr:aB x1 (.ptr rb 0) pv:=by rw[hpvv];exact hptr
  obtain⟨cl,hcl⟩:∃cl,cl=Value.func (.func g) #[] #[pv]:=⟨_,rfl⟩
  obtain⟨dd,hdd'⟩:∃dd:Deferred,dd={ target:=.fn (.func g) #[pv],args:=#[] }:=⟨_,rfl⟩
  have hd1:a1.defers=[]:=hS1.defers
  have e1:(execOp a1.eval mf).run P x1.w=.ok (.value cl) x1.w:=by
   simp[execOp,hmf,Instr.makeFunc,hcl,hpvv]
  have hev:(a1.put (some tc) cl).eval (.tmp tc)=cl:=by
   have hsz:tc<a1.tmps.size:=by rw[hS1.size];exact htc
   simp[Act.eval,Act.put,hsz]
  have e2:(execOp (a1.put (some tc) cl).eval df).run P x1.w=.ok (.defer dd) x1.w:=by
   simp only[execOp,hdf,resolve]
   rw[hev]
   simp[hcl,Deferred.ofValue,hdd']
  refine wp_seq (wp_region_list ?_)
  show wpList P #[mf,df] _ [mf,df] a1 x1.w
  unfold wpList
  rw[if_pos (by simp[Region.wanted,hmg])]
  left
  unfold Oper.wp
  rw[e1,Oper.upon_value,hmd]
  unfold wpList
  rw[if_pos (by simp[Region.wanted,hdg])]
  left
  unfold Oper.wp
  rw[e2,Oper.upon_defer,hdd]
  unfold wpList
  show c1.wp P _ _ x1.w
  have ha3:({ a1.put (some tc) cl with defers:=dd::(a1.put (some tc) cl).defers }:Act).put none undef={ a1.put (some tc) cl with defers:=[dd] }:=by
   simp[Act.put,hd1]
  rw[ha3]
  have hR:=hS1.renQ (P:=P) rb Q
  have hD:=hR.dfr tc cl [dd]
  let e2:Env:={ { e.at σ1 x1 with ρ0:=(x1.pull (g9 rb Q)).ρ } with D:=[dd] }
  have:EP e2 P:=⟨rfl⟩
  have hswQ:g9 rb Q Q=rb:=by
   unfold g9
   by_cases h:Q=rb
   ·rw[if_pos h];exact h
   ·rw[if_neg h,if_pos rfl]
  have hρ0:∀r,200000≤r→r≠Q→e2.ρ0 r=x.ρ r:=fun r h1 h2=>by
   show x1.ρ (g9 rb Q r)=x.ρ r
   rw[FF (by omega) h2]
   exact hS1.fix r h1
  have hOwn:∀b,d6 st e2.ρ0 b↔d6 st x.ρ b:=fun b=>by
   constructor
   ·rintro⟨r,row,h1,h2,h3⟩
    obtain⟨h4,h5⟩:=hst r row h1
    rw[hρ0 r h4 h5]at h2 h3
    exact⟨r,row,h1,h2,h3⟩
   ·rintro⟨r,row,h1,h2,h3⟩
    obtain⟨h4,h5⟩:=hst r row h1
    exact⟨r,row,h1,by rw[hρ0 r h4 h5];exact h2,by rw[hρ0 r h4 h5];exact h3⟩
  refine wp_mono (MC.sound (e:=e2) hm c1 m1 hc1 _ _ (x1.pull (g9 rb Q)) _ hD hv1) fun ex a4 w4 hq=>?_
  have fin:∀{σ2:St} {y:Cx},SRel e2 σ2 y a4→y.w=w4→Ez P g Q d rvs v st' σ2→Leaves P fn a4.tmps (fun en w'=>∃cv y,en=.returned cv∧y.w=w'∧ResS x st y v st' cv) a4.defers .returning w4:=fun {σ2 y} hS2 hw hend=>by
   subst hw
   obtain⟨row,row',vd,hrow,hF,hret⟩:=hend
   have hd4:a4.defers=[dd]:=hS2.defers
   rw[hd4,hdd']
   have hi:(invoke (.fn (.func g) #[pv]) #[]).run P y.w=.ok (.enter g #[pv]) y.w:=by
    have:=hF.1 #[pv] y.w
    simpa[invoke]using this
   refine leaves_cons (by simp) hi ?_
   have hρ:y.ρ Q=x1.ρ rb:=by
    rw[hS2.fix Q hQ]
    show x1.ρ (g9 rb Q Q)=_
    rw[hswQ]
   have hptr':aB y (.ptr Q 0) pv:=by
    simp only[aB]at hptr ⊢
    rw[hρ];exact hptr
   have hmem:=aH hrow
   have hlent:Lent y [(Q,row)]:={
    st:=fun r u hm=>by
     simp only[List.mem_singleton,Prod.mk.injEq]at hm
     obtain⟨rfl,rfl⟩:=hm
     exact hS2.st _ _ hmem
    keys:=by simp
    inj:=fun r u r' u' hm hm' hne=>by
     simp only[List.mem_singleton,Prod.mk.injEq]at hm hm'
     exact absurd (hm.1.trans hm'.1.symm) hne
    F:=fun r u hm hok=>by
     simp only[List.mem_singleton,Prod.mk.injEq]at hm
     obtain⟨rfl,rfl⟩:=hm
     exact(hS2.F _).2 (.inr ⟨_,_,hmem,hok,rfl⟩) }
   refine((hF.2 y [pv] (fun b hb=>Ek hS2 hb) hS2.now hlent (by simp only[aD];exact⟨pv,[],rfl,hptr',rfl⟩)) .returning).mono fun en u' w' ⟨hu,cv,z,g1,g2,hr'⟩=>?_
   subst g1
   subst hu
   show Leaves P fn a4.tmps _ [] .returning w'
   obtain⟨z',k1,k2⟩:=hS2.lent (d:=d) hd (m:=hH) (st:=[(Q,row)]) (st':=[(Q,row')]) (fun r u hm=>by
    simp only[List.mem_singleton,Prod.mk.injEq]at hm
    obtain⟨rfl,rfl⟩:=hm
    rw[Row.rn_id];exact hmem) hr' (by simp) (fun r u hm hlt=>by
    simp only[List.mem_singleton,Prod.mk.injEq]at hm
    exact hlt)
   have k3:=k1.unput
   generalize (⟨kF (σ2.afterS d hH [(Q,row)] vd [(Q,row')]).fr d,(σ2.afterS d hH [(Q,row)] vd [(Q,row')]).st⟩:St)=σ3 at hret k3
   unfold BM at hret
   split at hret
   ·rename_i us q1
    split at hret
    ·rename_i vs' q2
     obtain⟨q3,q4⟩:=hret
     obtain⟨cvs,q5,q6⟩:=l0 k3 hr q1
     let e3:Env:={ e with ρ0:=e2.ρ0,D:=[dd] }
     have k4:SRel e3 σ3 z' a4:={ k3 with
      own:=fun r u h1 h2=>by
       rcases k3.own r u h1 h2 with h3|h3
       ·exact .inl (Nat.le_trans hS1.below.size h3)
       ·exact d6.old hS1 h3
      f0:=hS1.f0
      below:=⟨k3.below.os.trans hS1.below.os,k3.below.tape.trans hS1.below.tape,k3.below.output.trans hS1.below.output,Nat.le_trans hS1.below.size k3.below.size,
       fun b hb hlb=>(k3.below.block b (Nat.lt_of_lt_of_le hb hS1.below.size) fun ho=>by
        rcases d6.old hS1 ho with h1|h1
        ·exact absurd hb (Nat.not_lt.2 h1)
        ·exact hlb h1).trans (hS1.below.block b hb hlb),trivial⟩
      fix:=k3.fix
      tabs:=hS1.tabs }
     obtain⟨zz,l1,l2⟩:=Ch k4 (x0:=⟨x.w,x.F,e2.ρ0⟩) (st:=st) rfl (funext fun b=>by
      show(x.F b∧¬d6 st x.ρ b)=(x.F b∧¬d6 st e2.ρ0 b)
      rw[propext (hOwn b)]) (funext fun b=>propext (hOwn b).symm) rfl q2 hk q4 q5
     rw[q3]at l2
     have hz:∀r,r≠Q→(fun r=>if r=Q then x.ρ Q else zz.ρ r) r=zz.ρ r:=fun r h=>if_neg h
     subst g2
     refine⟨_,by rw[←k2];exact q6,_,⟨zz.w,zz.F,fun r=>if r=Q then x.ρ Q else zz.ρ r⟩,rfl,l1.trans k2,{
      below:=by
       have:=l2.below
       rw[show(d6 st (⟨x.w,x.F,e2.ρ0⟩:Cx).ρ)=d6 st x.ρ from funext fun b=>propext (hOwn b)]at this
       exact this
      val:=hpv _ _ _ _ _ l2.val
      st:=fun r u h1=>by
       obtain⟨_,h3⟩:=hst' r u h1
       show u.rel _ (if r=Q then x.ρ Q else zz.ρ r)
       rw[if_neg h3]
       exact hps r u h1 _ _ _ _ _ (l2.st r u h1)
      keys:=l2.keys
      inj:=fun r u r' u' h1 h2 hne h3 h4=>by
       obtain⟨_,n1⟩:=hst' r u h1
       obtain⟨_,n2⟩:=hst' r' u' h2
       simp only[if_neg n1,if_neg n2]at h3 h4 ⊢
       exact l2.inj r u r' u' h1 h2 hne h3 h4
      own:=fun r u h1 h2=>by
       obtain⟨_,n1⟩:=hst' r u h1
       simp only[if_neg n1]at h2 ⊢
       exact(l2.own r u h1 h2).imp (fun h=>h) (hOwn _).1
      F:=fun b=>by
       have h1:=l2.F b
       have h2:d6 st' (fun r=>if r=Q then x.ρ Q else zz.ρ r) b↔d6 st' zz.ρ b:=by
        constructor
        ·rintro⟨r,u,h1,h2,h3⟩
         obtain⟨_,n1⟩:=hst' r u h1
         simp only[if_neg n1]at h2 h3
         exact⟨r,u,h1,h2,h3⟩
        ·rintro⟨r,u,h1,h2,h3⟩
         obtain⟨_,n1⟩:=hst' r u h1
         exact⟨r,u,h1,by simp only[if_neg n1];exact h2,by simp only[if_neg n1];exact h3⟩
       show zz.F b↔(x.F b∧¬d6 st x.ρ b)∨d6 st' (fun r=>if r=Q then x.ρ Q else zz.ρ r) b
       rw[h1,h2]
       show((x.F b∧¬d6 st e2.ρ0 b)∨_)↔_
       rw[propext (hOwn b)]
      stay:=fun r hr'=>by
       show(if r=Q then x.ρ Q else zz.ρ r)=x.ρ r
       by_cases hq:r=Q
       ·rw[if_pos hq,hq]
       ·rw[if_neg hq,l2.stay r hr']
        exact hρ0 r hr' hq }⟩
    ·exact hret.elim
   ·exact hret.elim
  cases ex with
  | normal=>obtain⟨σ2,y,h1,h2,h3⟩:=hq;exact fin h1 h2 h3
  | ret=>obtain⟨σ2,y,h1,h2,h3⟩:=hq;exact fin h1 h2 h3
  | exit id=>obtain⟨σ2,y,h1,h2,h3⟩:=hq;exact h3.elim
  | _=>exact hq.elim
 | _=>exact hq.elim
theorem El {P:Program} {m:MC} {K:Exit→St→Prop} {σ:St}:m.vc P K σ=run P K m [] σ:=by
 unfold run
 congr 1
 funext ex τ
 exact yZ.symm
theorem LU {P:Program} {f:FuncId} {fn:Func} {c:Code} {m:MC} {owns:List Nat} {rd:List (Nat×RD)} {args:List AV} {st:List (Nat×Row)} {v:AV} {st':List (Nat×Row)} {rvs:List RV}
  (hm:P.follows .mixedOrders=true) (hf:P.funcs[f]?=some fn) (hname:(fn.name == "runtime.NumGoroutine")=false) (hb:fn.body=some c) (hc:bX P owns fn.ntmps rd c=some m)
  (hr:kD P fn.results.toList=some rvs) (hn:args.length≤fn.ntmps) (hsm:fn.ntmps≤100000) (hk:(st'.map (·.1)).Nodup) (hv:run P (CJ rvs v st') m [] ⟨fY 0 args,st⟩):Q2 P f args st v st':=
 OB hm hf hname hb hc hr hn hsm hk (by rw[El];exact hv)
end Go.Vc

namespace Go.Vc
theorem QQ {a:Bool×List Sh} {qs:List PV} (h:yL [a] qs):∃p,qs=[p]∧C8 a p:=by
 simp only[yL]at h
 obtain⟨p,r,rfl,h1,rfl⟩:=h
 exact⟨p,rfl,h1⟩
theorem Iw {α:Type} {f:α→PV}:∀{xs:List PV},(∀x∈xs,∃a,x=f a)→∃l:List α,xs=l.map f
 | [],_=>⟨[],rfl⟩
 | x::xs,h=>by
  obtain⟨a,rfl⟩:=h x (by simp)
  obtain⟨l,rfl⟩:=Iw (xs:=xs) (fun y hy=>h y (by simp[hy]))
  exact⟨a::l,rfl⟩
end Go.Vc

namespace Go.Vc
open Go.RowKit Go.ChangeShapes Go.WideShapes Go.ChangeAt
def Na {H:Type}:DataW H→List Value
 | .lit (.int k n)=>[.int k n]
 | _=>[]
def Rg {H:Type}:DataW H→List Value
 | .agg cs=>cs.flatMap Na
 | d=>Na d
def yF {H:Type}:DataW H→List Value
 | .agg cs=>cs.flatMap Rg
 | d=>Na d
def CY (w:World) (b:Nat) (vs:List Value):World:={ w with heap:=w.heap.modify b fun
 | .cells _ t frozen=>.cells vs.toArray t frozen
 | o=>o }
section
variable {H:Type} {enc:TypeId×Value→H}
theorem Jm {C:Checked} {os:Os} {f:FuncId} {fn:Func} {s:ChangeSpec} {conds:List PathCond} {shs:List (Bool×List Sh)} {tb:TypeId} {X:World→Prop}
  (hX:∀(w w':World),w.heap=w'.heap→X w→X w') (hT:∀w,X w→o8 C.prog w (fun _=>False))
  (own:ownKnob C.prog.godebug=none) (started:os.Started) (noInit:C.prog.inits.idxOf? f=none) (hfn:C.prog.funcs[f]?=some fn)
  (witness:∃(w:World) (tape:Tape) (i:Input),w.os=os∧(w.forCall tape i).Shaped C.prog∧i.vars=[]∧Input.okWide C.prog (w.forCall tape i) .any w.heap.size f i∧
   ((s.pre enc C.prog fn conds false (w.forCall tape i).memory i.args∧X (w.forCall tape i).memory)∧sizedMet enc C.prog fn (OpenSpec.ofChange s) false (w.forCall tape i).memory i.args)∧({}:Assume).holds C.prog (lone (Frame.enter C.prog f i.args .normal) [] (w.forCall tape i)))
  (hvars:s.vars=[]) (hres:fn.resultTypes=#[tb]) (htb:C.prog.underlying tb=some .bool) (laid:laidOutB C.prog=true)
  (hread:fn.params.toList.all (fun t=>C.prog.readableRec t&&decide (t<C.prog.types.size))=true) (htop:yD C.prog fn.params.toList=some shs)
  (hs:∀ds:List (DataW H),ds.length=fn.params.toList.length→s.fn H ds={ results:=[.lit (.bool true)],args:=ds })
  (law:∀qs,yL shs qs→Fn C.prog f qs (.pv (.sc (.bool true))) []):
  ReturnsInHanded {} C os f .any (fun w args=>(s.pre enc C.prog fn conds false w args∧X w)∧sizedMet enc C.prog fn (OpenSpec.ofChange s) false w args) (s.post enc C.prog fn false true false false):=by
 refine returnsInHanded_of_change_and (X:=fun w _=>X w) (fun w w' _ hh h=>hX w w' hh h) own started noInit hfn witness ?_
 intro W base args ds gs before hval hW hx1 hx2 hx3 hx4
 have hW':=hW
 obtain⟨p,q,hA0,hV,rfl,_,_⟩:=hW
 have hA:DataW.TrodAll enc C.prog W 0 (fun _=>true) true fn.params.toList args.toList ds p:=hA0
 rw[hvars]at hV
 obtain⟨rfl,rfl⟩:=trodVars_none hV
 obtain⟨hl,qs,hok,hrel⟩:=Gc (r:=.any) (b0:=base) htop hA (fun j t v h1 h2=>hval j t v (by simpa using h1) (by simpa using h2))
 have hf:=(law qs hok).2 W (fun _=>False) args.toList (fun b h=>h.elim) (hT W (by assumption)) hrel
 refine hf.mono fun e W' h=>?_
 obtain⟨cv,y,rfl,rfl,hr⟩:=h
 have hcv:=hr.val
 simp only[aB,aG]at hcv
 subst hcv
 have hread':∀t∈fn.params.toList,C.prog.readableRec t=true∧t<C.prog.types.size:=by
  intro t ht
  have:=List.all_eq_true.1 hread t ht
  simpa using this
 have hst:=r6 laid hr.below hread' hA
 refine⟨_,rfl,ds,[],p++[],[],p,[],hW',?_,?_,?_,hr.below.toGo.frame _,fun h=>by cases h⟩
 ·rw[List.append_nil,hs ds hl,hres]
  exact trodAll_mk1 (shut_bool htb true)
 ·rw[List.append_nil,hs ds hl]
  exact hst
 ·rw[List.append_nil,hs ds hl,hvars]
  rfl
end
end Go.Vc
